/-
  Contract: a tile of an integral plane, in the program.
-/
import Derived.Test.YtoojiabdgaflgaaInt2
import Derived.Test.YtoojiabdgaflgaaTilePlain
import Derived.Test.YtoojiabdgaflgaaMake2
import Derived.StillTailTactics
import Derived.Deep.DeepCutAuto
import Derived.Deep.DrawnRows
import Derived.Deep.RegionHeld3
namespace Go.Proofs.Ytoojiabdgaflgaa
open Go.RowKit
attribute [local go_sem ↓] Go.wp_at_zero Go.wp_at_succ
set_option linter.unusedVariables false
set_option linter.unusedSimpArgs false

theorem allIn_get {mx : Int} {zs : List Int} (h : allIn mx zs = true) {i : Nat} (hi : i < zs.length) : 0 ≤ zs.getD i 0 ∧ zs.getD i 0 ≤ mx := by
  have e : zs.getD i 0 = zs[i] := by rw [List.getD_eq_getElem?_getD, List.getElem?_eq_getElem hi]; rfl
  rw [e]; exact allIn_iff.1 h _ (List.getElem_mem hi)
def TilePost (w h mx : Int) (zs : List Int) (r0 r1 r2 r3 : Int) (left top : List Int) (corner : Int) (W : World) (e : Ending) (w' : World) : Prop :=
  ∃ v, e = .returned (.tuple #[.agg #[.int .i64 (tIf w h mx zs r0 r1 r2 r3 left top corner (r2 - r0)), .int .i64 (tIf w h mx zs r0 r1 r2 r3 left top corner (r3 - r1)), .int .i64 (tIf w h mx zs r0 r1 r2 r3 left top corner (w * h * mx)), v], .int .i64 (tCode w h mx zs r0 r1 r2 r3 left top corner)]) ∧
    Own W.heap.size w' v (tList w h mx zs r0 r1 r2 r3 left top corner) ∧ Below W.heap.size W w'
theorem tile_no {w h mx : Int} {zs : List Int} {r0 r1 r2 r3 : Int} {left top : List Int} {corner : Int} {W w' : World} {k : Int} (hk : tCode w h mx zs r0 r1 r2 r3 left top corner = k) (h0 : k ≠ 0) (hb : Below W.heap.size W w') :
    TilePost w h mx zs r0 r1 r2 r3 left top corner W (.returned (.tuple #[.agg #[.int .i64 0, .int .i64 0, .int .i64 0, .slice none 0 0], .int .i64 k])) w' := by
  have hi : ∀ x, tIf w h mx zs r0 r1 r2 r3 left top corner x = 0 := fun x => by unfold tIf; rw [hk, if_neg h0]
  refine ⟨_, by rw [hi, hi, hi, hk], ?_, hb⟩
  have : tList w h mx zs r0 r1 r2 r3 left top corner = [] := by unfold tList; rw [hk, if_neg h0]
  rw [this]; exact Own.nil _ _

set_option maxRecDepth 100000 in
set_option maxHeartbeats 6400000 in
theorem itile_any (w h mx : Int) (a : Option Addr) (n c : Nat) (zs : List Int) (r0 r1 r2 r3 : Int) (al : Option Addr) (nl cl : Nat) (left : List Int) (at' : Option Addr) (nt ct : Nat) (top : List Int) (corner : Int) (W : World) (hs : Slc W a n c zs) (hl : Slc W al nl cl left) (ht : Slc W at' nt ct top) :
    Calls Try.prog 44 #[.agg #[.int .i64 w, .int .i64 h, .int .i64 mx, .slice a n c], .agg #[.int .i64 r0, .int .i64 r1, .int .i64 r2, .int .i64 r3], .slice al nl cl, .slice at' nt ct, .int .i64 corner] W (TilePost w h mx zs r0 r1 r2 r3 left top corner W) := by
  obtain ⟨B, hB⟩ : ∃ B, W.heap.size = B := ⟨_, rfl⟩
  have HS := hid hs
  have HL := hid hl
  have HT := hid ht
  have HLL := hid hl.len
  have HTL := hid ht.len
  clear hs hl ht
  have H0 := hid ((((St.init hB).alloc #[.int .i64 w, .int .i64 h, .int .i64 mx, .slice a n c] 26 hB).alloc #[.int .i64 r0, .int .i64 r1, .int .i64 r2, .int .i64 r3] 39 (alloc_size _ hB)).alloc #[.int .i64 0, .int .i64 0, .int .i64 0, .slice none 0 0] 26 (alloc_size _ (alloc_size _ hB)))
  go_enter Try.func44, Try.ntmps44
  go_wp2_with fail
  refine (checked_any _ _ _ _ _ _ _ _ (H0.out.old HS.out)).mono ?_
  rintro e w1 ⟨rfl, hb⟩
  have H2 := hid (H0.out.call hb)
  clear hb
  have HKC := hid (show kCode w h mx zs ≠ 0 → tCode w h mx zs r0 r1 r2 r3 left top corner = kCode w h mx zs from fun hk => by
    cases hv : pValid w h mx zs with
    | false => unfold tCode kCode; rw [hv, if_pos rfl, if_neg (by simp)]
    | true =>
      cases hi : iOk w h mx with
      | false => unfold tCode kCode iCode; rw [hv, hi, if_neg (by simp), if_pos rfl, if_pos rfl, if_neg (by simp)]
      | true => exact absurd (by simp [kCode, iCode, hv, hi]) hk)
  have HKV := hid (show kCode w h mx zs = 0 → pValid w h mx zs = true ∧ iOk w h mx = true from fun hk => by
    cases hv : pValid w h mx zs with
    | false => simp [kCode, hv] at hk
    | true =>
      cases hi : iOk w h mx with
      | false => simp [kCode, iCode, hv, hi] at hk
      | true => exact ⟨rfl, rfl⟩)
  have HKM := hid (show pValid w h mx zs = true → iOk w h mx = true → kVal w h mx zs = w * h * mx from fun hv hi => by simp [kVal, iVal, hv, hi])
  obtain ⟨kc, hkc⟩ : ∃ k, kCode w h mx zs = k := ⟨_, rfl⟩
  obtain ⟨kv, hkv⟩ : ∃ k, kVal w h mx zs = k := ⟨_, rfl⟩
  rw [hkc] at HKC HKV ⊢
  rw [hkv] at HKM ⊢
  clear hkc hkv
  by_cases hk0 : kc = 0
  · subst hk0
    obtain ⟨hv, hio⟩ := HKV.out rfl
    have hm := HKM.out hv hio
    subst hm
    have HV := hid hv
    have HIO := hid (iOk_iff.1 hio)
    have HP := hid (pOk_iff.1 (pValid_iff.1 hv).1)
    have HNV := hid (show ¬ pValid w h mx zs = false by rw [hv]; simp)
    have HNI := hid (show ¬ iOk w h mx = false by rw [hio]; simp)
    clear HKC HKV HKM hv hio
    obtain ⟨most, hmost⟩ : ∃ m, w * h * mx = m := ⟨_, rfl⟩
    have HMO := hid hmost
    rw [hmost]
    clear hmost
    have z0_0 := H2.out.cell 0 rfl 0 rfl
    have z0_1 := H2.out.cell 0 rfl 1 rfl
    have z0_2 := H2.out.cell 0 rfl 2 rfl
    have z0_3 := H2.out.cell 0 rfl 3 rfl
    have z1_0 := H2.out.cell 1 rfl 0 rfl
    have z1_1 := H2.out.cell 1 rfl 1 rfl
    have z1_2 := H2.out.cell 1 rfl 2 rfl
    have z1_3 := H2.out.cell 1 rfl 3 rfl
    have z2_0 := H2.out.cell 2 rfl 0 rfl
    have z2_1 := H2.out.cell 2 rfl 1 rfl
    have z2_2 := H2.out.cell 2 rfl 2 rfl
    have z2_3 := H2.out.cell 2 rfl 3 rfl
    go_wp2_with fail
    clear z0_0 z0_1 z0_2 z0_3 z1_0 z1_1 z1_2 z1_3 z2_0 z2_1 z2_2 z2_3
    refine (rempty_any _ _ _ _ _).mono ?_
    rintro e w3 ⟨rfl, hb⟩
    have H4 := hid (H2.out.call hb)
    clear hb
    cases he : rEmpty r0 r1 r2 r3 with
    | true =>
      have HE := hid he
      clear he
      have z0_0 := H4.out.cell 0 rfl 0 rfl
      have z0_1 := H4.out.cell 0 rfl 1 rfl
      have z0_2 := H4.out.cell 0 rfl 2 rfl
      have z0_3 := H4.out.cell 0 rfl 3 rfl
      have f0_0 := H4.out.free 0 rfl 0
      have f0_1 := H4.out.free 0 rfl 1
      have f0_2 := H4.out.free 0 rfl 2
      have f0_3 := H4.out.free 0 rfl 3
      have z1_0 := H4.out.cell 1 rfl 0 rfl
      have z1_1 := H4.out.cell 1 rfl 1 rfl
      have z1_2 := H4.out.cell 1 rfl 2 rfl
      have z1_3 := H4.out.cell 1 rfl 3 rfl
      have z2_0 := H4.out.cell 2 rfl 0 rfl
      have z2_1 := H4.out.cell 2 rfl 1 rfl
      have z2_2 := H4.out.cell 2 rfl 2 rfl
      have z2_3 := H4.out.cell 2 rfl 3 rfl
      go_wp2_with fail
      have HZ := hid (H4.out.set4 0 rfl (.int .i64 0) (.int .i64 0) (.int .i64 0) (.slice none 0 0))
      have k0 := HZ.out.cell 0 rfl 0 rfl
      have k1 := HZ.out.cell 0 rfl 1 rfl
      have k2 := HZ.out.cell 0 rfl 2 rfl
      have k3 := HZ.out.cell 0 rfl 3 rfl
      refine bodyPost_ret (v := .tuple #[.agg #[.int .i64 0, .int .i64 0, .int .i64 0, .slice none 0 0], .int .i64 8]) ?_ rfl (tile_no (by unfold tCode; rw [if_neg HNV.out, if_neg HNI.out, if_pos (by rw [HE.out]; rfl)]) (by omega) (by first | exact HZ.out.below | exact HZ.out.below'))
      unfold set4 at k0 k1 k2 k3
      simp [results, Try.results44, go_sem, k0, k1, k2, k3]
    | false =>
    have HE := hid he
    clear he
    have z0_0 := H4.out.cell 0 rfl 0 rfl
    have z0_1 := H4.out.cell 0 rfl 1 rfl
    have z0_2 := H4.out.cell 0 rfl 2 rfl
    have z0_3 := H4.out.cell 0 rfl 3 rfl
    have z1_0 := H4.out.cell 1 rfl 0 rfl
    have z1_1 := H4.out.cell 1 rfl 1 rfl
    have z1_2 := H4.out.cell 1 rfl 2 rfl
    have z1_3 := H4.out.cell 1 rfl 3 rfl
    have z2_0 := H4.out.cell 2 rfl 0 rfl
    have z2_1 := H4.out.cell 2 rfl 1 rfl
    have z2_2 := H4.out.cell 2 rfl 2 rfl
    have z2_3 := H4.out.cell 2 rfl 3 rfl
    go_wp2_with fail
    clear z0_0 z0_1 z0_2 z0_3 z1_0 z1_1 z1_2 z1_3 z2_0 z2_1 z2_2 z2_3
    refine (rinside_any _ _ _ _ _ _ _ _ _).mono ?_
    rintro e w5 ⟨rfl, hb⟩
    have H6 := hid (H4.out.call hb)
    clear hb
    cases hi : rInside r0 r1 r2 r3 0 0 w h with
    | false =>
      have HI := hid hi
      clear hi
      have z0_0 := H6.out.cell 0 rfl 0 rfl
      have z0_1 := H6.out.cell 0 rfl 1 rfl
      have z0_2 := H6.out.cell 0 rfl 2 rfl
      have z0_3 := H6.out.cell 0 rfl 3 rfl
      have f0_0 := H6.out.free 0 rfl 0
      have f0_1 := H6.out.free 0 rfl 1
      have f0_2 := H6.out.free 0 rfl 2
      have f0_3 := H6.out.free 0 rfl 3
      have z1_0 := H6.out.cell 1 rfl 0 rfl
      have z1_1 := H6.out.cell 1 rfl 1 rfl
      have z1_2 := H6.out.cell 1 rfl 2 rfl
      have z1_3 := H6.out.cell 1 rfl 3 rfl
      have z2_0 := H6.out.cell 2 rfl 0 rfl
      have z2_1 := H6.out.cell 2 rfl 1 rfl
      have z2_2 := H6.out.cell 2 rfl 2 rfl
      have z2_3 := H6.out.cell 2 rfl 3 rfl
      go_wp2_with fail
      have HZ := hid (H6.out.set4 0 rfl (.int .i64 0) (.int .i64 0) (.int .i64 0) (.slice none 0 0))
      have k0 := HZ.out.cell 0 rfl 0 rfl
      have k1 := HZ.out.cell 0 rfl 1 rfl
      have k2 := HZ.out.cell 0 rfl 2 rfl
      have k3 := HZ.out.cell 0 rfl 3 rfl
      refine bodyPost_ret (v := .tuple #[.agg #[.int .i64 0, .int .i64 0, .int .i64 0, .slice none 0 0], .int .i64 8]) ?_ rfl (tile_no (by unfold tCode; rw [if_neg HNV.out, if_neg HNI.out, if_pos (by rw [HI.out, HE.out]; rfl)]) (by omega) (by first | exact HZ.out.below | exact HZ.out.below'))
      unfold set4 at k0 k1 k2 k3
      simp [results, Try.results44, go_sem, k0, k1, k2, k3]
    | true =>
    have hE : (!rEmpty r0 r1 r2 r3 && rInside r0 r1 r2 r3 0 0 w h) = true := by rw [hi, HE.out]; rfl
    have HNE := hid (show ¬ (!rEmpty r0 r1 r2 r3 && rInside r0 r1 r2 r3 0 0 w h) = false by rw [hE]; simp)
    have hin := (inside_iff (by have := HP.out; omega) (by have := HP.out; omega) (by have := HP.out; omega) (by have := HP.out; omega)).1 hE
    clear hi HE hE
    obtain ⟨i1, i2, i3, i4, i5, i6⟩ := hin
    have i7 : r2 ≤ 128 := by have := HP.out; omega
    have i8 : r3 ≤ 128 := by have := HP.out; omega
    have ml : (nl : Int) ≤ 9223372036854775807 := by have := HL.out.nc; have := HL.out.cap; omega
    have mt : (nt : Int) ≤ 9223372036854775807 := by have := HT.out.nc; have := HT.out.cap; omega
    obtain ⟨D1, hD1⟩ : ∃ D, w5.heap.size = D := ⟨_, rfl⟩
    have z0_0 := H6.out.cell 0 rfl 0 rfl
    have z0_1 := H6.out.cell 0 rfl 1 rfl
    have z0_2 := H6.out.cell 0 rfl 2 rfl
    have z0_3 := H6.out.cell 0 rfl 3 rfl
    have z1_0 := H6.out.cell 1 rfl 0 rfl
    have z1_1 := H6.out.cell 1 rfl 1 rfl
    have z1_2 := H6.out.cell 1 rfl 2 rfl
    have z1_3 := H6.out.cell 1 rfl 3 rfl
    have z2_0 := H6.out.cell 2 rfl 0 rfl
    have z2_1 := H6.out.cell 2 rfl 1 rfl
    have z2_2 := H6.out.cell 2 rfl 2 rfl
    have z2_3 := H6.out.cell 2 rfl 3 rfl
    go_upto_region 7 with fail
    clear z0_0 z0_1 z0_2 z0_3 z1_0 z1_1 z1_2 z1_3 z2_0 z2_1 z2_2 z2_3
    have H7 := hid (H6.out.alloc #[.int .i64 (r2 - r0), .int .i64 (r3 - r1), .int .i64 most, .slice none 0 0] 26 hD1)
    clear hD1
    generalize World.alloc w5 _ = v1 at *
    by_cases hl1 : (nl : Int) = r3 - r1
    · by_cases ht1 : (nt : Int) = r2 - r0
      · have hl2 : ((nl : Int) != r3 - r1) = false := by simpa using hl1
        have hl3 : ((nl : Int) == r3 - r1) = true := by simpa using hl1
        have ht2 : ((nt : Int) != r2 - r0) = false := by simpa using ht1
        have ht3 : ((nt : Int) == r2 - r0) = true := by simpa using ht1
        have HX := hid (show ¬ ¬ ((left.length : Int) = r3 - r1 ∧ (top.length : Int) = r2 - r0) by rw [HLL.out, HTL.out]; exact fun e => e ⟨hl1, ht1⟩)
        obtain ⟨nl1, nl2, nl3, nl4⟩ : (nl : Int) ≤ r3 - r1 ∧ r3 - r1 ≤ nl ∧ 1 ≤ nl ∧ nl ≤ 128 := by omega
        obtain ⟨nt1, nt2, nt3, nt4⟩ : (nt : Int) ≤ r2 - r0 ∧ r2 - r0 ≤ nt ∧ 1 ≤ nt ∧ nt ≤ 128 := by omega
        have HQL := hid hl1
        have HQT := hid ht1
        clear hl1 ht1
        obtain ⟨D2, hD2⟩ : ∃ D, v1.heap.size = D := ⟨_, rfl⟩
        have H9 := hid (H7.out.alloc #[.int .i64 corner] 3 hD2)
        have y0 := H7.out.cell 0 rfl 0 rfl
        have y1 := H7.out.cell 0 rfl 1 rfl
        go_wp2_with fail
        clear y0 y1 hl2 hl3 ht2 ht3 hD2
        generalize World.alloc v1 _ = v2 at *
        refine (outside_any most _ _ _ [corner] _ (H9.out.lit 0 [corner] rfl (by simp))).mono ?_
        rintro e w' ⟨rfl, rfl⟩
        cases h1 : allIn most [corner] with
        | false =>
          have z0_0 := H9.out.cell 0 rfl 0 rfl
          have z1_0 := H9.out.cell 1 rfl 0 rfl
          have z1_1 := H9.out.cell 1 rfl 1 rfl
          have z1_2 := H9.out.cell 1 rfl 2 rfl
          have z1_3 := H9.out.cell 1 rfl 3 rfl
          have z2_0 := H9.out.cell 2 rfl 0 rfl
          have z2_1 := H9.out.cell 2 rfl 1 rfl
          have z2_2 := H9.out.cell 2 rfl 2 rfl
          have z2_3 := H9.out.cell 2 rfl 3 rfl
          have f2_0 := H9.out.free 2 rfl 0
          have f2_1 := H9.out.free 2 rfl 1
          have f2_2 := H9.out.free 2 rfl 2
          have f2_3 := H9.out.free 2 rfl 3
          have z3_0 := H9.out.cell 3 rfl 0 rfl
          have z3_1 := H9.out.cell 3 rfl 1 rfl
          have z3_2 := H9.out.cell 3 rfl 2 rfl
          have z3_3 := H9.out.cell 3 rfl 3 rfl
          have z4_0 := H9.out.cell 4 rfl 0 rfl
          have z4_1 := H9.out.cell 4 rfl 1 rfl
          have z4_2 := H9.out.cell 4 rfl 2 rfl
          have z4_3 := H9.out.cell 4 rfl 3 rfl
          have HA1 := hid h1
          clear h1
          go_wp2_with fail
          have HZ := hid (H9.out.set4 2 rfl (.int .i64 0) (.int .i64 0) (.int .i64 0) (.slice none 0 0))
          have k0 := HZ.out.cell 2 rfl 0 rfl
          have k1 := HZ.out.cell 2 rfl 1 rfl
          have k2 := HZ.out.cell 2 rfl 2 rfl
          have k3 := HZ.out.cell 2 rfl 3 rfl
          refine bodyPost_ret (v := .tuple #[.agg #[.int .i64 0, .int .i64 0, .int .i64 0, .slice none 0 0], .int .i64 2]) ?_ rfl (tile_no (by unfold tCode; rw [if_neg HNV.out, if_neg HNI.out, if_neg HNE.out, if_neg HX.out, HMO.out, HA1.out]; simp) (by omega) (by first | exact HZ.out.below | exact HZ.out.below'))
          unfold set4 at k0 k1 k2 k3
          simp [results, Try.results44, go_sem, k0, k1, k2, k3]
        | true =>
        have HA1 := hid h1
        clear h1
        go_wp2_with fail
        refine (outside_any most _ _ _ left _ (H9.out.old HL.out)).mono ?_
        rintro e w' ⟨rfl, rfl⟩
        cases h2 : allIn most left with
        | false =>
          have HA2 := hid h2
          clear h2
          have z0_0 := H9.out.cell 0 rfl 0 rfl
          have z1_0 := H9.out.cell 1 rfl 0 rfl
          have z1_1 := H9.out.cell 1 rfl 1 rfl
          have z1_2 := H9.out.cell 1 rfl 2 rfl
          have z1_3 := H9.out.cell 1 rfl 3 rfl
          have z2_0 := H9.out.cell 2 rfl 0 rfl
          have z2_1 := H9.out.cell 2 rfl 1 rfl
          have z2_2 := H9.out.cell 2 rfl 2 rfl
          have z2_3 := H9.out.cell 2 rfl 3 rfl
          have f2_0 := H9.out.free 2 rfl 0
          have f2_1 := H9.out.free 2 rfl 1
          have f2_2 := H9.out.free 2 rfl 2
          have f2_3 := H9.out.free 2 rfl 3
          have z3_0 := H9.out.cell 3 rfl 0 rfl
          have z3_1 := H9.out.cell 3 rfl 1 rfl
          have z3_2 := H9.out.cell 3 rfl 2 rfl
          have z3_3 := H9.out.cell 3 rfl 3 rfl
          have z4_0 := H9.out.cell 4 rfl 0 rfl
          have z4_1 := H9.out.cell 4 rfl 1 rfl
          have z4_2 := H9.out.cell 4 rfl 2 rfl
          have z4_3 := H9.out.cell 4 rfl 3 rfl
          go_wp2_with fail
          have HZ := hid (H9.out.set4 2 rfl (.int .i64 0) (.int .i64 0) (.int .i64 0) (.slice none 0 0))
          have k0 := HZ.out.cell 2 rfl 0 rfl
          have k1 := HZ.out.cell 2 rfl 1 rfl
          have k2 := HZ.out.cell 2 rfl 2 rfl
          have k3 := HZ.out.cell 2 rfl 3 rfl
          refine bodyPost_ret (v := .tuple #[.agg #[.int .i64 0, .int .i64 0, .int .i64 0, .slice none 0 0], .int .i64 2]) ?_ rfl (tile_no (by unfold tCode; rw [if_neg HNV.out, if_neg HNI.out, if_neg HNE.out, if_neg HX.out, HMO.out, HA1.out, HA2.out]; simp) (by omega) (by first | exact HZ.out.below | exact HZ.out.below'))
          unfold set4 at k0 k1 k2 k3
          simp [results, Try.results44, go_sem, k0, k1, k2, k3]
        | true =>
        have HA2 := hid h2
        clear h2
        go_wp2_with fail
        refine (outside_any most _ _ _ top _ (H9.out.old HT.out)).mono ?_
        rintro e w' ⟨rfl, rfl⟩
        cases h3 : allIn most top with
        | false =>
          have HA3 := hid h3
          clear h3
          have z0_0 := H9.out.cell 0 rfl 0 rfl
          have z1_0 := H9.out.cell 1 rfl 0 rfl
          have z1_1 := H9.out.cell 1 rfl 1 rfl
          have z1_2 := H9.out.cell 1 rfl 2 rfl
          have z1_3 := H9.out.cell 1 rfl 3 rfl
          have z2_0 := H9.out.cell 2 rfl 0 rfl
          have z2_1 := H9.out.cell 2 rfl 1 rfl
          have z2_2 := H9.out.cell 2 rfl 2 rfl
          have z2_3 := H9.out.cell 2 rfl 3 rfl
          have f2_0 := H9.out.free 2 rfl 0
          have f2_1 := H9.out.free 2 rfl 1
          have f2_2 := H9.out.free 2 rfl 2
          have f2_3 := H9.out.free 2 rfl 3
          have z3_0 := H9.out.cell 3 rfl 0 rfl
          have z3_1 := H9.out.cell 3 rfl 1 rfl
          have z3_2 := H9.out.cell 3 rfl 2 rfl
          have z3_3 := H9.out.cell 3 rfl 3 rfl
          have z4_0 := H9.out.cell 4 rfl 0 rfl
          have z4_1 := H9.out.cell 4 rfl 1 rfl
          have z4_2 := H9.out.cell 4 rfl 2 rfl
          have z4_3 := H9.out.cell 4 rfl 3 rfl
          go_wp2_with fail
          have HZ := hid (H9.out.set4 2 rfl (.int .i64 0) (.int .i64 0) (.int .i64 0) (.slice none 0 0))
          have k0 := HZ.out.cell 2 rfl 0 rfl
          have k1 := HZ.out.cell 2 rfl 1 rfl
          have k2 := HZ.out.cell 2 rfl 2 rfl
          have k3 := HZ.out.cell 2 rfl 3 rfl
          refine bodyPost_ret (v := .tuple #[.agg #[.int .i64 0, .int .i64 0, .int .i64 0, .slice none 0 0], .int .i64 2]) ?_ rfl (tile_no (by unfold tCode; rw [if_neg HNV.out, if_neg HNI.out, if_neg HNE.out, if_neg HX.out, HMO.out, HA1.out, HA2.out, HA3.out]; simp) (by omega) (by first | exact HZ.out.below | exact HZ.out.below'))
          unfold set4 at k0 k1 k2 k3
          simp [results, Try.results44, go_sem, k0, k1, k2, k3]
        | true =>
        have HA3 := hid h3
        clear h3
        have pq0 := Int.mul_nonneg (a := r2 - r0) (b := r3 - r1) (by omega) (by omega)
        have pq1 := Int.mul_le_mul (a := r2 - r0) (c := 128) (b := r3 - r1) (d := 128) (by omega) (by omega) (by omega) (by omega)
        obtain ⟨NN, hNN⟩ : ∃ N : Nat, (r2 - r0) * (r3 - r1) = N := ⟨((r2 - r0) * (r3 - r1)).toNat, by omega⟩
        have NN1 : NN ≤ 16384 := by omega
        have qn : IntKind.i64.wrap (NN : Int) = NN := IntWalk.i64_in _ (by omega)
        obtain ⟨D3, hD3⟩ : ∃ D, w'.heap.size = D := ⟨_, rfl⟩
        have hBD3 : B ≤ D3 := by have := H9.out.size; omega
        have z1_0 := H9.out.cell 1 rfl 0 rfl
        have z1_1 := H9.out.cell 1 rfl 1 rfl
        have z1_2 := H9.out.cell 1 rfl 2 rfl
        have z1_3 := H9.out.cell 1 rfl 3 rfl
        have f1_0 := H9.out.free 1 rfl 0
        have f1_1 := H9.out.free 1 rfl 1
        have f1_2 := H9.out.free 1 rfl 2
        have f1_3 := H9.out.free 1 rfl 3
        go_upto_region 12 with (first | (at_make; refine make_cap rfl _ _ rfl D3 _ NN rfl rfl (by first | rfl | exact hNN) (by omega) (by omega) ?_; intro w5 ho hb; rw [hD3] at ho ⊢; have HM1 := hid (H9.out.grow hb (by rw [hD3]; exact ho)); clear ho hb z1_0 z1_1 z1_2 z1_3 f1_0 f1_1 f1_2 f1_3; have g3 := HM1.out.cell 2 rfl 3 rfl; have g4 := HM1.out.free 2 rfl 3))
        have H11 := hid (HM1.out.set 2 rfl 3 (.slice (some ⟨D3, 0, none⟩) 0 NN))
        clear g3 g4 HM1 hD3 qn
        generalize World.setCell w5 _ _ = w6 at *
        obtain ⟨D4, hD4⟩ : ∃ D, w6.heap.size = D := ⟨_, rfl⟩
        have hBD4 : B ≤ D4 := by have := H11.out.size; omega
        have z2_0 := H11.out.cell 2 rfl 0 rfl
        have z2_1 := H11.out.cell 2 rfl 1 rfl
        have z2_2 := H11.out.cell 2 rfl 2 rfl
        have z2_3 := H11.out.cell 2 rfl 3 rfl
        go_wp2_with (first | (at_make; refine make_int rfl _ _ rfl D4 _ _ nt rfl rfl (by omega) (by omega) (by omega) (by omega) ?_; intro w7 ho hb; rw [hD4] at ho ⊢; have H13 := hid (H11.out.made hD4 ho hb); clear ho hb z2_0 z2_1 z2_2 z2_3; have y1 := H13.out.cell 3 rfl 1 rfl))
        clear y1 hD4 hNN pq0 pq1
        have H14 := hid (show St B W [.own (.slice (some ⟨D4, 0, none⟩) nt nt) (List.replicate nt 0), .own (.slice (some ⟨D3, 0, none⟩) 0 NN) ([]), .cells D1 #[.int .i64 (r2 - r0), .int .i64 (r3 - r1), .int .i64 most, .slice (some ⟨D3, 0, none⟩) 0 NN] 26, .cells (B + 1 + 1) #[.int .i64 0, .int .i64 0, .int .i64 0, .slice none 0 0] 26, .cells (B + 1) #[.int .i64 r0, .int .i64 r1, .int .i64 r2, .int .i64 r3] 39, .cells B #[.int .i64 w, .int .i64 h, .int .i64 mx, .slice a n c] 26] [] _ from H13.out.pick [0, 1, 3, 4, 5, 6] rfl (by decide))
        obtain ⟨f, hf⟩ : ∃ f, tVal w zs r0 r1 left top corner = f := ⟨_, rfl⟩
        have HFV := hid (show ∀ k j, left.getD k 0 + top.getD j 0 - corner + tSum w zs r0 r1 (k + 1) (j + 1) = f k j from fun k j => by rw [← hf]; rfl)
        have HF := hid hf
        clear hf
        have HN := hid (show (n : Int) = w * h from by rw [← (pValid_iff.1 HV.out).2.1, HS.out.len])
        have HMB := hid HIO.out.2.2.2.2
        rw [HMO.out] at HMB
        obtain ⟨co1, co2⟩ : 0 ≤ corner ∧ corner ≤ most := by have := allIn_iff.1 HA1.out corner (by simp); exact this
        have mo : most ≤ 4294967296 := HMB.out
        have HLB := hid (fun i (hi : i < nl) => allIn_get HA2.out (i := i) (by rw [HLL.out]; exact hi))
        have HTB := hid (fun i (hi : i < nt) => allIn_get HA3.out (i := i) (by rw [HTL.out]; exact hi))
        obtain ⟨lb, lo, rfl⟩ := row_at HL.out.row (by omega)
        obtain ⟨tb, to', rfl⟩ := row_at HT.out.row (by omega)
        go_loopw [93] (fun i wr => ∃ (k ln g cp : Nat), k ≤ nl ∧ i = .int .i64 k ∧ ln = k * nt ∧ St B W [.own (.slice (some ⟨D4, 0, none⟩) nt nt) (colL w zs r0 r1 nt k 0), .own (.slice (some ⟨g, 0, none⟩) ln cp) (gridL f nt k 0), .cells D1 #[.int .i64 (r2 - r0), .int .i64 (r3 - r1), .int .i64 most, .slice (some ⟨g, 0, none⟩) ln cp] 26, .cells (B + 1 + 1) #[.int .i64 0, .int .i64 0, .int .i64 0, .slice none 0 0] 26, .cells (B + 1) #[.int .i64 r0, .int .i64 r1, .int .i64 r2, .int .i64 r3] 39, .cells B #[.int .i64 w, .int .i64 h, .int .i64 mx, .slice a n c] 26] [] wr) (fun i _ => nl - (intOf i).toNat)
        case atStart => exact ⟨0, 0, D3, NN, by omega, rfl, by omega, by rw [colL_zero]; exact H14.out⟩
        case round =>
          obtain ⟨k, ln, g, cp, hk, rfl, hln, hst⟩ := hrel
          obtain ⟨u3, rfl⟩ : ∃ u3 : World, u3 = wr := ⟨_, rfl⟩
          have HC := hid hst
          have HLN := hid hln
          clear hst hln
          by_cases hkn : k < nl
          · have hk1 : (k : Int) < r3 - r1 := by omega
            have z2_0 := HC.out.cell 2 rfl 0 rfl
            have z2_1 := HC.out.cell 2 rfl 1 rfl
            have z2_2 := HC.out.cell 2 rfl 2 rfl
            have z2_3 := HC.out.cell 2 rfl 3 rfl
            go_wp2_with fail
            clear z2_0 z2_1 z2_2 z2_3
            go_loopw [17, 98] (fun s i wr => ∃ (j ln g cp : Nat), j ≤ nt ∧ i = .int .i64 j ∧ ln = k * nt + j ∧ s = .int .i64 (tSum w zs r0 r1 (k + 1) j) ∧ St B W [.own (.slice (some ⟨D4, 0, none⟩) nt nt) (colL w zs r0 r1 nt k j), .own (.slice (some ⟨g, 0, none⟩) ln cp) (gridL f nt k j), .cells D1 #[.int .i64 (r2 - r0), .int .i64 (r3 - r1), .int .i64 most, .slice (some ⟨g, 0, none⟩) ln cp] 26, .cells (B + 1 + 1) #[.int .i64 0, .int .i64 0, .int .i64 0, .slice none 0 0] 26, .cells (B + 1) #[.int .i64 r0, .int .i64 r1, .int .i64 r2, .int .i64 r3] 39, .cells B #[.int .i64 w, .int .i64 h, .int .i64 mx, .slice a n c] 26] [] wr) (fun _ i _ => nt - (intOf i).toNat)
            case atStart => exact ⟨0, ln, g, cp, by omega, rfl, by rw [HLN.out]; rfl, rfl, HC.out⟩
            case round =>
              clear HC HLN
              obtain ⟨j, ln, g, cp, hj, rfl, hln, rfl, hst⟩ := hrel
              obtain ⟨u4, rfl⟩ : ∃ u4 : World, u4 = wr := ⟨_, rfl⟩
              have HD := hid hst
              have HLN := hid hln
              clear hst hln
              by_cases hjn : j < nt
              · have hj1 : (j : Int) < r2 - r0 := by omega
                have ln1 : ln ≤ 16512 := by have := HLN.out; have := Nat.mul_le_mul (show k ≤ 128 by omega) (show nt ≤ 128 by omega); omega
                go_wp2_with fail
                refine wp_region_still_tail 22 (by kernel_rfl) (by kernel_rfl) ?_
                change wpStill _ _ (u4.drewN 1) (fun a' => wpList _ _ _ _ a' (u4.drewN 1)) _ _
                have H15 := hid (HD.out.drewN 1)
                generalize u4.drewN 1 = v3 at *
                have z4_0 := H15.out.cell 4 rfl 0 rfl
                have z4_1 := H15.out.cell 4 rfl 1 rfl
                have z4_2 := H15.out.cell 4 rfl 2 rfl
                have z4_3 := H15.out.cell 4 rfl 3 rfl
                have z5_0 := H15.out.cell 5 rfl 0 rfl
                have z5_1 := H15.out.cell 5 rfl 1 rfl
                have z5_2 := H15.out.cell 5 rfl 2 rfl
                have z5_3 := H15.out.cell 5 rfl 3 rfl
                obtain ⟨s1, s2⟩ := H15.out.get 0 rfl (j := j) (by rw [colL_len]; exact hjn)
                have hcj := colL_get w zs r0 r1 nt k j j hjn
                rw [if_neg (by omega)] at hcj
                have HCN := hid (colL_next w zs r0 r1 nt k j hjn)
                rw [hcj] at s1 HCN
                clear hcj
                have HCS : Hid (tCol w zs r0 r1 k j + tPix w zs r0 r1 k j = tCol w zs r0 r1 (k + 1) j) := rfl
                have HSS : Hid (tSum w zs r0 r1 (k + 1) j + tCol w zs r0 r1 (k + 1) j = tSum w zs r0 r1 (k + 1) (j + 1)) := rfl
                obtain ⟨cb1, cb2⟩ := tCol_bd HV.out r0 r1 (k := k) (by omega) j
                obtain ⟨pb1, pb2⟩ := tPix_bd HV.out r0 r1 k j
                obtain ⟨sb1, sb2⟩ := tSum_bd HV.out r0 r1 (k := k + 1) (j := j) (by omega) (by omega)
                obtain ⟨sb3, sb4⟩ := tSum_bd HV.out r0 r1 (k := k + 1) (j := j + 1) (by omega) (by omega)
                have hpm : mx ≤ 4294967296 := HP.out.2.2.2.2.2.2
                obtain ⟨hw1, hw2, hh1, hh2, hwh, _, _⟩ := HP.out
                obtain ⟨pa0, pa1, pa2, pa3⟩ := pix_at (w := w) (h := h) (x := r0 + j) (y := r1 + k) hw1 hw2 hh2 (by omega) (by omega) (by omega) (by omega)
                obtain ⟨P, hP⟩ : ∃ P, (r1 + (k : Int)) * w = P := ⟨_, rfl⟩
                rw [hP] at pa0 pa1 pa2 pa3
                have hlt : P + r0 + j < n := by have := HN.out; omega
                have HSL := hid (H15.out.old HS.out)
                obtain ⟨pbk, po, hpa⟩ := row_at HSL.out.row (by omega)
                rw [hpa] at HSL
                have cz := row_cell HSL.out.row (j := (P + r0 + j).toNat) (by omega)
                have HPX : Hid (tPix w zs r0 r1 k j = zs.getD (P + r0 + (j : Int)).toNat 0) := by rw [← hP]; rfl
                rw [← HPX.out] at cz
                rw [hpa] at z5_3
                clear hpa
                generalize tPix w zs r0 r1 k j = pz at *
                generalize tCol w zs r0 r1 k j = cj at *
                obtain ⟨c1, hc1⟩ : ∃ c, tCol w zs r0 r1 (k + 1) j = c := ⟨_, rfl⟩
                rw [hc1] at HCS HSS
                clear hc1
                obtain ⟨s0, hs0⟩ : ∃ c, tSum w zs r0 r1 (k + 1) j = c := ⟨_, rfl⟩
                rw [hs0] at HSS sb1 sb2 ⊢
                clear hs0
                obtain ⟨s9, hs9⟩ : ∃ c, tSum w zs r0 r1 (k + 1) (j + 1) = c := ⟨_, rfl⟩
                rw [hs9] at HSS sb3 sb4
                have HS9 := hid hs9
                clear hs9
                have hcs := HCS.out
                have c1a : 0 ≤ c1 := by omega
                have c1b : c1 ≤ 1099511627776 := by omega
                have w1 : IntKind.i64.wrap (r1 + (k : Int)) = r1 + k := IntWalk.i64_in _ (by omega)
                have w2 : IntKind.i64.wrap P = P := IntWalk.i64_in _ (by omega)
                have w3 : IntKind.i64.wrap (P + r0) = P + r0 := IntWalk.i64_in _ (by omega)
                have w4 : IntKind.i64.wrap (P + r0 + (j : Int)) = P + r0 + j := IntWalk.i64_in _ (by omega)
                have w5 : IntKind.i64.wrap c1 = c1 := IntWalk.i64_in _ (by omega)
                have w6 : 0 ≤ P + r0 + (j : Int) := by omega
                have w7 : IntKind.i64.wrap s9 = s9 := IntWalk.i64_in _ (by omega)
                have hss := HSS.out
                simp only [List.take_succ_cons, List.take_zero, List.drop_succ_cons, List.drop_zero]
                iterate 22 still_step
                refine wpStill_nil ?_
                go_upto_region 22 with fail
                clear z4_0 z4_1 z4_2 z4_3 z5_0 z5_1 z5_2 z5_3
                have HCN2 := hid (show (colL w zs r0 r1 nt k j).set j c1 = colL w zs r0 r1 nt k (j + 1) by rw [← HCN.out, HCS.out])
                have H17 := hid (show St B W [.own (.slice (some ⟨D4, 0, none⟩) nt nt) (colL w zs r0 r1 nt k (j + 1)), .own (.slice (some ⟨g, 0, none⟩) ln cp) (gridL f nt k j), .cells D1 #[.int .i64 (r2 - r0), .int .i64 (r3 - r1), .int .i64 most, .slice (some ⟨g, 0, none⟩) ln cp] 26, .cells (B + 1 + 1) #[.int .i64 0, .int .i64 0, .int .i64 0, .slice none 0 0] 26, .cells (B + 1) #[.int .i64 r0, .int .i64 r1, .int .i64 r2, .int .i64 r3] 39, .cells B #[.int .i64 w, .int .i64 h, .int .i64 mx, .slice a n c] 26] [] _ from by rw [← HCN2.out]; exact H15.out.store 0 rfl j c1)
                generalize World.setCell v3 _ _ = v4 at *
                clear s1 s2 cz hcs hss w1 w2 w3 w4 w5 w6 HCN HCN2 HPX HSL hP pa0 pa1 pa2 pa3 hlt cb1 cb2 pb1 pb2 c1a c1b HCS HSS
                have H19 := hid (H17.out.drew)
                have HLC := hid (row_cell (H19.out.old HL.out).row hkn)
                have HTC := hid (row_cell (H19.out.old HT.out).row hjn)
                have HLK := hid (HLB.out k hkn)
                have HTK := hid (HTB.out j hjn)
                have HFK := hid (HFV.out k j)
                rw [HS9.out] at HFK
                obtain ⟨lv, hlv⟩ : ∃ z, left.getD k 0 = z := ⟨_, rfl⟩
                obtain ⟨tv, htv⟩ : ∃ z, top.getD j 0 = z := ⟨_, rfl⟩
                rw [hlv] at HLC HLK HFK
                rw [htv] at HTC HTK HFK
                have HLV := hid hlv
                have HTV := hid htv
                clear hlv htv
                obtain ⟨lv1, lv2⟩ := HLK.out
                obtain ⟨tv1, tv2⟩ := HTK.out
                have w1 : IntKind.i64.wrap (lv + tv) = lv + tv := IntWalk.i64_in _ (by omega)
                have w2 : IntKind.i64.wrap (lv + tv - corner) = lv + tv - corner := IntWalk.i64_in _ (by omega)
                obtain ⟨fv, hfv⟩ : ∃ z, f k j = z := ⟨_, rfl⟩
                rw [hfv] at HFK
                have HFX := hid hfv
                have hfs := HFK.out
                have w3 : IntKind.i64.wrap fv = fv := IntWalk.i64_in _ (by omega)
                clear hfv
                have HLEN9 := hid (show (gridL f nt k (j + 1)).length = ln + 1 by rw [gridL_len, HLN.out]; omega)
                refine wp_region_held_drew (S := (fun w' => w'.cell? ⟨lb, lo + k, none⟩ = some (.int .i64 lv) ∧ w'.cell? ⟨tb, to' + j, none⟩ = some (.int .i64 tv))) (by kernel_rfl) ⟨HLC.out, HTC.out⟩ (fun hHeld => ?_)
                skip
                generalize v4.drew = v5 at *
                skip
                refine wpAnyH_take (i := 0) (oi := _) (v := ?_) rfl (by kernel_rfl) (by kernel_rfl) (by kernel_rfl) (fun _ _ _ h => h) (Or.inl ⟨by rfl, ?_⟩) (by assumption) ?_
                rotate_left
                focus (intro wS hSw; (try dsimp only at hSw); go_simp; (try with_reducible rfl))
                try simp only [Act.put, List.getElem_toArray, List.getElem_cons_zero, List.getElem_cons_succ, List.setIfInBounds_toArray, List.set_cons_zero, List.set_cons_succ]
                refine wpAnyH_take (i := 2) (oi := _) (v := ?_) rfl (by kernel_rfl) (by kernel_rfl) (by kernel_rfl) (fun _ _ _ h => h) (Or.inl ⟨by rfl, ?_⟩) (by assumption) ?_
                rotate_left
                focus (intro wS hSw; (try dsimp only at hSw); go_simp; (try with_reducible rfl))
                try simp only [Act.put, List.getElem_toArray, List.getElem_cons_zero, List.getElem_cons_succ, List.setIfInBounds_toArray, List.set_cons_zero, List.set_cons_succ]
                refine wpAnyH_take (i := 3) (oi := _) (v := ?_) rfl (by kernel_rfl) (by kernel_rfl) (by kernel_rfl) (fun _ _ _ h => h) (Or.inl ⟨by rfl, ?_⟩) (by assumption) ?_
                rotate_left
                focus (intro wS hSw; (try dsimp only at hSw); go_simp; (try with_reducible rfl))
                try simp only [Act.put, List.getElem_toArray, List.getElem_cons_zero, List.getElem_cons_succ, List.setIfInBounds_toArray, List.set_cons_zero, List.set_cons_succ]
                refine wpAnyH_take (i := 4) (oi := _) (v := ?_) rfl (by kernel_rfl) (by kernel_rfl) (by kernel_rfl) (fun _ _ _ h => h) (Or.inl ⟨by rfl, ?_⟩) (by assumption) ?_
                rotate_left
                focus (intro wS hSw; (try dsimp only at hSw); go_simp; (try with_reducible rfl))
                try simp only [Act.put, List.getElem_toArray, List.getElem_cons_zero, List.getElem_cons_succ, List.setIfInBounds_toArray, List.set_cons_zero, List.set_cons_succ]
                refine wpAnyH_take (i := 5) (oi := _) (v := ?_) rfl (by kernel_rfl) (by kernel_rfl) (by kernel_rfl) (fun _ _ _ h => h) (Or.inl ⟨by rfl, ?_⟩) (by assumption) ?_
                rotate_left
                focus (intro wS hSw; (try dsimp only at hSw); go_simp; (try with_reducible rfl))
                try simp only [Act.put, List.getElem_toArray, List.getElem_cons_zero, List.getElem_cons_succ, List.setIfInBounds_toArray, List.set_cons_zero, List.set_cons_succ]
                refine wpAnyH_take (i := 6) (oi := _) (v := ?_) rfl (by kernel_rfl) (by kernel_rfl) (by kernel_rfl) (fun _ _ _ h => h) (Or.inl ⟨by rfl, ?_⟩) (by assumption) ?_
                rotate_left
                focus (intro wS hSw; (try dsimp only at hSw); go_simp; (try with_reducible rfl))
                try simp only [Act.put, List.getElem_toArray, List.getElem_cons_zero, List.getElem_cons_succ, List.setIfInBounds_toArray, List.set_cons_zero, List.set_cons_succ]
                refine wpAnyH_take (i := 7) (oi := _) (v := ?_) rfl (by kernel_rfl) (by kernel_rfl) (by kernel_rfl) (fun _ _ _ h => h) (Or.inl ⟨by rfl, ?_⟩) (by assumption) ?_
                rotate_left
                focus (intro wS hSw; (try dsimp only at hSw); go_simp; (try with_reducible rfl))
                try simp only [Act.put, List.getElem_toArray, List.getElem_cons_zero, List.getElem_cons_succ, List.setIfInBounds_toArray, List.set_cons_zero, List.set_cons_succ]
                refine wpAnyH_take (i := 8) (oi := _) (v := ?_) rfl (by kernel_rfl) (by kernel_rfl) (by kernel_rfl) (fun _ _ _ h => h) (Or.inl ⟨by rfl, ?_⟩) (by assumption) ?_
                rotate_left
                focus (intro wS hSw; (try dsimp only at hSw); go_simp; (try with_reducible rfl))
                try simp only [Act.put, List.getElem_toArray, List.getElem_cons_zero, List.getElem_cons_succ, List.setIfInBounds_toArray, List.set_cons_zero, List.set_cons_succ]
                refine wpAnyH_take (i := 9) (oi := _) (v := ?_) rfl (by kernel_rfl) (by kernel_rfl) (by kernel_rfl) (fun _ _ _ h => h) (Or.inl ⟨by rfl, ?_⟩) (by assumption) ?_
                rotate_left
                focus (intro wS hSw; (try dsimp only at hSw); go_simp; (try with_reducible rfl))
                try simp only [Act.put, List.getElem_toArray, List.getElem_cons_zero, List.getElem_cons_succ, List.setIfInBounds_toArray, List.set_cons_zero, List.set_cons_succ]
                refine wpAnyH_take (i := 10) (oi := _) (v := ?_) rfl (by kernel_rfl) (by kernel_rfl) (by kernel_rfl) (fun _ _ _ h => h) (Or.inl ⟨by rfl, ?_⟩) (by assumption) ?_
                rotate_left
                focus (intro wS hSw; (try dsimp only at hSw); go_simp; (try with_reducible rfl))
                try simp only [Act.put, List.getElem_toArray, List.getElem_cons_zero, List.getElem_cons_succ, List.setIfInBounds_toArray, List.set_cons_zero, List.set_cons_succ]
                refine wpAnyH_take (i := 11) (oi := _) (v := ?_) rfl (by kernel_rfl) (by kernel_rfl) (by kernel_rfl) (fun _ _ _ h => h) (Or.inl ⟨by rfl, ?_⟩) (by assumption) ?_
                rotate_left
                focus (intro wS hSw; (try dsimp only at hSw); go_simp; (try with_reducible rfl))
                try simp only [Act.put, List.getElem_toArray, List.getElem_cons_zero, List.getElem_cons_succ, List.setIfInBounds_toArray, List.set_cons_zero, List.set_cons_succ]
                refine wpAnyH_take (i := 12) (oi := _) (v := ?_) rfl (by kernel_rfl) (by kernel_rfl) (by kernel_rfl) (fun _ _ _ h => h) (Or.inl ⟨by rfl, ?_⟩) (by assumption) ?_
                rotate_left
                focus (intro wS hSw; (try dsimp only at hSw); go_simp; (try with_reducible rfl))
                try simp only [Act.put, List.getElem_toArray, List.getElem_cons_zero, List.getElem_cons_succ, List.setIfInBounds_toArray, List.set_cons_zero, List.set_cons_succ]
                refine wpAnyH_take (i := 13) (oi := _) (v := ?_) rfl (by kernel_rfl) (by kernel_rfl) (by kernel_rfl) (fun _ _ _ h => h) (Or.inl ⟨by rfl, ?_⟩) (by assumption) ?_
                rotate_left
                focus (intro wS hSw; (try dsimp only at hSw); go_simp; (try with_reducible rfl))
                try simp only [Act.put, List.getElem_toArray, List.getElem_cons_zero, List.getElem_cons_succ, List.setIfInBounds_toArray, List.set_cons_zero, List.set_cons_succ]
                refine wpAnyH_take (i := 14) (oi := _) (v := ?_) rfl (by kernel_rfl) (by kernel_rfl) (by kernel_rfl) (fun _ _ _ h => h) (Or.inl ⟨by rfl, ?_⟩) (by assumption) ?_
                rotate_left
                focus (intro wS hSw; (try dsimp only at hSw); go_simp; (try with_reducible rfl))
                try simp only [Act.put, List.getElem_toArray, List.getElem_cons_zero, List.getElem_cons_succ, List.setIfInBounds_toArray, List.set_cons_zero, List.set_cons_succ]
                refine wpAnyH_ready (rs := [1, 15]) (by kernel_rfl) (by simp) (AllReadyH.cons (o := _) rfl (fun K hK => ?_) (AllReadyH.cons (o := _) rfl (fun K hK => ?_) AllReadyH.nil))
                · have g0 := H19.out.cell 2 rfl 3 rfl
                  go_simp
                  refine hK.out _ _ ?_ (fun hHeld2 => ?_)
                  focus ((try dsimp only); (exact hHeld))
                  clear hK K
                  try simp only [Act.put, List.getElem_toArray, List.getElem_cons_zero, List.getElem_cons_succ, List.setIfInBounds_toArray, List.set_cons_zero, List.set_cons_succ]
                  clear hHeld2 g0
                  refine wpAnyH_ready (rs := [15]) (by kernel_rfl) (by simp) (AllReadyH.cons (o := _) rfl (fun K hK => ?_) AllReadyH.nil)
                  obtain ⟨D5, hD5⟩ : ∃ D, v5.heap.size = D := ⟨_, rfl⟩
                  have K501 := hid (H19.out.alloc #[.int .i64 fv] 3 hD5)
                  go_simp
                  refine hK.out _ _ ?_ (fun hHeld2 => ?_)
                  focus ((try dsimp only); (exact ⟨by have := row_cell (K501.out.old HL.out).row hkn; rw [HLV.out] at this; exact this, by have := row_cell (K501.out.old HT.out).row hjn; rw [HTV.out] at this; exact this⟩))
                  clear hK K
                  try simp only [Act.put, List.getElem_toArray, List.getElem_cons_zero, List.getElem_cons_succ, List.setIfInBounds_toArray, List.set_cons_zero, List.set_cons_succ]
                  clear hD5
                  clear hHeld
                  have hHeld := hHeld2
                  clear hHeld2
                  generalize World.alloc v5 _ = k501 at *
                  refine wpAnyH_ready (rs := [16]) (by kernel_rfl) (by simp) (AllReadyH.cons (o := _) rfl (fun K hK => ?_) AllReadyH.nil)
                  rw [if_pos (by rfl)]
                  refine oper_append_int _ _ rfl B _ (gridL f nt k j) fv D5 1 rfl rfl (K501.out.own 2 rfl) (K501.out.cell 0 rfl 0 rfl) (by rw [gridL_len, ← HLN.out]; omega) K501.out.size ?_
                  intro v9 k502 ho hg hv
                  have K502 := hid (K501.out.append 2 rfl ho hg hv)
                  clear hg hv
                  rw [← HFX.out, ← gridL_next] at K502 ho
                  obtain ⟨g9, c9, rfl⟩ := ho.pos (by rw [HLEN9.out]; omega)
                  rw [HLEN9.out] at K502 ⊢
                  clear ho
                  refine hK.out _ _ ?_ (fun hHeld2 => ?_)
                  focus ((try dsimp only); (exact ⟨by have := row_cell (K502.out.old HL.out).row hkn; rw [HLV.out] at this; exact this, by have := row_cell (K502.out.old HT.out).row hjn; rw [HTV.out] at this; exact this⟩))
                  clear hK K
                  try simp only [Act.put, List.getElem_toArray, List.getElem_cons_zero, List.getElem_cons_succ, List.setIfInBounds_toArray, List.set_cons_zero, List.set_cons_succ]
                  clear hHeld
                  have hHeld := hHeld2
                  clear hHeld2
                  refine wpAnyH_take (i := 17) (oi := _) (v := ?_) rfl (by kernel_rfl) (by kernel_rfl) (by kernel_rfl) (fun _ _ _ h => h) (Or.inl ⟨by rfl, ?_⟩) (by assumption) ?_
                  rotate_left
                  focus (intro wS hSw; (try dsimp only at hSw); go_simp; (try with_reducible rfl))
                  try simp only [Act.put, List.getElem_toArray, List.getElem_cons_zero, List.getElem_cons_succ, List.setIfInBounds_toArray, List.set_cons_zero, List.set_cons_succ]
                  refine wpAnyH_ready (rs := [18]) (by kernel_rfl) (by simp) (AllReadyH.cons (o := _) rfl (fun K hK => ?_) AllReadyH.nil)
                  have g0 := K502.out.cell 3 rfl 3 rfl
                  have g1 := K502.out.free 3 rfl 3
                  have K503 := hid (K502.out.set 3 rfl 3 (.slice (some ⟨g9, 0, none⟩) (ln + 1) c9))
                  go_simp
                  refine hK.out _ _ ?_ (fun hHeld2 => ?_)
                  focus ((try dsimp only); (exact ⟨by have := row_cell (K503.out.old HL.out).row hkn; rw [HLV.out] at this; exact this, by have := row_cell (K503.out.old HT.out).row hjn; rw [HTV.out] at this; exact this⟩))
                  clear hK K
                  try simp only [Act.put, List.getElem_toArray, List.getElem_cons_zero, List.getElem_cons_succ, List.setIfInBounds_toArray, List.set_cons_zero, List.set_cons_succ]
                  clear g0 g1
                  clear hHeld
                  have hHeld := hHeld2
                  clear hHeld2
                  generalize World.setCell k502 _ _ = k503 at *
                  refine wpAnyH_done (by kernel_rfl) ?_ _
                  clear hHeld w1 w2 w3 hfs
                  go_wp2_with fail
                  go_roundw
                  case rel => exact ⟨j + 1, ln + 1, g9, c9, by omega, by go_num, by rw [HLN.out]; rfl, by rw [HS9.out], K503.out.pick [1, 2, 3, 4, 5, 6] rfl (by decide)⟩
                  case measure => simp [intOf]; omega
                · obtain ⟨D5, hD5⟩ : ∃ D, v5.heap.size = D := ⟨_, rfl⟩
                  have K501 := hid (H19.out.alloc #[.int .i64 fv] 3 hD5)
                  go_simp
                  refine hK.out _ _ ?_ (fun hHeld2 => ?_)
                  focus ((try dsimp only); (exact ⟨by have := row_cell (K501.out.old HL.out).row hkn; rw [HLV.out] at this; exact this, by have := row_cell (K501.out.old HT.out).row hjn; rw [HTV.out] at this; exact this⟩))
                  clear hK K
                  try simp only [Act.put, List.getElem_toArray, List.getElem_cons_zero, List.getElem_cons_succ, List.setIfInBounds_toArray, List.set_cons_zero, List.set_cons_succ]
                  clear hD5
                  clear hHeld
                  have hHeld := hHeld2
                  clear hHeld2
                  generalize World.alloc v5 _ = k501 at *
                  refine wpAnyH_ready (rs := [1]) (by kernel_rfl) (by simp) (AllReadyH.cons (o := _) rfl (fun K hK => ?_) AllReadyH.nil)
                  have g0 := K501.out.cell 3 rfl 3 rfl
                  go_simp
                  refine hK.out _ _ ?_ (fun hHeld2 => ?_)
                  focus ((try dsimp only); (exact hHeld))
                  clear hK K
                  try simp only [Act.put, List.getElem_toArray, List.getElem_cons_zero, List.getElem_cons_succ, List.setIfInBounds_toArray, List.set_cons_zero, List.set_cons_succ]
                  clear hHeld2 g0
                  refine wpAnyH_ready (rs := [16]) (by kernel_rfl) (by simp) (AllReadyH.cons (o := _) rfl (fun K hK => ?_) AllReadyH.nil)
                  rw [if_pos (by rfl)]
                  refine oper_append_int _ _ rfl B _ (gridL f nt k j) fv D5 1 rfl rfl (K501.out.own 2 rfl) (K501.out.cell 0 rfl 0 rfl) (by rw [gridL_len, ← HLN.out]; omega) K501.out.size ?_
                  intro v9 k502 ho hg hv
                  have K502 := hid (K501.out.append 2 rfl ho hg hv)
                  clear hg hv
                  rw [← HFX.out, ← gridL_next] at K502 ho
                  obtain ⟨g9, c9, rfl⟩ := ho.pos (by rw [HLEN9.out]; omega)
                  rw [HLEN9.out] at K502 ⊢
                  clear ho
                  refine hK.out _ _ ?_ (fun hHeld2 => ?_)
                  focus ((try dsimp only); (exact ⟨by have := row_cell (K502.out.old HL.out).row hkn; rw [HLV.out] at this; exact this, by have := row_cell (K502.out.old HT.out).row hjn; rw [HTV.out] at this; exact this⟩))
                  clear hK K
                  try simp only [Act.put, List.getElem_toArray, List.getElem_cons_zero, List.getElem_cons_succ, List.setIfInBounds_toArray, List.set_cons_zero, List.set_cons_succ]
                  clear hHeld
                  have hHeld := hHeld2
                  clear hHeld2
                  refine wpAnyH_take (i := 17) (oi := _) (v := ?_) rfl (by kernel_rfl) (by kernel_rfl) (by kernel_rfl) (fun _ _ _ h => h) (Or.inl ⟨by rfl, ?_⟩) (by assumption) ?_
                  rotate_left
                  focus (intro wS hSw; (try dsimp only at hSw); go_simp; (try with_reducible rfl))
                  try simp only [Act.put, List.getElem_toArray, List.getElem_cons_zero, List.getElem_cons_succ, List.setIfInBounds_toArray, List.set_cons_zero, List.set_cons_succ]
                  refine wpAnyH_ready (rs := [18]) (by kernel_rfl) (by simp) (AllReadyH.cons (o := _) rfl (fun K hK => ?_) AllReadyH.nil)
                  have g0 := K502.out.cell 3 rfl 3 rfl
                  have g1 := K502.out.free 3 rfl 3
                  have K503 := hid (K502.out.set 3 rfl 3 (.slice (some ⟨g9, 0, none⟩) (ln + 1) c9))
                  go_simp
                  refine hK.out _ _ ?_ (fun hHeld2 => ?_)
                  focus ((try dsimp only); (exact ⟨by have := row_cell (K503.out.old HL.out).row hkn; rw [HLV.out] at this; exact this, by have := row_cell (K503.out.old HT.out).row hjn; rw [HTV.out] at this; exact this⟩))
                  clear hK K
                  try simp only [Act.put, List.getElem_toArray, List.getElem_cons_zero, List.getElem_cons_succ, List.setIfInBounds_toArray, List.set_cons_zero, List.set_cons_succ]
                  clear g0 g1
                  clear hHeld
                  have hHeld := hHeld2
                  clear hHeld2
                  generalize World.setCell k502 _ _ = k503 at *
                  refine wpAnyH_done (by kernel_rfl) ?_ _
                  clear hHeld w1 w2 w3 hfs
                  go_wp2_with fail
                  go_roundw
                  case rel => exact ⟨j + 1, ln + 1, g9, c9, by omega, by go_num, by rw [HLN.out]; rfl, by rw [HS9.out], K503.out.pick [1, 2, 3, 4, 5, 6] rfl (by decide)⟩
                  case measure => simp [intOf]; omega
              · have hj1 : ¬ ((j : Int) < r2 - r0) := by omega
                have HE := hid (show St B W [.own (.slice (some ⟨D4, 0, none⟩) nt nt) (colL w zs r0 r1 nt (k + 1) 0), .own (.slice (some ⟨g, 0, none⟩) ln cp) (gridL f nt (k + 1) 0), .cells D1 #[.int .i64 (r2 - r0), .int .i64 (r3 - r1), .int .i64 most, .slice (some ⟨g, 0, none⟩) ln cp] 26, .cells (B + 1 + 1) #[.int .i64 0, .int .i64 0, .int .i64 0, .slice none 0 0] 26, .cells (B + 1) #[.int .i64 r0, .int .i64 r1, .int .i64 r2, .int .i64 r3] 39, .cells B #[.int .i64 w, .int .i64 h, .int .i64 mx, .slice a n c] 26] [] u4 from by
                  have e : j = nt := by omega
                  subst e
                  rw [← colL_row, ← gridL_row]
                  exact HD.out)
                have HLN2 := hid (show ln = (k + 1) * nt by rw [HLN.out, Nat.add_mul, Nat.one_mul]; omega)
                go_wp2_with fail
                go_roundw
                case rel => exact ⟨k + 1, ln, g, cp, by omega, by go_num, HLN2.out, HE.out⟩
                case measure => simp [intOf]; omega
          · have hk1 : ¬ ((k : Int) < r3 - r1) := by omega
            have HAL := hid (show tAll w zs r0 r1 left top corner = gridL f nt k 0 from by unfold tAll; rw [HF.out, HTL.out, HLL.out]; congr 1; omega)
            have hgl : (gridL f nt k 0).length = ln := by rw [gridL_len, HLN.out]; rfl
            have HGL := hid hgl
            clear hgl
            have z2_0 := HC.out.cell 2 rfl 0 rfl
            have z2_1 := HC.out.cell 2 rfl 1 rfl
            have z2_2 := HC.out.cell 2 rfl 2 rfl
            have z2_3 := HC.out.cell 2 rfl 3 rfl
            go_wp2_with fail
            clear z2_0 z2_1 z2_2 z2_3
            refine (outside_any most _ _ _ (gridL f nt k 0) _ (HC.out.slc 1 rfl)).mono ?_
            rintro e w' ⟨rfl, rfl⟩
            cases h4 : allIn most (gridL f nt k 0) with
            | false =>
              have HA4 := hid h4
              clear h4
              have z2_0 := HC.out.cell 2 rfl 0 rfl
              have z2_1 := HC.out.cell 2 rfl 1 rfl
              have z2_2 := HC.out.cell 2 rfl 2 rfl
              have z2_3 := HC.out.cell 2 rfl 3 rfl
              have z3_0 := HC.out.cell 3 rfl 0 rfl
              have z3_1 := HC.out.cell 3 rfl 1 rfl
              have z3_2 := HC.out.cell 3 rfl 2 rfl
              have z3_3 := HC.out.cell 3 rfl 3 rfl
              have f3_0 := HC.out.free 3 rfl 0
              have f3_1 := HC.out.free 3 rfl 1
              have f3_2 := HC.out.free 3 rfl 2
              have f3_3 := HC.out.free 3 rfl 3
              have z4_0 := HC.out.cell 4 rfl 0 rfl
              have z4_1 := HC.out.cell 4 rfl 1 rfl
              have z4_2 := HC.out.cell 4 rfl 2 rfl
              have z4_3 := HC.out.cell 4 rfl 3 rfl
              have z5_0 := HC.out.cell 5 rfl 0 rfl
              have z5_1 := HC.out.cell 5 rfl 1 rfl
              have z5_2 := HC.out.cell 5 rfl 2 rfl
              have z5_3 := HC.out.cell 5 rfl 3 rfl
              go_wp2_with fail
              have HZ := hid (HC.out.set4 3 rfl (.int .i64 0) (.int .i64 0) (.int .i64 0) (.slice none 0 0))
              have k0 := HZ.out.cell 3 rfl 0 rfl
              have k1 := HZ.out.cell 3 rfl 1 rfl
              have k2 := HZ.out.cell 3 rfl 2 rfl
              have k3 := HZ.out.cell 3 rfl 3 rfl
              refine bodyPost_ret (v := .tuple #[.agg #[.int .i64 0, .int .i64 0, .int .i64 0, .slice none 0 0], .int .i64 2]) ?_ rfl (tile_no (by unfold tCode; rw [if_neg HNV.out, if_neg HNI.out, if_neg HNE.out, if_neg HX.out, HMO.out, HA1.out, HA2.out, HA3.out, HAL.out, HA4.out]; simp) (by omega) (by first | exact HZ.out.below | exact HZ.out.below'))
              unfold set4 at k0 k1 k2 k3
              simp [results, Try.results44, go_sem, k0, k1, k2, k3]
            | true =>
              have HA4 := hid h4
              clear h4
              have HC0 := hid (show tCode w h mx zs r0 r1 r2 r3 left top corner = 0 by unfold tCode; rw [if_neg HNV.out, if_neg HNI.out, if_neg HNE.out, if_neg HX.out, HMO.out, HA1.out, HA2.out, HA3.out, HAL.out, HA4.out]; simp)
              have HTI := hid (show ∀ x, tIf w h mx zs r0 r1 r2 r3 left top corner x = x from fun x => by unfold tIf; rw [if_pos HC0.out])
              have HTLL := hid (show tList w h mx zs r0 r1 r2 r3 left top corner = gridL f nt k 0 from by unfold tList; rw [if_pos HC0.out, HAL.out])
              have z2_0 := HC.out.cell 2 rfl 0 rfl
              have z2_1 := HC.out.cell 2 rfl 1 rfl
              have z2_2 := HC.out.cell 2 rfl 2 rfl
              have z2_3 := HC.out.cell 2 rfl 3 rfl
              have z3_0 := HC.out.cell 3 rfl 0 rfl
              have z3_1 := HC.out.cell 3 rfl 1 rfl
              have z3_2 := HC.out.cell 3 rfl 2 rfl
              have z3_3 := HC.out.cell 3 rfl 3 rfl
              have f3_0 := HC.out.free 3 rfl 0
              have f3_1 := HC.out.free 3 rfl 1
              have f3_2 := HC.out.free 3 rfl 2
              have f3_3 := HC.out.free 3 rfl 3
              go_wp2_with fail
              have HZ := hid (HC.out.set4 3 rfl (.int .i64 (r2 - r0)) (.int .i64 (r3 - r1)) (.int .i64 most) (.slice (some ⟨g, 0, none⟩) ln cp))
              have k0 := HZ.out.cell 3 rfl 0 rfl
              have k1 := HZ.out.cell 3 rfl 1 rfl
              have k2 := HZ.out.cell 3 rfl 2 rfl
              have k3 := HZ.out.cell 3 rfl 3 rfl
              refine bodyPost_ret (v := .tuple #[.agg #[.int .i64 (r2 - r0), .int .i64 (r3 - r1), .int .i64 most, .slice (some ⟨g, 0, none⟩) ln cp], .int .i64 0]) ?_ rfl ⟨_, by rw [HTI.out, HTI.out, HTI.out, HC0.out, HMO.out], by rw [HTLL.out, hB]; exact HZ.out.own 1 rfl, by first | exact HZ.out.below | exact HZ.out.below'⟩
              unfold set4 at k0 k1 k2 k3
              simp [results, Try.results44, go_sem, k0, k1, k2, k3]
      · have hl2 : ((nl : Int) != r3 - r1) = false := by simpa using hl1
        have ht2 : ((nt : Int) != r2 - r0) = true := by simpa using ht1
        have hl3 : ((nl : Int) == r3 - r1) = true := by simpa using hl1
        have ht3 : ((nt : Int) == r2 - r0) = false := by simpa using ht1
        have HX := hid (show ¬ ((left.length : Int) = r3 - r1 ∧ (top.length : Int) = r2 - r0) by rw [HLL.out, HTL.out]; exact fun e => ht1 e.2)
        clear hl1 ht1
        have z0_0 := H7.out.cell 0 rfl 0 rfl
        have z0_1 := H7.out.cell 0 rfl 1 rfl
        have z0_2 := H7.out.cell 0 rfl 2 rfl
        have z0_3 := H7.out.cell 0 rfl 3 rfl
        have z1_0 := H7.out.cell 1 rfl 0 rfl
        have z1_1 := H7.out.cell 1 rfl 1 rfl
        have z1_2 := H7.out.cell 1 rfl 2 rfl
        have z1_3 := H7.out.cell 1 rfl 3 rfl
        have f1_0 := H7.out.free 1 rfl 0
        have f1_1 := H7.out.free 1 rfl 1
        have f1_2 := H7.out.free 1 rfl 2
        have f1_3 := H7.out.free 1 rfl 3
        have z2_0 := H7.out.cell 2 rfl 0 rfl
        have z2_1 := H7.out.cell 2 rfl 1 rfl
        have z2_2 := H7.out.cell 2 rfl 2 rfl
        have z2_3 := H7.out.cell 2 rfl 3 rfl
        have z3_0 := H7.out.cell 3 rfl 0 rfl
        have z3_1 := H7.out.cell 3 rfl 1 rfl
        have z3_2 := H7.out.cell 3 rfl 2 rfl
        have z3_3 := H7.out.cell 3 rfl 3 rfl
        go_wp2_with fail
        have HZ := hid (H7.out.set4 1 rfl (.int .i64 0) (.int .i64 0) (.int .i64 0) (.slice none 0 0))
        have k0 := HZ.out.cell 1 rfl 0 rfl
        have k1 := HZ.out.cell 1 rfl 1 rfl
        have k2 := HZ.out.cell 1 rfl 2 rfl
        have k3 := HZ.out.cell 1 rfl 3 rfl
        refine bodyPost_ret (v := .tuple #[.agg #[.int .i64 0, .int .i64 0, .int .i64 0, .slice none 0 0], .int .i64 8]) ?_ rfl (tile_no (by unfold tCode; rw [if_neg HNV.out, if_neg HNI.out, if_neg HNE.out, if_pos HX.out]) (by omega) (by first | exact HZ.out.below | exact HZ.out.below'))
        unfold set4 at k0 k1 k2 k3
        simp [results, Try.results44, go_sem, k0, k1, k2, k3]
    · have hl2 : ((nl : Int) != r3 - r1) = true := by simpa using hl1
      have hl3 : ((nl : Int) == r3 - r1) = false := by simpa using hl1
      have HX := hid (show ¬ ((left.length : Int) = r3 - r1 ∧ (top.length : Int) = r2 - r0) by rw [HLL.out]; exact fun e => hl1 e.1)
      clear hl1
      have z0_0 := H7.out.cell 0 rfl 0 rfl
      have z0_1 := H7.out.cell 0 rfl 1 rfl
      have z0_2 := H7.out.cell 0 rfl 2 rfl
      have z0_3 := H7.out.cell 0 rfl 3 rfl
      have z1_0 := H7.out.cell 1 rfl 0 rfl
      have z1_1 := H7.out.cell 1 rfl 1 rfl
      have z1_2 := H7.out.cell 1 rfl 2 rfl
      have z1_3 := H7.out.cell 1 rfl 3 rfl
      have f1_0 := H7.out.free 1 rfl 0
      have f1_1 := H7.out.free 1 rfl 1
      have f1_2 := H7.out.free 1 rfl 2
      have f1_3 := H7.out.free 1 rfl 3
      have z2_0 := H7.out.cell 2 rfl 0 rfl
      have z2_1 := H7.out.cell 2 rfl 1 rfl
      have z2_2 := H7.out.cell 2 rfl 2 rfl
      have z2_3 := H7.out.cell 2 rfl 3 rfl
      have z3_0 := H7.out.cell 3 rfl 0 rfl
      have z3_1 := H7.out.cell 3 rfl 1 rfl
      have z3_2 := H7.out.cell 3 rfl 2 rfl
      have z3_3 := H7.out.cell 3 rfl 3 rfl
      go_wp2_with fail
      have HZ := hid (H7.out.set4 1 rfl (.int .i64 0) (.int .i64 0) (.int .i64 0) (.slice none 0 0))
      have k0 := HZ.out.cell 1 rfl 0 rfl
      have k1 := HZ.out.cell 1 rfl 1 rfl
      have k2 := HZ.out.cell 1 rfl 2 rfl
      have k3 := HZ.out.cell 1 rfl 3 rfl
      refine bodyPost_ret (v := .tuple #[.agg #[.int .i64 0, .int .i64 0, .int .i64 0, .slice none 0 0], .int .i64 8]) ?_ rfl (tile_no (by unfold tCode; rw [if_neg HNV.out, if_neg HNI.out, if_neg HNE.out, if_pos HX.out]) (by omega) (by first | exact HZ.out.below | exact HZ.out.below'))
      unfold set4 at k0 k1 k2 k3
      simp [results, Try.results44, go_sem, k0, k1, k2, k3]
  · have hk1 : (kc == 0) = false := by simpa using hk0
    have hk2 : (kc != 0) = true := by simpa using hk0
    have HC := hid (HKC.out hk0)
    have hk3 := hid hk0
    clear hk0
    have z0_0 := H2.out.cell 0 rfl 0 rfl
    have z0_1 := H2.out.cell 0 rfl 1 rfl
    have z0_2 := H2.out.cell 0 rfl 2 rfl
    have z0_3 := H2.out.cell 0 rfl 3 rfl
    have f0_0 := H2.out.free 0 rfl 0
    have f0_1 := H2.out.free 0 rfl 1
    have f0_2 := H2.out.free 0 rfl 2
    have f0_3 := H2.out.free 0 rfl 3
    have z1_0 := H2.out.cell 1 rfl 0 rfl
    have z1_1 := H2.out.cell 1 rfl 1 rfl
    have z1_2 := H2.out.cell 1 rfl 2 rfl
    have z1_3 := H2.out.cell 1 rfl 3 rfl
    have z2_0 := H2.out.cell 2 rfl 0 rfl
    have z2_1 := H2.out.cell 2 rfl 1 rfl
    have z2_2 := H2.out.cell 2 rfl 2 rfl
    have z2_3 := H2.out.cell 2 rfl 3 rfl
    go_wp2_with fail
    have HZ := hid (H2.out.set4 0 rfl (.int .i64 0) (.int .i64 0) (.int .i64 0) (.slice none 0 0))
    have k0 := HZ.out.cell 0 rfl 0 rfl
    have k1 := HZ.out.cell 0 rfl 1 rfl
    have k2 := HZ.out.cell 0 rfl 2 rfl
    have k3 := HZ.out.cell 0 rfl 3 rfl
    refine bodyPost_ret (v := .tuple #[.agg #[.int .i64 0, .int .i64 0, .int .i64 0, .slice none 0 0], .int .i64 kc]) ?_ rfl (tile_no (HC.out) hk3.out (by first | exact HZ.out.below | exact HZ.out.below'))
    unfold set4 at k0 k1 k2 k3
    simp [results, Try.results44, go_sem, k0, k1, k2, k3]
end Go.Proofs.Ytoojiabdgaflgaa
