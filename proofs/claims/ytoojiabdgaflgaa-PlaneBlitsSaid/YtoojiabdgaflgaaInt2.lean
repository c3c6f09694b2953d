/-
  Contracts: numbers beyond a limit; the sum of a rectangle out of an integral plane, in the program and in the reference.
-/
import Derived.Test.YtoojiabdgaflgaaInt1
import Derived.Test.YtoojiabdgaflgaaRectIn
import Derived.Test.YtoojiabdgaflgaaHistPlain
import Derived.Test.YtoojiabdgaflgaaHist3
import Derived.Deep.QuietTactic
import Derived.BigQuiet
import Derived.Deep.RegionHeld3
namespace Go.Proofs.Ytoojiabdgaflgaa
open Go.RowKit
set_option linter.unusedVariables false
set_option linter.unusedSimpArgs false

theorem outside_any (mx : Int) (a : Option Addr) (n c : Nat) (zs : List Int) (W : World) (hs : Slc W a n c zs) :
    Calls Try.prog 77 #[.int .i64 mx, .slice a n c] W fun e w' => e = .returned (.bool (!allIn mx zs)) ∧ w' = W := by
  have HS := hid hs
  have HL := hid hs.len
  have nm : (n : Int) ≤ 9223372036854775807 := by have := hs.nc; have := hs.cap; omega
  clear hs
  go_enter Try.func77, Try.ntmps77
  go_wp2_with fail
  go_loop [9] (fun i => ∃ j : Nat, j ≤ n ∧ i = .int .i64 j ∧ (∀ i, i < j → 0 ≤ zs.getD i 0 ∧ zs.getD i 0 ≤ mx)) (fun i => n - (intOf i).toNat)
  case atStart => exact ⟨0, by omega, rfl, fun i hi => by omega⟩
  case round =>
    obtain ⟨j, hj, rfl, ha⟩ := hrel
    have HA := hid ha
    clear ha
    by_cases hjn : j < n
    · obtain ⟨b, o, rfl⟩ := row_at HS.out.row (by omega)
      have cz := row_cell HS.out.row hjn
      have hjn' : (j : Int) < n := by omega
      have hlt : j < zs.length := by rw [HL.out]; exact hjn
      have HB := hid (fun hbad : zs.getD j 0 < 0 ∨ mx < zs.getD j 0 => allIn_bad hlt hbad)
      have HI := hid (show 0 ≤ zs.getD j 0 ∧ zs.getD j 0 ≤ mx → ∀ i, i < j + 1 → 0 ≤ zs.getD i 0 ∧ zs.getD i 0 ≤ mx from fun hg i hi => by
        rcases Nat.lt_or_ge i j with h' | h'
        · exact HA.out i h'
        · obtain rfl : i = j := by omega
          exact hg)
      generalize zs.getD j 0 = z at *
      by_cases hz : 0 ≤ z ∧ z ≤ mx
      · obtain ⟨z1, z2⟩ := hz
        go_wp2_with fail
        go_round
        case rel => exact ⟨j + 1, by omega, by go_num, HI.out ⟨z1, z2⟩⟩
        case measure => simp [intOf]; omega
      · go_wp2_with fail
        all_goals first
          | (go_ret; exact ⟨ret_b (by rw [HB.out (by omega)]; rfl), rfl⟩)
          | (exfalso; omega)
    · have hjn' : ¬ ((j : Int) < n) := by omega
      have HT := hid (show allIn mx zs = true from allIn_of fun i hi => HA.out i (by rw [HL.out] at hi; omega))
      go_wp2_with fail
      go_ret
      exact ⟨ret_b (by rw [HT.out]; rfl), rfl⟩

def qAt (w : Int) (zs : List Int) (x y : Int) : Int := if x < 0 ∨ y < 0 then 0 else zs.getD (y * w + x).toNat 0
theorem qAt_no {w : Int} {zs : List Int} {x y : Int} (h : x < 0 ∨ y < 0) : qAt w zs x y = 0 := by unfold qAt; rw [if_pos h]
theorem qAt_yes {w : Int} {zs : List Int} {x y : Int} (h : ¬ (x < 0 ∨ y < 0)) : qAt w zs x y = zs.getD (y * w + x).toNat 0 := by unfold qAt; rw [if_neg h]
theorem qAt_bd {w h mx : Int} {zs : List Int} (hv : pValid w h mx zs = true) (x y : Int) : 0 ≤ qAt w zs x y ∧ qAt w zs x y ≤ mx := by
  have hm := (pOk_iff.1 (pValid_iff.1 hv).1).2.2.2.2.2.1
  unfold qAt
  split
  · omega
  · rcases Nat.lt_or_ge (y * w + x).toNat zs.length with h' | h'
    · rw [List.getD_eq_getElem?_getD, List.getElem?_eq_getElem h']
      exact (pValid_iff.1 hv).2.2 _ (List.getElem_mem h')
    · rw [List.getD_eq_getElem?_getD, List.getElem?_eq_none h']
      show (0 : Int) ≤ 0 ∧ (0 : Int) ≤ mx
      omega
/-- The place of a pixel. -/
theorem pix_at {w h x y : Int} (h1 : 1 ≤ w) (h2 : w ≤ 128) (h3 : h ≤ 128) (x0 : 0 ≤ x) (x1 : x < w) (y0 : 0 ≤ y) (y1 : y < h) : 0 ≤ y * w ∧ y * w ≤ 128 * 128 ∧ 0 ≤ y * w + x ∧ y * w + x < w * h := by
  have p0 : 0 ≤ y * w := Int.mul_nonneg y0 (by omega)
  have p1 : y * w ≤ 128 * 128 := Int.mul_le_mul (by omega) h2 (by omega) (by omega)
  have p2 : y * w ≤ (h - 1) * w := Int.mul_le_mul_of_nonneg_right (by omega) (by omega)
  rw [Int.sub_mul, Int.one_mul, Int.mul_comm h w] at p2
  omega

set_option maxRecDepth 100000 in
theorem sumAt_any (w h x y : Int) (b : Nat) (a : Option Addr) (n c : Nat) (zs : List Int) (W : World) (hs : Slc W a n c zs) (hn : (n : Int) = w * h) (h1 : 1 ≤ w) (h2 : w ≤ 128) (h3 : h ≤ 128) (hp : w * h ≤ 4096) (x0 : -1 ≤ x) (x1 : x < w) (y0 : -1 ≤ y) (y1 : y < h)
    (c0 : W.cell? ⟨b, 0, none⟩ = some (.int .i64 w)) (c3 : W.cell? ⟨b, 3, none⟩ = some (.slice a n c)) :
    Calls Try.prog 72 #[.int .i64 x, .int .i64 y, .pointer (some ⟨b, 0, none⟩)] W fun e w' => e = .returned (.int .i64 (qAt w zs x y)) ∧ w' = W := by
  by_cases hc : x < 0 ∨ y < 0
  · rw [qAt_no hc]
    rcases hc with hc | hc
    all_goals
      go_enter Try.func72, Try.ntmps72
      go_wp2_with fail
      all_goals first
        | (go_ret; exact ⟨rfl, rfl⟩)
        | (exfalso; omega)
  · rw [qAt_yes hc]
    have x0' : 0 ≤ x := by omega
    have y0' : 0 ≤ y := by omega
    obtain ⟨p0, p1, p2, p3⟩ := pix_at h1 h2 h3 x0' x1 y0' y1
    obtain ⟨P, hP, q1, P0⟩ : ∃ P, y * w = P ∧ IntKind.i64.wrap (y * w) = P ∧ 0 ≤ P := ⟨_, rfl, IntWalk.i64_in _ (by omega), p0⟩
    rw [hP] at p1 p2 p3 ⊢
    obtain ⟨b', o, rfl⟩ := row_at hs.row (by omega)
    have cz := row_cell hs.row (j := (P + x).toNat) (by omega)
    have hlt : P + x < n := by omega
    have hnc := hs.nc
    have hcap := hs.cap
    generalize zs.getD (P + x).toNat 0 = z at *
    clear hs hP hc hn p3 x0 y0
    go_enter Try.func72, Try.ntmps72
    go_wp2_with fail
    go_ret
    exact ⟨rfl, rfl⟩

set_option maxRecDepth 100000 in
theorem qat_any (w h mx x y : Int) (a : Option Addr) (n c : Nat) (zs : List Int) (W : World) (hs : Slc W a n c zs) (hn : (n : Int) = w * h) (h1 : 1 ≤ w) (h2 : w ≤ 128) (h3 : h ≤ 128) (hp : w * h ≤ 4096) (x0 : -1 ≤ x) (x1 : x < w) (y0 : -1 ≤ y) (y1 : y < h) :
    Calls Try.prog 76 #[.agg #[.int .i64 w, .int .i64 h, .int .i64 mx, .slice a n c], .int .i64 x, .int .i64 y] W fun e w' => e = .returned (.int .i64 (qAt w zs x y)) ∧ Below W.heap.size W w' := by
  have HB := hid (below_self W (.cells #[.int .i64 w, .int .i64 h, .int .i64 mx, .slice a n c] 26))
  by_cases hc : x < 0 ∨ y < 0
  · rw [qAt_no hc]
    rcases hc with hc | hc
    all_goals
      go_enter Try.func76, Try.ntmps76
      go_wp2_with fail
      all_goals first
        | (go_ret; exact ⟨rfl, HB.out⟩)
        | (exfalso; omega)
  · rw [qAt_yes hc]
    have x0' : 0 ≤ x := by omega
    have y0' : 0 ≤ y := by omega
    obtain ⟨p0, p1, p2, p3⟩ := pix_at h1 h2 h3 x0' x1 y0' y1
    obtain ⟨P, hP, q1, P0⟩ : ∃ P, y * w = P ∧ IntKind.i64.wrap (y * w) = P ∧ 0 ≤ P := ⟨_, rfl, IntWalk.i64_in _ (by omega), p0⟩
    rw [hP] at p1 p2 p3 ⊢
    obtain ⟨b', o, rfl⟩ := row_at hs.row (by omega)
    have cz := row_cell (hs.alloc (.cells #[.int .i64 w, .int .i64 h, .int .i64 mx, .slice (some ⟨b', o, none⟩) n c] 26)).row (j := (P + x).toNat) (by omega)
    have hlt : P + x < n := by omega
    have hnc := hs.nc
    have hcap := hs.cap
    generalize zs.getD (P + x).toNat 0 = z at *
    clear hs hP hc hn p3 x0 y0
    go_enter Try.func76, Try.ntmps76
    go_wp2_with fail
    go_ret
    exact ⟨rfl, HB.out⟩
end Go.Proofs.Ytoojiabdgaflgaa
