/-
  Contracts: equal planes, in the reference; the tape's Plane and Edge.
-/
import Derived.Test.YtoojiabdgaflgaaSized
import Derived.Test.YtoojiabdgaflgaaSame
namespace Go.Proofs.Ytoojiabdgaflgaa
open Go.RowKit
attribute [local go_sem ↓] Go.wp_at_zero Go.wp_at_succ
set_option linter.unusedVariables false
set_option linter.unusedSimpArgs false

def pEq (w h m : Int) (xs : List Int) (w' h' m' : Int) (ys : List Int) : Bool := decide (w = w' ∧ h = h' ∧ m = m' ∧ xs = ys)
theorem pEq_false {w h m : Int} {xs : List Int} {w' h' m' : Int} {ys : List Int} (e : ¬ (w = w' ∧ h = h' ∧ m = m' ∧ xs = ys)) : pEq w h m xs w' h' m' ys = false := by
  unfold pEq; rw [decide_eq_false_iff_not]; exact e
set_option maxRecDepth 100000 in
set_option maxHeartbeats 1600000 in
theorem qequal_any (w h m : Int) (a : Option Addr) (n c : Nat) (xs : List Int) (w' h' m' : Int) (a' : Option Addr) (n' c' : Nat) (ys : List Int) (W : World) (hx : Slc W a n c xs) (hy : Slc W a' n' c' ys) :
    Calls Try.prog 24 #[.agg #[.int .i64 w, .int .i64 h, .int .i64 m, .slice a n c], .agg #[.int .i64 w', .int .i64 h', .int .i64 m', .slice a' n' c']] W fun e u => e = .returned (.bool (pEq w h m xs w' h' m' ys)) ∧ Below W.heap.size W u := by
  obtain ⟨B, hB⟩ : ∃ B, W.heap.size = B := ⟨_, rfl⟩
  have H0 := hid (((St.init hB).alloc #[.int .i64 w, .int .i64 h, .int .i64 m, .slice a n c] 26 hB).alloc #[.int .i64 w', .int .i64 h', .int .i64 m', .slice a' n' c'] 26 (alloc_size _ hB))
  have HX := hid ((hx.alloc (.cells #[.int .i64 w, .int .i64 h, .int .i64 m, .slice a n c] 26)).alloc (.cells #[.int .i64 w', .int .i64 h', .int .i64 m', .slice a' n' c'] 26))
  have HY := hid ((hy.alloc (.cells #[.int .i64 w, .int .i64 h, .int .i64 m, .slice a n c] 26)).alloc (.cells #[.int .i64 w', .int .i64 h', .int .i64 m', .slice a' n' c'] 26))
  clear hx hy
  by_cases h1 : w = w'
  · subst h1
    by_cases h2 : h = h'
    · subst h2
      by_cases h3 : m = m'
      · subst h3
        have HE := hid (show lEq xs ys = pEq w h m xs w h m ys by simp [lEq, pEq])
        go_enter Try.func24, Try.ntmps24
        go_wp2_with fail
        refine (qsame_any _ _ _ _ _ _ _ _ _ HX.out HY.out).mono ?_
        rintro e w1 ⟨rfl, q, rfl⟩
        rw [HE.out]
        go_wp2_with fail
        go_ret
        exact ⟨rfl, (H0.out.drewN q).below⟩
      · have e1 : (m == m') = false := by simpa using h3
        have HE := hid (pEq_false (w := w) (h := h) (m := m) (xs := xs) (w' := w) (h' := h) (m' := m') (ys := ys) (fun e => h3 e.2.2.1))
        rw [HE.out]
        go_enter Try.func24, Try.ntmps24
        go_wp2_with fail
        go_ret
        exact ⟨rfl, H0.out.below⟩
    · have e1 : (h == h') = false := by simpa using h2
      have HE := hid (pEq_false (w := w) (h := h) (m := m) (xs := xs) (w' := w) (h' := h') (m' := m') (ys := ys) (fun e => h2 e.2.1))
      rw [HE.out]
      go_enter Try.func24, Try.ntmps24
      go_wp2_with fail
      go_ret
      exact ⟨rfl, H0.out.below⟩
  · have e1 : (w == w') = false := by simpa using h1
    have HE := hid (pEq_false (w := w) (h := h) (m := m) (xs := xs) (w' := w') (h' := h') (m' := m') (ys := ys) (fun e => h1 e.1))
    rw [HE.out]
    go_enter Try.func24, Try.ntmps24
    go_wp2_with fail
    go_ret
    exact ⟨rfl, H0.out.below⟩

def TPlanePost (B0 k : Nat) (W : World) (e : Ending) (w' : World) : Prop := ∃ w h : Int, 1 ≤ w ∧ w ≤ 6 ∧ 1 ≤ h ∧ h ≤ 5 ∧ PlanePost B0 k W w h e w'
set_option maxRecDepth 100000 in
set_option maxHeartbeats 1600000 in
theorem plane_any (B0 k : Nat) (W : World) (ht : TapeB B0 W k) :
    Calls Try.prog 19 #[.pointer (some ⟨k, 0, none⟩)] W (TPlanePost B0 k W) := by
  obtain ⟨B, hB⟩ : ∃ B, W.heap.size = B := ⟨_, rfl⟩
  have H0 := hid ((Tk.init ht hB).alloc #[.int .i64 0, .int .i64 0, .int .i64 0, .slice none 0 0] 26 hB)
  clear ht
  go_enter Try.func19, Try.ntmps19
  go_wp2_with fail
  refine (nextB_any B0 k _ _ (by omega) H0.out.tape).mono ?_
  rintro e w1 ⟨x, rfl, g1, g2, ht1, hg1, hs1⟩
  have H1 := hid (H0.out.next ht1 hg1)
  clear ht1 hg1 hs1
  go_wp2_with fail
  refine (nextB_any B0 k _ _ (by omega) H1.out.tape).mono ?_
  rintro e w2 ⟨y, rfl, g3, g4, ht2, hg2, hs2⟩
  have H2 := hid (H1.out.next ht2 hg2)
  clear ht2 hg2 hs2
  go_wp2_with fail
  refine (sized_any B0 k _ _ _ (by omega) (by omega) (by omega) (by omega) H2.out.tape).mono ?_
  rintro e w3 ⟨mx, v, zs, rfl, hv, hm, ho, ht3, hg3⟩
  have H3 := hid (H2.out.add ht3 hg3 ho)
  have HV := hid hv
  clear hv ho ht3 hg3
  have y0 := H3.out.cell 1 rfl 0 rfl
  have y1 := H3.out.cell 1 rfl 1 rfl
  have y2 := H3.out.cell 1 rfl 2 rfl
  have y3 := H3.out.cell 1 rfl 3 rfl
  have e0 := H3.out.free 1 rfl 0
  have e1 := H3.out.free 1 rfl 1
  have e2 := H3.out.free 1 rfl 2
  have e3 := H3.out.free 1 rfl 3
  obtain ⟨g, c, rfl⟩ := (H3.out.own 0 rfl).pos (by have h1 := (pValid_iff.1 HV.out).2.1; have : 1 * 1 ≤ (1 + x) * (1 + y) := Int.mul_le_mul (by omega) (by omega) (by omega) (by omega); omega)
  go_wp2_with fail
  have H5 := hid (H3.out.set4 1 rfl (.int .i64 (1 + x)) (.int .i64 (1 + y)) (.int .i64 mx) (.slice (some ⟨g, 0, none⟩) zs.length c))
  have k0 := H5.out.cell 1 rfl 0 rfl
  have k1 := H5.out.cell 1 rfl 1 rfl
  have k2 := H5.out.cell 1 rfl 2 rfl
  have k3 := H5.out.cell 1 rfl 3 rfl
  refine bodyPost_ret (v := .agg #[.int .i64 (1 + x), .int .i64 (1 + y), .int .i64 mx, .slice (some ⟨g, 0, none⟩) zs.length c]) ?_ rfl ⟨_, _, by omega, by omega, by omega, by omega, _, _, _, rfl, HV.out, hm, by rw [hB]; exact H5.out.own 0 rfl, H5.out.tape, H5.out.grown⟩
  unfold set4 at k0 k1 k2 k3
  simp [results, Try.results19, go_sem, k0, k1, k2, k3]
end Go.Proofs.Ytoojiabdgaflgaa
