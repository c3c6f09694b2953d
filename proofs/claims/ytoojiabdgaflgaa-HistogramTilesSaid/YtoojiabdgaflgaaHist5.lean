/-
  Contracts: the histogram of a whole plane.
-/
import Derived.Test.YtoojiabdgaflgaaHist4
namespace Go.Proofs.Ytoojiabdgaflgaa
open Go.RowKit
set_option linter.unusedVariables false

def wCode (w h mx : Int) (zs : List Int) (bins : Int) : Int := hOk w h mx zs bins 0 0 w h
def wIf (w h mx : Int) (zs : List Int) (bins x : Int) : Int := if wCode w h mx zs bins = 0 then x else 0
def WholePost (w h mx : Int) (zs : List Int) (bins : Int) (W : World) (e : Ending) (w' : World) : Prop :=
  ∃ v, e = .returned (.tuple #[.agg #[.int .i64 (wIf w h mx zs bins bins), .int .i64 (wIf w h mx zs bins 1), .int .i64 (wIf w h mx zs bins (w * h)), v], .int .i64 (wCode w h mx zs bins)]) ∧ Own W.heap.size w' v (hList w h mx zs bins 0 0 w h) ∧ Below W.heap.size W w'

theorem Own.set4 {base : Nat} {w : World} {v : Value} {zs : List Int} (h : Own base w v zs) {b : Nat} (hb : b < base) (x y z u : Value) : Own base (set4 w b x y z u) v zs := by
  have hne : v.ownBlock ≠ some b := by
    rcases h.form with ⟨rfl, _⟩ | ⟨g, c, rfl, h1, _, _⟩
    · simp [Value.ownBlock]
    · simp [Value.ownBlock]; omega
  exact (((h.keptBy (grown_setCell _ _ _ _) hne).keptBy (grown_setCell _ _ _ _) hne).keptBy (grown_setCell _ _ _ _) hne).keptBy (grown_setCell _ _ _ _) hne

set_option maxRecDepth 100000 in
set_option maxHeartbeats 1600000 in
theorem whole_any (w h mx : Int) (a : Option Addr) (n c : Nat) (zs : List Int) (bins : Int) (W : World) (hr : Slc W a n c zs) :
    Calls Try.prog 22 #[.agg #[.int .i64 w, .int .i64 h, .int .i64 mx, .slice a n c], .int .i64 bins] W (WholePost w h mx zs bins W) := by
  obtain ⟨B, hB⟩ : ∃ B, W.heap.size = B := ⟨_, rfl⟩
  have HR := hid hr
  clear hr
  go_enter Try.func22, Try.ntmps22
  go_wp2_with fail
  refine (partial_any _ _ _ _ _ _ _ _ _ _ _ _ _ ((HR.out.alloc _).alloc _)).mono ?_
  rintro e w1 ⟨v, rfl, ho, hb⟩
  rw [alloc_size _ (alloc_size _ hB)] at ho
  obtain ⟨kp, x0, x1, x2, x3⟩ := kept4 hb (alloc_past _ (alloc_at (.cells #[.int .i64 w, .int .i64 h, .int .i64 mx, .slice a n c] 26) hB))
  have KT := hid (kept hb (alloc_at (.cells #[.int .i64 0, .int .i64 0, .int .i64 0, .slice none 0 0] 26) (alloc_size (.cells #[.int .i64 w, .int .i64 h, .int .i64 mx, .slice a n c] 26) hB)))
  have S1 := hid ((((Since.self hB).alloc (.cells #[.int .i64 w, .int .i64 h, .int .i64 mx, .slice a n c] 26)).alloc (.cells #[.int .i64 0, .int .i64 0, .int .i64 0, .slice none 0 0] 26)).call hb)
  obtain ⟨va, vc, rfl, _⟩ := ho.slc
  have HO := hid ho
  clear hb ho kp
  obtain ⟨f0, f1, f2, f3⟩ := free4 KT.out
  have y0 := cell_of (i := 0) KT.out rfl
  have y1 := cell_of (i := 1) KT.out rfl
  have y2 := cell_of (i := 2) KT.out rfl
  have y3 := cell_of (i := 3) KT.out rfl
  have hcd : hOk w h mx zs bins 0 0 w h = wCode w h mx zs bins := rfl
  rw [hcd]
  clear hcd
  have HW := hid (show ∀ x, wIf w h mx zs bins x = if wCode w h mx zs bins = 0 then x else 0 from fun _ => rfl)
  have HV := hid (show wCode w h mx zs bins = 0 → pValid w h mx zs = true by
    intro h0
    cases hv : pValid w h mx zs with
    | true => rfl
    | false => simp [wCode, hOk, hv] at h0)
  obtain ⟨cd, hcd⟩ : ∃ cd, wCode w h mx zs bins = cd := ⟨_, rfl⟩
  rw [hcd] at HW HV ⊢
  have HCD := hid hcd
  clear hcd
  by_cases h0 : cd = 0
  · subst h0
    obtain ⟨_, _, _, _, p5, _, _⟩ := pOk_iff.1 (pValid_iff.1 (HV.out rfl)).1
    have p0 : 0 ≤ w * h := Int.mul_nonneg (by omega) (by omega)
    go_wp2_with fail
    obtain ⟨q0, q1, q2, q3⟩ := set4_cells (x := .int .i64 bins) (y := .int .i64 1) (z := .int .i64 (w * h)) (u := .slice va (hList w h mx zs bins 0 0 w h).length vc) KT.out
    refine bodyPost_ret (v := .tuple #[.agg #[.int .i64 bins, .int .i64 1, .int .i64 (w * h), .slice va (hList w h mx zs bins 0 0 w h).length vc], .int .i64 0]) ?_ rfl ⟨_, by rw [HW.out, HW.out, HW.out, HCD.out]; rfl, ?_, ?_⟩
    · unfold set4 at q0 q1 q2 q3
      simp [results, Try.results22, go_sem, q0, q1, q2, q3]
    · exact (HO.out.set4 (b := B + 1) (by omega) _ _ _ _).base (by omega)
    · first | exact (Since.set4 (b := B + 1) S1.out (by omega)).below | exact (Since.set4 (b := B + 1) S1.out (by omega)).all hB
  · have hne : (cd == 0) = false := by simpa using h0
    go_wp2_with fail
    obtain ⟨q0, q1, q2, q3⟩ := set4_cells (x := .int .i64 0) (y := .int .i64 0) (z := .int .i64 0) (u := .slice none 0 0) KT.out
    have HLL := hid (show hList w h mx zs bins 0 0 w h = [] by unfold hList; rw [if_neg (by rw [show hOk w h mx zs bins 0 0 w h = cd from HCD.out]; exact h0)])
    refine bodyPost_ret (v := .tuple #[.agg #[.int .i64 0, .int .i64 0, .int .i64 0, .slice none 0 0], .int .i64 cd]) ?_ rfl ⟨_, by rw [HW.out, HW.out, HW.out, HCD.out, if_neg h0, if_neg h0, if_neg h0], ?_, ?_⟩
    · unfold set4 at q0 q1 q2 q3
      simp [results, Try.results22, go_sem, q0, q1, q2, q3]
    · rw [HLL.out]; exact Own.nil _ _
    · first | exact (Since.set4 (b := B + 1) S1.out (by omega)).below | exact (Since.set4 (b := B + 1) S1.out (by omega)).all hB
end Go.Proofs.Ytoojiabdgaflgaa
