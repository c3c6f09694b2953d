/-
  Contract: the histogram of a whole plane, in the reference.
-/
import Derived.Test.YtoojiabdgaflgaaHist5
import Derived.Test.YtoojiabdgaflgaaSep
import Derived.Deep.RegionHeld3
namespace Go.Proofs.Ytoojiabdgaflgaa
open Go.RowKit
set_option linter.unusedVariables false
set_option linter.unusedSimpArgs false

theorem wb_mk {B : Nat} {W : World} {w h mx : Int} {a : Option Addr} {n c : Nat} {wB : World} (hSt : St B W [.cells (B + 1) #[.int .i64 0, .int .i64 0, .int .i64 0, .slice none 0 0] 26, .cells B #[.int .i64 w, .int .i64 h, .int .i64 mx, .slice a n c] 26] [] wB) : St B W [.cells (B + 1) #[.int .i64 0, .int .i64 0, .int .i64 0, .slice none 0 0] 26, .cells B #[.int .i64 w, .int .i64 h, .int .i64 mx, .slice a n c] 26] [] wB ∧ wB.cell? ⟨B + 1, 0, none⟩ = some (.int .i64 0) ∧ wB.cell? ⟨B + 1, 1, none⟩ = some (.int .i64 0) ∧ wB.cell? ⟨B + 1, 2, none⟩ = some (.int .i64 0) ∧ wB.cell? ⟨B + 1, 3, none⟩ = some (.slice none 0 0) ∧ wB.cell? ⟨B, 0, none⟩ = some (.int .i64 w) ∧ wB.cell? ⟨B, 1, none⟩ = some (.int .i64 h) ∧ wB.cell? ⟨B, 2, none⟩ = some (.int .i64 mx) ∧ wB.cell? ⟨B, 3, none⟩ = some (.slice a n c) := ⟨hSt, (hSt).cell 0 rfl 0 rfl, (hSt).cell 0 rfl 1 rfl, (hSt).cell 0 rfl 2 rfl, (hSt).cell 0 rfl 3 rfl, (hSt).cell 1 rfl 0 rfl, (hSt).cell 1 rfl 1 rfl, (hSt).cell 1 rfl 2 rfl, (hSt).cell 1 rfl 3 rfl⟩
theorem wb_keep {B : Nat} {W : World} {w h mx : Int} {a : Option Addr} {n c : Nat} {wA wB : World} (hb : Below wA.heap.size wA wB) (p : St B W [.cells (B + 1) #[.int .i64 0, .int .i64 0, .int .i64 0, .slice none 0 0] 26, .cells B #[.int .i64 w, .int .i64 h, .int .i64 mx, .slice a n c] 26] [] wA ∧ wA.cell? ⟨B + 1, 0, none⟩ = some (.int .i64 0) ∧ wA.cell? ⟨B + 1, 1, none⟩ = some (.int .i64 0) ∧ wA.cell? ⟨B + 1, 2, none⟩ = some (.int .i64 0) ∧ wA.cell? ⟨B + 1, 3, none⟩ = some (.slice none 0 0) ∧ wA.cell? ⟨B, 0, none⟩ = some (.int .i64 w) ∧ wA.cell? ⟨B, 1, none⟩ = some (.int .i64 h) ∧ wA.cell? ⟨B, 2, none⟩ = some (.int .i64 mx) ∧ wA.cell? ⟨B, 3, none⟩ = some (.slice a n c)) : St B W [.cells (B + 1) #[.int .i64 0, .int .i64 0, .int .i64 0, .slice none 0 0] 26, .cells B #[.int .i64 w, .int .i64 h, .int .i64 mx, .slice a n c] 26] [] wB ∧ wB.cell? ⟨B + 1, 0, none⟩ = some (.int .i64 0) ∧ wB.cell? ⟨B + 1, 1, none⟩ = some (.int .i64 0) ∧ wB.cell? ⟨B + 1, 2, none⟩ = some (.int .i64 0) ∧ wB.cell? ⟨B + 1, 3, none⟩ = some (.slice none 0 0) ∧ wB.cell? ⟨B, 0, none⟩ = some (.int .i64 w) ∧ wB.cell? ⟨B, 1, none⟩ = some (.int .i64 h) ∧ wB.cell? ⟨B, 2, none⟩ = some (.int .i64 mx) ∧ wB.cell? ⟨B, 3, none⟩ = some (.slice a n c) := wb_mk (p.1.call hb)

set_option maxRecDepth 100000 in
set_option maxHeartbeats 1600000 in
theorem qwhole_any (w h mx : Int) (a : Option Addr) (n c : Nat) (zs : List Int) (bins : Int) (W : World) (hr : Slc W a n c zs) :
    Calls Try.prog 33 #[.agg #[.int .i64 w, .int .i64 h, .int .i64 mx, .slice a n c], .int .i64 bins] W (WholePost w h mx zs bins W) := by
  obtain ⟨B, hB⟩ : ∃ B, W.heap.size = B := ⟨_, rfl⟩
  have HR := hid hr
  clear hr
  go_enter Try.func33, Try.ntmps33
  have H0 := hid (((St.init hB).alloc #[.int .i64 w, .int .i64 h, .int .i64 mx, .slice a n c] 26 hB).alloc #[.int .i64 0, .int .i64 0, .int .i64 0, .slice none 0 0] 26 (alloc_size _ hB))
  have HS := hid (wb_mk (H0.out.drewN 1))
  go_wp2_with fail
  go_region_held3 (fun w' => St B W [.cells (B + 1) #[.int .i64 0, .int .i64 0, .int .i64 0, .slice none 0 0] 26, .cells B #[.int .i64 w, .int .i64 h, .int .i64 mx, .slice a n c] 26] [] w' ∧ w'.cell? ⟨B + 1, 0, none⟩ = some (.int .i64 0) ∧ w'.cell? ⟨B + 1, 1, none⟩ = some (.int .i64 0) ∧ w'.cell? ⟨B + 1, 2, none⟩ = some (.int .i64 0) ∧ w'.cell? ⟨B + 1, 3, none⟩ = some (.slice none 0 0) ∧ w'.cell? ⟨B, 0, none⟩ = some (.int .i64 w) ∧ w'.cell? ⟨B, 1, none⟩ = some (.int .i64 h) ∧ w'.cell? ⟨B, 2, none⟩ = some (.int .i64 mx) ∧ w'.cell? ⟨B, 3, none⟩ = some (.slice a n c)) (first | exact HS.out | (refine wb_keep hbs ?_; assumption)) (first | (go_at_call 70; refine (qcover_any _ _ _ _ _ _ _).mono ?_; rintro e w' ⟨rfl, hbs⟩) | (go_at_call 32; have hSt : St B W [.cells (B + 1) #[.int .i64 0, .int .i64 0, .int .i64 0, .slice none 0 0] 26, .cells B #[.int .i64 w, .int .i64 h, .int .i64 mx, .slice a n c] 26] [] _ := And.left (by assumption); refine (qpartial_any _ _ _ _ _ _ _ _ _ _ _ _ _ (St.old hSt HR.out)).mono ?_; rintro e w' ⟨v, rfl, ho, hbs⟩; have hgr := hid (hSt.grow hbs ho); clear hSt))
  have H2 := hid (show St B W [.own v (hList w h mx zs bins 0 0 w h), .cells (B + 1) #[.int .i64 0, .int .i64 0, .int .i64 0, .slice none 0 0] 26, .cells B #[.int .i64 w, .int .i64 h, .int .i64 mx, .slice a n c] 26] [] w' from hgr.out)
  clear ho hbs hgr
  obtain ⟨x0, x1, x2, x3, x4, x5, x6, x7⟩ : _ ∧ _ ∧ _ ∧ _ ∧ _ ∧ _ ∧ _ ∧ _ := ⟨(H2.out).cell 1 rfl 0 rfl, (H2.out).cell 1 rfl 1 rfl, (H2.out).cell 1 rfl 2 rfl, (H2.out).cell 1 rfl 3 rfl, (H2.out).cell 2 rfl 0 rfl, (H2.out).cell 2 rfl 1 rfl, (H2.out).cell 2 rfl 2 rfl, (H2.out).cell 2 rfl 3 rfl⟩
  have f0 := H2.out.free 1 rfl 0
  have f1 := H2.out.free 1 rfl 1
  have f2 := H2.out.free 1 rfl 2
  have f3 := H2.out.free 1 rfl 3
  obtain ⟨va, vc, rfl, _⟩ := (H2.out.own 0 rfl).slc
  have hcd : hOk w h mx zs bins 0 0 w h = wCode w h mx zs bins := rfl
  rw [hcd]
  clear hcd
  have HW := hid (show ∀ x, wIf w h mx zs bins x = if wCode w h mx zs bins = 0 then x else 0 from fun _ => rfl)
  have HV := hid (show wCode w h mx zs bins = 0 → pValid w h mx zs = true by
    intro h0
    cases hv : pValid w h mx zs with
    | true => rfl
    | false => simp [wCode, hOk, hv] at h0)
  obtain ⟨cd, hcd⟩ : ∃ cd, wCode w h mx zs bins = cd := ⟨_, rfl⟩
  rw [hcd] at HW HV ⊢
  have HCD := hid hcd
  clear hcd
  by_cases h0 : cd = 0
  · subst h0
    obtain ⟨_, _, _, _, p5, _, _⟩ := pOk_iff.1 (pValid_iff.1 (HV.out rfl)).1
    have p0 : 0 ≤ w * h := Int.mul_nonneg (by omega) (by omega)
    go_wp2_with fail
    obtain ⟨q0, q1, q2, q3⟩ := set4_cells (x := .int .i64 bins) (y := .int .i64 1) (z := .int .i64 (w * h)) (u := .slice va (hList w h mx zs bins 0 0 w h).length vc) (H2.out.all 1 _ rfl).2
    refine bodyPost_ret (v := .tuple #[.agg #[.int .i64 bins, .int .i64 1, .int .i64 (w * h), .slice va (hList w h mx zs bins 0 0 w h).length vc], .int .i64 0]) ?_ rfl ⟨_, by rw [HW.out, HW.out, HW.out, HCD.out]; rfl, ?_, ?_⟩
    · unfold set4 at q0 q1 q2 q3
      simp [results, Try.results33, go_sem, q0, q1, q2, q3]
    · rw [hB]; exact (H2.out.set4 1 rfl _ _ _ _).own 0 rfl
    · exact (H2.out.set4 1 rfl _ _ _ _).below
  · have hne : (cd == 0) = false := by simpa using h0
    go_wp2_with fail
    obtain ⟨q0, q1, q2, q3⟩ := set4_cells (x := .int .i64 0) (y := .int .i64 0) (z := .int .i64 0) (u := .slice none 0 0) (H2.out.all 1 _ rfl).2
    have HLL := hid (show hList w h mx zs bins 0 0 w h = [] by unfold hList; rw [if_neg (by rw [show hOk w h mx zs bins 0 0 w h = cd from HCD.out]; exact h0)])
    refine bodyPost_ret (v := .tuple #[.agg #[.int .i64 0, .int .i64 0, .int .i64 0, .slice none 0 0], .int .i64 cd]) ?_ rfl ⟨_, by rw [HW.out, HW.out, HW.out, HCD.out, if_neg h0, if_neg h0, if_neg h0], ?_, ?_⟩
    · unfold set4 at q0 q1 q2 q3
      simp [results, Try.results33, go_sem, q0, q1, q2, q3]
    · rw [HLL.out]; exact Own.nil _ _
    · exact (H2.out.set4 1 rfl _ _ _ _).below
end Go.Proofs.Ytoojiabdgaflgaa
