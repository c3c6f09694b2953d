/-
  Contract: the copy of a plane.
-/
import Derived.Test.YtoojiabdgaflgaaSpoil
namespace Go.Proofs.Ytoojiabdgaflgaa
open Go.RowKit
set_option linter.unusedVariables false
set_option linter.unusedSimpArgs false

def CopyPost (w h mx : Int) (zs : List Int) (W : World) (e : Ending) (w' : World) : Prop :=
  ∃ v, e = .returned (.agg #[.int .i64 w, .int .i64 h, .int .i64 mx, v]) ∧ Own W.heap.size w' v zs ∧ Below W.heap.size W w'
set_option maxRecDepth 100000 in
set_option maxHeartbeats 1600000 in
theorem qcopy_any (w h mx : Int) (a : Option Addr) (n c : Nat) (zs : List Int) (W : World) (hs : Slc W a n c zs) (hn1 : 1 ≤ n) (hn2 : n ≤ 1000000) :
    Calls Try.prog 21 #[.agg #[.int .i64 w, .int .i64 h, .int .i64 mx, .slice a n c]] W (CopyPost w h mx zs W) := by
  obtain ⟨B, hB⟩ : ∃ B, W.heap.size = B := ⟨_, rfl⟩
  obtain ⟨b, o, rfl⟩ := row_at hs.row (by omega)
  have HL := hid hs.len
  have H1 := hid (((St.init hB).alloc #[.int .i64 w, .int .i64 h, .int .i64 mx, .slice (some ⟨b, o, none⟩) n c] 26 hB).alloc #[.int .i64 0, .int .i64 0, .int .i64 0, .slice none 0 0] 26 (alloc_size _ hB))
  have HS1 := hid (H1.out.old hs)
  clear hs
  go_enter Try.func21, Try.ntmps21
  go_wp2_with (first | (at_builtin; refine append_row rfl _ _ rfl B _ [] b o n c zs rfl rfl (Own.nil _ _) HS1.out.row (by simp; omega) H1.out.size ?_; intro v2 w2 ho hg hv; rw [List.nil_append] at ho; have H2 := hid (H1.out.grow (below_of_grown_none hg) (Own.up ho hv)); clear hg hv; obtain ⟨g, c2, rfl⟩ := ho.pos (by have := HL.out; omega); rw [HL.out] at H2 ⊢; clear ho; have r0 := H2.out.cell 2 rfl 0 rfl; have r1 := H2.out.cell 2 rfl 1 rfl; have r2 := H2.out.cell 2 rfl 2 rfl; have r3 := H2.out.cell 2 rfl 3 rfl; have y0 := H2.out.cell 1 rfl 0 rfl; have y1 := H2.out.cell 1 rfl 1 rfl; have y2 := H2.out.cell 1 rfl 2 rfl; have y3 := H2.out.cell 1 rfl 3 rfl; have e0 := H2.out.free 1 rfl 0; have e1 := H2.out.free 1 rfl 1; have e2 := H2.out.free 1 rfl 2; have e3 := H2.out.free 1 rfl 3; have f3 := H2.out.free 2 rfl 3))
  have HZ := hid ((H2.out.set 2 rfl 3 (.slice (some ⟨g, 0, none⟩) n c2)).set4 1 rfl (.int .i64 w) (.int .i64 h) (.int .i64 mx) (.slice (some ⟨g, 0, none⟩) n c2))
  have k0 := HZ.out.cell 1 rfl 0 rfl
  have k1 := HZ.out.cell 1 rfl 1 rfl
  have k2 := HZ.out.cell 1 rfl 2 rfl
  have k3 := HZ.out.cell 1 rfl 3 rfl
  refine bodyPost_ret (v := .agg #[.int .i64 w, .int .i64 h, .int .i64 mx, .slice (some ⟨g, 0, none⟩) n c2]) ?_ rfl ⟨_, rfl, by rw [hB]; exact HZ.out.own 0 rfl, HZ.out.below⟩
  unfold set4 at k0 k1 k2 k3
  simp [results, Try.results21, go_sem, k0, k1, k2, k3]
end Go.Proofs.Ytoojiabdgaflgaa
