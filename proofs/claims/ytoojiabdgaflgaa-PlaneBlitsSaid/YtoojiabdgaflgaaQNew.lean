/-
  Contract: new planes, in the reference.
-/
import Derived.Test.YtoojiabdgaflgaaTk2
import Derived.Test.YtoojiabdgaflgaaPlane1
namespace Go.Proofs.Ytoojiabdgaflgaa
open Go.RowKit
set_option linter.unusedVariables false
set_option linter.unusedSimpArgs false

def nIf (w h mx x : Int) : Int := if pOk w h mx = true then x else 0
def nList (w h mx : Int) : List Int := if pOk w h mx = true then List.replicate (w * h).toNat 0 else []
def NewPost (w h mx : Int) (W : World) (e : Ending) (w' : World) : Prop :=
  ∃ v, e = .returned (.tuple #[.agg #[.int .i64 (nIf w h mx w), .int .i64 (nIf w h mx h), .int .i64 (nIf w h mx mx), v], .bool (pOk w h mx)]) ∧ Own W.heap.size w' v (nList w h mx) ∧ Below W.heap.size W w'

set_option maxRecDepth 100000 in
set_option maxHeartbeats 1600000 in
theorem qnew_any (w h mx : Int) (W : World) : Calls Try.prog 56 #[.int .i64 w, .int .i64 h, .int .i64 mx] W (NewPost w h mx W) := by
  obtain ⟨B, hB⟩ : ∃ B, W.heap.size = B := ⟨_, rfl⟩
  have H0 := hid ((St.init hB).alloc #[.int .i64 0, .int .i64 0, .int .i64 0, .slice none 0 0] 26 hB)
  go_enter Try.func56, Try.ntmps56
  go_wp2_with fail
  refine (qsize_any _ _ _ _).mono ?_
  rintro e w1 ⟨rfl, rfl⟩
  cases hp : pOk w h mx with
  | false =>
    have HI := hid (show ∀ x, nIf w h mx x = 0 from fun x => by unfold nIf; rw [if_neg (by rw [hp]; simp)])
    have HL := hid (show nList w h mx = [] by unfold nList; rw [if_neg (by rw [hp]; simp)])
    have HP := hid hp
    clear hp
    go_wp2_with fail
    refine bodyPost_ret (v := .tuple #[.agg #[.int .i64 0, .int .i64 0, .int .i64 0, .slice none 0 0], .bool false]) ?_ rfl ⟨_, by rw [HI.out, HI.out, HI.out, HP.out], by rw [HL.out]; exact Own.nil _ _, by first | exact H0.out.below | exact H0.out.below'⟩
    simp [results, Try.results56, go_sem, hB]
  | true =>
    have HI := hid (show ∀ x, nIf w h mx x = x from fun x => by unfold nIf; rw [if_pos hp])
    obtain ⟨p1, p2, p3, p4, p5, p6, p7⟩ := pOk_iff.1 hp
    have p0 := Int.mul_nonneg (a := w) (b := h) (by omega) (by omega)
    obtain ⟨N, hN⟩ : ∃ N : Nat, w * h = N := ⟨(w * h).toNat, by omega⟩
    have HL := hid (show nList w h mx = List.replicate N 0 by unfold nList; rw [if_pos hp, hN]; rfl)
    have HP := hid hp
    have N1 : N ≤ 4096 := by omega
    have q1 : IntKind.i64.wrap (N : Int) = N := IntWalk.i64_in _ (by omega)
    clear hp p0
    go_wp2_with (first | (at_make; refine make_int rfl _ _ rfl (B + 1) _ _ N rfl rfl (by first | rfl | exact hN) (by first | rfl | exact hN) (by omega) (by rw [alloc_size _ hB]; omega) ?_; intro w5 ho hb; rw [alloc_size _ hB] at ho ⊢; have H1 := hid (H0.out.made (alloc_size _ hB) ho (by rw [alloc_size _ hB]; rw [alloc_size _ hB] at hb; exact hb)); clear ho hb; have y0 := H1.out.cell 1 rfl 0 rfl; have y1 := H1.out.cell 1 rfl 1 rfl; have y2 := H1.out.cell 1 rfl 2 rfl; have y3 := H1.out.cell 1 rfl 3 rfl; have e0 := H1.out.free 1 rfl 0; have e1 := H1.out.free 1 rfl 1; have e2 := H1.out.free 1 rfl 2; have e3 := H1.out.free 1 rfl 3))
    have HZ := hid (H1.out.set4 1 rfl (.int .i64 w) (.int .i64 h) (.int .i64 mx) (.slice (some ⟨B + 1, 0, none⟩) N N))
    have k0 := HZ.out.cell 1 rfl 0 rfl
    have k1 := HZ.out.cell 1 rfl 1 rfl
    have k2 := HZ.out.cell 1 rfl 2 rfl
    have k3 := HZ.out.cell 1 rfl 3 rfl
    refine bodyPost_ret (v := .tuple #[.agg #[.int .i64 w, .int .i64 h, .int .i64 mx, .slice (some ⟨B + 1, 0, none⟩) N N], .bool true]) ?_ rfl ⟨_, by rw [HI.out, HI.out, HI.out, HP.out], by rw [HL.out, hB]; exact HZ.out.own 0 rfl, by first | exact HZ.out.below | exact HZ.out.below'⟩
    unfold set4 at k0 k1 k2 k3
    simp [results, Try.results56, go_sem, k0, k1, k2, k3]
end Go.Proofs.Ytoojiabdgaflgaa
