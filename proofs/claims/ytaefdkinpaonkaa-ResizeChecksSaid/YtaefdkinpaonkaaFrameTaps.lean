/-
  The frame of a law's proof: how tables of taps that came in are opened.
-/
import Derived.Test.YtaefdkinpaonkaaKX
import Derived.Test.YtaefdkinpaonkaaTaps
import Derived.Deep.SlicePairs
import Derived.Deep.Matrix
namespace Go.Proofs.Ytaefdkinpaonkaa
open Go.ChangeShapes Go.WideShapes Go.ChangeAt Go.RowKit Go.Joins Go.Deep Go.WideElems Go.Maps

theorem addr_plain3 {w : World} {a : Addr} {v : Value} (h : w.cell? (a.add 0) = some v) : ∃ b o, a = ⟨b, o, none⟩ := by
  obtain ⟨b, off, spot⟩ := a
  have hspot : spot = none := by simpa [Addr.add] using World.cell?_spot h
  subst hspot
  exact ⟨b, off, rfl⟩
def intOf3 : Value → Int
  | .int _ n => n
  | _ => 0
theorem open_taps {H : Type} {enc : TypeId × Value → H} {P : Program} {W : World} {r : Reach} {b0 : Nat} {t e q : TypeId} {f0 f1 : Field} {v : Value} {d : DataW H} {ps : List MemPlace} (ht : P.underlying t = some (.slice e)) (he : P.underlying e = some (.struct #[f0, f1]))
    (h0 : P.underlying f0.type = some (.int .i64)) (h1 : P.underlying f1.type = some (.slice q)) (hq : P.underlying q = some (.int .i64)) (ce : P.cellsOf e = 2) (o0 : f0.offset = 0) (o1 : f1.offset = 1) (c0 : P.cellsOf f0.type = 1) (c1 : P.cellsOf f1.type = 1) (cq : P.cellsOf q = 1)
    (hval : Value.okWide P W r b0 t v) (h : DataW.Trod enc P W 0 (fun _ => true) true t v d ps) :
    ∃ a n c ts, v = .slice a n c ∧ Tps W a n c ts := by
  obtain ⟨a, n, c, rfl⟩ := okWide_slice ht hval
  obtain ⟨fuel, hf⟩ := h
  rcases open_slice_pairs ht he ce o0 o1 c0 c1 hf with ⟨hcs, _⟩ | ⟨x, len, cap, m, _, V0, V1, D0, D1, P0, P1, hcs, _, hl, hm, hmm, _, hrow⟩
  · simp [Value.cells] at hcs
    obtain ⟨rfl, rfl, rfl⟩ := hcs
    exact ⟨_, _, _, [], rfl, Tps.nil _⟩
  · simp [Value.cells] at hcs
    obtain ⟨rfl, rfl, rfl⟩ := hcs
    unfold maxLen at hm
    have hlm : n ≤ m := by rw [hmm]; split <;> omega
    have each : ∀ i, i < n → ∃ z : List Int, ∃ a' n' c', V1 i = .slice a' n' c' ∧ Slc W a' n' c' z := by
      intro i hi
      obtain ⟨_, _, _, t1⟩ := hrow i (by omega)
      obtain ⟨a', n', c', zs, e', hr⟩ := open_row_cells h1 hq cq t1
      exact ⟨zs, a', n', c', e', ⟨hr.row, hr.nc, hr.cap⟩⟩
    obtain ⟨Z, hZ⟩ := choose_lt each
    refine ⟨_, _, _, (List.range n).map (fun i => (intOf3 (V0 i), Z i)), rfl, ⟨by simp, hl, by omega, ?_⟩⟩
    rcases Nat.eq_zero_or_pos n with hz | hz
    · exact .inl hz
    · obtain ⟨b, o, rfl⟩ := addr_plain3 (by have := (hrow 0 (by omega)).1; rwa [Nat.zero_mul] at this)
      refine .inr ⟨b, o, rfl, fun i hi => ?_⟩
      obtain ⟨g0, g1, t0, _⟩ := hrow i (by omega)
      obtain ⟨z0, e0, _⟩ := DataW.trod_int h0 t0
      obtain ⟨a', n', c', e1, hs⟩ := hZ i hi
      simp only [List.cons.injEq, and_true] at e0
      rw [Go.WideShapes.add_plain] at g0 g1
      rw [e0] at g0
      rw [e1] at g1
      have hg : ((List.range n).map (fun i => (intOf3 (V0 i), Z i))).getD i (0, []) = (z0, Z i) := by
        rw [List.getD_eq_getElem?_getD, List.getElem?_map, List.getElem?_range hi]
        simp [e0, intOf3]
      rw [hg]
      exact ⟨a', n', c', g0, by rw [Nat.add_assoc]; exact g1, hs⟩
end Go.Proofs.Ytaefdkinpaonkaa
