/-
  The frame of a law's proof: how a slice of slices that came in is opened.
-/
import Derived.Test.YtoojiabdgaflgaaFrame
import Derived.Test.YtoojiabdgaflgaaMat
import Derived.Deep.Matrix
namespace Go.Proofs.Ytoojiabdgaflgaa
open Go.ChangeShapes Go.WideShapes Go.ChangeAt Go.RowKit Go.Joins Go.Deep Go.WideElems Go.Maps

theorem addr_plain {w : World} {a : Addr} {v : Value} (h : w.cell? (a.add 0) = some v) : ∃ b o, a = ⟨b, o, none⟩ := by
  obtain ⟨b, off, spot⟩ := a
  have hspot : spot = none := by simpa [Addr.add] using World.cell?_spot h
  subst hspot
  exact ⟨b, off, rfl⟩
theorem open_mat {H : Type} {enc : TypeId × Value → H} {P : Program} {W : World} {r : Reach} {b0 : Nat} {t e q : TypeId} {v : Value} {d : DataW H} {ps : List MemPlace} (ht : P.underlying t = some (.slice e)) (he : P.underlying e = some (.slice q)) (hq : P.underlying q = some (.int .i64))
    (ce : P.cellsOf e = 1) (cq : P.cellsOf q = 1) (hval : Value.okWide P W r b0 t v) (h : DataW.Trod enc P W 0 (fun _ => true) true t v d ps) :
    ∃ a n c L, v = .slice a n c ∧ Mat W a n c L := by
  obtain ⟨a, n, c, rfl⟩ := okWide_slice ht hval
  obtain ⟨fuel, hf⟩ := h
  rcases open_int_rows ht he hq ce cq hf with ⟨hcs, _⟩ | ⟨x, len, cap, A, L, C, Z, hcs, _, hl, hm, _, hrow⟩
  · simp [Value.cells] at hcs
    obtain ⟨rfl, rfl, rfl⟩ := hcs
    exact ⟨_, _, _, [], rfl, ⟨rfl, Nat.le_refl _, by omega, .inl rfl⟩⟩
  · simp [Value.cells] at hcs
    obtain ⟨rfl, rfl, rfl⟩ := hcs
    unfold maxLen at hm
    refine ⟨_, _, _, (List.range n).map (fun i => (Z i).take (L i)), rfl, ⟨by simp, hl, by omega, ?_⟩⟩
    rcases Nat.eq_zero_or_pos n with h0 | h0
    · exact .inl h0
    · obtain ⟨b, o, rfl⟩ := addr_plain (hrow 0 (by omega)).1
      refine .inr ⟨b, o, rfl, fun i hi => ?_⟩
      obtain ⟨h1, h2, h3, h4, _, h6, h7⟩ := hrow i (by omega)
      unfold maxLen at h3
      refine ⟨A i, L i, C i, by rw [← Go.WideShapes.add_plain]; exact h1, ⟨⟨?_, ?_⟩, h2, by omega⟩⟩
      · simp [hi]; omega
      · rcases Nat.eq_zero_or_pos (L i) with hz | hz
        · exact .inl hz
        · cases hA : A i with
          | none => have := h6 hA; omega
          | some y =>
            obtain ⟨_, hc⟩ := h7 y hA
            obtain ⟨yb, yo, rfl⟩ := addr_plain (hc 0 (by omega))
            refine .inr ⟨yb, yo, rfl, fun j hj => ?_⟩
            rw [← Go.WideShapes.add_plain, hc j (by omega)]
            congr 2
            simp [List.getD_eq_getElem?_getD, hi, List.getElem?_take_of_lt hj]
end Go.Proofs.Ytoojiabdgaflgaa
