/-
  Contracts of the tape of choices: whatever numbers it is made of, Next answers a number in range, Pick one of the numbers given; both change the tape alone.
-/
import Derived.Test.YtoojiabdgaflgaaBorder
import Derived.Test.YtoojiabdgaflgaaHeap
import Derived.Deep.QuietTactic
import Derived.BigQuiet
import Derived.Deep.DeepCutAuto
namespace Go.Proofs.Ytoojiabdgaflgaa
open Go.RowKit

/-- The row's block lies below block g. -/
def Near (a : Option Addr) (n : Nat) (g : Nat) : Prop := n = 0 ∨ ∃ x, a = some x ∧ x.block < g
theorem Near.far {a : Option Addr} {n g g' : Nat} (h : Near a n g) (hg : g ≤ g') : Far a n g' := by
  rcases h with h | ⟨x, e, h⟩
  · exact .inl h
  · exact .inr ⟨x, e, by omega⟩

/-- Block k is a tape: a slice of integers that lies below B, and a place in it. -/
def TapeB (B : Nat) (w : World) (k : Nat) : Prop :=
  B ≤ k ∧ ∃ (a : Option Addr) (n c : Nat) (zs : List Int) (t : Nat), w.heap[k]? = some (.cells #[.slice a n c, .int .i64 t] 81 (0, 0)) ∧ t ≤ n ∧ n ≤ 9223372036854775807 ∧ Row w .i64 a n zs ∧ Near a n B
/-- The same, the row somewhere below the tape. -/
def TapeAt (w : World) (k : Nat) : Prop := TapeB k w k
theorem Near.up {a : Option Addr} {n B k : Nat} (h : Near a n B) (hk : B ≤ k) : Near a n k := by
  rcases h with h | ⟨x, e, h⟩
  · exact .inl h
  · exact .inr ⟨x, e, by omega⟩
theorem TapeB.at {B k : Nat} {w : World} (h : TapeB B w k) : TapeAt w k := by
  obtain ⟨h0, a, n, c, zs, t, h1, h2, h3, h4, h5⟩ := h
  exact ⟨Nat.le_refl _, a, n, c, zs, t, h1, h2, h3, h4, h5.up h0⟩
theorem TapeB.lt {B k : Nat} {w : World} (h : TapeB B w k) : k < w.heap.size := by obtain ⟨_, a, n, c, zs, t, h, _⟩ := h; exact lt_of_block h
theorem TapeAt.lt {w : World} {k : Nat} (h : TapeAt w k) : k < w.heap.size := TapeB.lt h

theorem TapeAt.below {w w' : World} {k : Nat} (h : TapeAt w k) (hb : Below w.heap.size w w') : TapeAt w' k := by
  have hl := h.lt
  obtain ⟨h0, a, n, c, zs, t, h1, h2, h3, h4, h5⟩ := h
  exact ⟨h0, a, n, c, zs, t, by rw [hb.block k hl]; exact h1, h2, h3, h4.below hb, h5⟩

/-- A row of integers that has just been laid out of a literal. -/
theorem row_lit {w : World} {b : Nat} {t : TypeId} (zs : List Int) (h : w.heap[b]? = some (.cells (zs.map (Value.int .i64)).toArray t (0, 0))) : Row w .i64 (some ⟨b, 0, none⟩) zs.length zs := by
  refine ⟨rfl, .inr ⟨b, 0, rfl, fun i hi => ?_⟩⟩
  rw [Nat.zero_add]
  refine cell_of h ?_
  simp [hi]

theorem TapeAt.grown {w w' : World} {k g : Nat} (h : TapeAt w k) (hb : w.grownBy w' (some g)) (hk : k < g) : TapeAt w' k := by
  have hl := h.lt
  obtain ⟨h0, a, n, c, zs, t, h1, h2, h3, h4, h5⟩ := h
  exact ⟨h0, a, n, c, zs, t, by rw [hb.block k hl (by simp; omega)]; exact h1, h2, h3, h4.grown hb (h5.far (by omega)), h5⟩

theorem TapeB.below {B : Nat} {w w' : World} {k : Nat} (h : TapeB B w k) (hb : Below w.heap.size w w') : TapeB B w' k := by
  have hl := h.lt
  obtain ⟨h0, a, n, c, zs, t, h1, h2, h3, h4, h5⟩ := h
  exact ⟨h0, a, n, c, zs, t, by rw [hb.block k hl]; exact h1, h2, h3, h4.below hb, h5⟩

def NextPostB (B k : Nat) (n : Int) (w : World) (e : Ending) (w' : World) : Prop :=
  ∃ r : Int, e = .returned (.int .i64 r) ∧ 0 ≤ r ∧ r < max n 1 ∧ TapeB B w' k ∧ w.grownBy w' (some k) ∧ w'.heap.size = w.heap.size

set_option maxHeartbeats 400000 in
theorem nextB_any (B k : Nat) (n : Int) (w : World) (hn : n ≤ 9223372036854775807) (ht : TapeB B w k) :
    Calls Try.prog 20 #[.pointer (some ⟨k, 0, none⟩), .int .i64 n] w (NextPostB B k n w) := by
  have HT : Hid (TapeB B w k) := ht
  obtain ⟨hBk, a, m, c, zs, t, hblk, htm, hm, hrow, hfar⟩ := ht
  have c0 : w.cell? ⟨k, 0, none⟩ = some (.slice a m c) := cell_of hblk rfl
  have c1 : w.cell? ⟨k, 1, none⟩ = some (.int .i64 t) := cell_of hblk rfl
  have cf : w.frozen? ⟨k, 1, none⟩ = false := free_of hblk
  have HB : Hid (w.heap[k]? = some (.cells #[.slice a m c, .int .i64 t] 81 (0, 0))) := hblk
  have HR : Hid (Row w .i64 a m zs) := hrow
  have HF : Hid (Near a m B) := hfar
  clear hblk hrow hfar
  by_cases h1 : n < 1
  · go_enter Try.func20, Try.ntmps20
    go_wp2
    go_quiet (fail)
    go_wp2
    go_ret
    exact ⟨0, rfl, by omega, by omega, HT.out.below (below_drewN (Below.refl _ _) _), grown_drewN _ _ _, rfl⟩
  by_cases h2 : m ≤ t
  · have h2' : (m : Int) ≤ (t : Int) := by omega
    go_enter Try.func20, Try.ntmps20
    go_wp2
    go_quiet (fail)
    go_wp2
    go_ret
    exact ⟨0, rfl, by omega, by omega, HT.out.below (below_drewN (Below.refl _ _) _), grown_drewN _ _ _, rfl⟩
  · rcases HF.out with hz | ⟨x, hx, hxb⟩
    · omega
    rcases HR.out.2 with hz | ⟨b, o, hbo, hc⟩
    · omega
    rw [hx] at hbo
    cases hbo
    subst hx
    have hxk' : b < B := hxb
    have hxk : b ≠ k := by omega
    have h2' : (t : Int) < (m : Int) := by omega
    have ct : w.cell? ⟨b, o + t, none⟩ = some (.int .i64 (zs.getD t 0)) := hc t (by omega)
    obtain ⟨z, hz⟩ : ∃ z, z = zs.getD t 0 := ⟨_, rfl⟩
    rw [← hz] at ct
    clear hz hc hxb
    have wr : IntKind.i64.wrap ((t : Int) + 1) = (t : Int) + 1 := IntWalk.i64_in _ (by omega)
    have d0 : (w.setCell ⟨k, 1, none⟩ (.int .i64 ((t : Int) + 1))).cell? ⟨k, 0, none⟩ = some (.slice (some ⟨b, o, none⟩) m c) := cell_of (block_setCell _ HB.out) rfl
    have d1 : (w.setCell ⟨k, 1, none⟩ (.int .i64 ((t : Int) + 1))).cell? ⟨k, 1, none⟩ = some (.int .i64 ((t : Int) + 1)) := cell_of (block_setCell _ HB.out) rfl
    have dt : (w.setCell ⟨k, 1, none⟩ (.int .i64 ((t : Int) + 1))).cell? ⟨b, o + t, none⟩ = some (.int .i64 z) := by rw [← ct]; exact World.cell?_of_block (Below.heap_setCell _ _ _ _ (by simpa using hxk))
    clear wr
    go_enter Try.func20, Try.ntmps20
    go_wp2
    go_quiet (fail)
    go_wp2
    go_quiet ((go_at_call 23; exact Calls.quiet_of_same ((mod_any _ _ _ (by omega) (by omega)).mono fun _ _ h => ⟨h.1, h.2.symm⟩)))
    go_wp2
    go_ret
    have q1 := Int.emod_nonneg z (b := n) (by omega)
    have q2 := Int.emod_lt_of_pos z (b := n) (by omega)
    refine ⟨z % n, rfl, q1, by omega, ⟨hBk, some ⟨b, o, none⟩, m, c, zs, t + 1, ?_, by omega, hm, HR.out.keep ?_, HF.out⟩, ⟨rfl, rfl, rfl, ?_, ?_⟩, ?_⟩
    · exact (block_setCell (i := 1) (.int .i64 ((t : Int) + 1)) HB.out)
    · intro b' _ ⟨x, hx, hxb⟩ _
      cases hx; subst hxb
      exact Below.heap_setCell _ _ _ _ (by simpa using hxk)
    · simp [World.setCell]
    · intro j _ hj; exact Below.heap_setCell _ _ _ _ (by intro e; apply hj; rw [e])
    · simp [World.setCell]

def NextPost (k : Nat) (n : Int) (w : World) (e : Ending) (w' : World) : Prop := NextPostB k k n w e w'
theorem next_any (k : Nat) (n : Int) (w : World) (hn : n ≤ 9223372036854775807) (ht : TapeAt w k) :
    Calls Try.prog 20 #[.pointer (some ⟨k, 0, none⟩), .int .i64 n] w (NextPost k n w) := nextB_any k k n w hn ht

def PickPostB (B k : Nat) (zs : List Int) (w : World) (e : Ending) (w' : World) : Prop :=
  ∃ r : Int, e = .returned (.int .i64 r) ∧ r ∈ zs ∧ TapeB B w' k ∧ w.grownBy w' (some k) ∧ w'.heap.size = w.heap.size

set_option maxHeartbeats 400000 in
theorem pickB_any (B k : Nat) (a : Option Addr) (n c : Nat) (zs : List Int) (w : World) (hn : 0 < n) (hn' : n ≤ 1000000) (ht : TapeB B w k) (hr : Row w .i64 a n zs) (hf : Far a n k) :
    Calls Try.prog 28 #[.pointer (some ⟨k, 0, none⟩), .slice a n c] w (PickPostB B k zs w) := by
  have HT : Hid (TapeB B w k) := ht
  have HR : Hid (Row w .i64 a n zs) := hr
  have HF : Hid (Far a n k) := hf
  clear ht hr hf
  obtain ⟨b, o, rfl⟩ : ∃ b o, a = some ⟨b, o, none⟩ := by
    rcases HR.out.2 with hz | ⟨b, o, e, _⟩
    · omega
    · exact ⟨b, o, e⟩
  go_enter Try.func28, Try.ntmps28
  go_wp2_with fail
  refine (nextB_any B k _ _ (by omega) HT.out).mono ?_
  rintro e w' ⟨r, rfl, r0, r1, ht', hg, hs⟩
  have HG : Hid (w.grownBy w' (some k)) := hg
  have HT' : Hid (TapeB B w' k) := ht'
  have HS : Hid (w'.heap.size = w.heap.size) := hs
  clear hg ht' hs
  have r2 : r < (n : Int) := by omega
  have hc : w'.cell? ⟨b, o + r.toNat, none⟩ = some (.int .i64 (zs.getD r.toNat 0)) := by
    rcases (HR.out.grown HG.out HF.out).2 with hz | ⟨b', o', e, h⟩
    · omega
    · cases e; exact h _ (by omega)
  obtain ⟨z, hz⟩ : ∃ z, z = zs.getD r.toNat 0 := ⟨_, rfl⟩
  have HZ : Hid (z ∈ zs) := by
    have hlt : r.toNat < zs.length := by have := HR.out.1; omega
    have e : zs.getD r.toNat 0 = zs[r.toNat] := by rw [List.getD_eq_getElem?_getD, List.getElem?_eq_getElem hlt]; rfl
    rw [hz, e]; exact List.getElem_mem hlt
  rw [← hz] at hc
  clear hz r1
  go_wp2
  go_ret
  exact ⟨z, rfl, HZ.out, HT'.out, HG.out, HS.out⟩

def PickPost (k : Nat) (zs : List Int) (w : World) (e : Ending) (w' : World) : Prop := PickPostB k k zs w e w'
theorem pick_any (k : Nat) (a : Option Addr) (n c : Nat) (zs : List Int) (w : World) (hn : 0 < n) (hn' : n ≤ 1000000) (ht : TapeAt w k) (hr : Row w .i64 a n zs) (hf : Far a n k) :
    Calls Try.prog 28 #[.pointer (some ⟨k, 0, none⟩), .slice a n c] w (PickPost k zs w) := pickB_any k k a n c zs w hn hn' ht hr hf

theorem new_any (a : Option Addr) (n c : Nat) (zs : List Int) (w : World) (hn' : n ≤ 9223372036854775807) (hr : Row w .i64 a n zs) :
    Calls Try.prog 18 #[.slice a n c] w fun e w' => e = .returned (.pointer (some ⟨w.heap.size, 0, none⟩)) ∧ TapeB w.heap.size w' w.heap.size ∧ Below w.heap.size w w' ∧ w'.heap.size = w.heap.size + 1 := by
  have HR : Hid (Row w .i64 a n zs) := hr
  clear hr
  go_enter Try.func18, Try.ntmps18
  go_wp2
  go_ret
  refine ⟨rfl, ⟨Nat.le_refl _, a, n, c, zs, 0, heap_alloc_new w _, by omega, hn', HR.out.below ((Below.refl _ _).alloc (Nat.le_refl _) _), ?_⟩, (Below.refl _ _).alloc (Nat.le_refl _) _, by simp⟩
  rcases HR.out.2 with hz | ⟨b, o, rfl, h⟩
  · exact .inl hz
  · by_cases h0 : n = 0
    · exact .inl h0
    · exact .inr ⟨_, rfl, lt_of_cell (h 0 (by omega))⟩
/-- A tape over a row that lies below B. -/
theorem newB_any (B : Nat) (a : Option Addr) (n c : Nat) (zs : List Int) (w : World) (hn' : n ≤ 9223372036854775807) (hr : Row w .i64 a n zs) (hnr : Near a n B) (hB : B ≤ w.heap.size) :
    Calls Try.prog 18 #[.slice a n c] w fun e w' => e = .returned (.pointer (some ⟨w.heap.size, 0, none⟩)) ∧ TapeB B w' w.heap.size ∧ Below w.heap.size w w' ∧ w'.heap.size = w.heap.size + 1 := by
  have HR : Hid (Row w .i64 a n zs) := hr
  have HN : Hid (Near a n B) := hnr
  clear hr hnr
  go_enter Try.func18, Try.ntmps18
  go_wp2
  go_ret
  exact ⟨rfl, ⟨hB, a, n, c, zs, 0, heap_alloc_new w _, by omega, hn', HR.out.below ((Below.refl _ _).alloc (Nat.le_refl _) _), HN.out⟩, (Below.refl _ _).alloc (Nat.le_refl _) _, by simp⟩
end Go.Proofs.Ytoojiabdgaflgaa
