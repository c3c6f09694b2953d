/-
  Plain law: what the least and the greatest mapped coordinate of a range are, and that they are unique.
-/
import Derived.Test.YtlidacfokgdlgaaKA
namespace Go.Proofs.Ytlidacfokgdlgaa
/-- lo and hi are the least and the greatest coordinates to which one from a to b - 1 is mapped; without one, all is zero. -/
structure IsRange (a b n p lo hi : Int) (ok : Bool) : Prop where
  yes : ok = true → (∃ i, a ≤ i ∧ i < b ∧ bOk i n p = true ∧ bIdx i n p = lo) ∧ (∃ i, a ≤ i ∧ i < b ∧ bOk i n p = true ∧ bIdx i n p = hi)
  all : ∀ i, a ≤ i → i < b → bOk i n p = true → ok = true ∧ lo ≤ bIdx i n p ∧ bIdx i n p ≤ hi
  no : ok = false → lo = 0 ∧ hi = 0

theorem IsRange.unique {a b n p lo hi lo' hi' : Int} {ok ok' : Bool} (h : IsRange a b n p lo hi ok) (h' : IsRange a b n p lo' hi' ok') : lo = lo' ∧ hi = hi' ∧ ok = ok' := by
  cases ok with
  | true =>
    obtain ⟨⟨i, i1, i2, i3, i4⟩, ⟨j, j1, j2, j3, j4⟩⟩ := h.yes rfl
    have a1 := h'.all i i1 i2 i3
    have a2 := h'.all j j1 j2 j3
    obtain ⟨⟨k, k1, k2, k3, k4⟩, ⟨l, l1, l2, l3, l4⟩⟩ := h'.yes a1.1
    have a3 := h.all k k1 k2 k3
    have a4 := h.all l l1 l2 l3
    exact ⟨by omega, by omega, a1.1.symm⟩
  | false =>
    cases ok' with
    | true =>
      obtain ⟨⟨i, i1, i2, i3, i4⟩, _⟩ := h'.yes rfl
      exact absurd (h.all i i1 i2 i3).1 (by simp)
    | false =>
      obtain ⟨h1, h2⟩ := h.no rfl
      obtain ⟨h3, h4⟩ := h'.no rfl
      exact ⟨by omega, by omega, rfl⟩

theorem IsRange.widen {a b a' b' n p lo hi : Int} {ok : Bool} (h : IsRange a' b' n p lo hi ok) (sub : ∀ i, a' ≤ i → i < b' → bOk i n p = true → a ≤ i ∧ i < b)
    (cov : ∀ i, a ≤ i → i < b → bOk i n p = true → ∃ i', a' ≤ i' ∧ i' < b' ∧ bOk i' n p = true ∧ bIdx i' n p = bIdx i n p) : IsRange a b n p lo hi ok := by
  refine ⟨fun hk => ?_, fun i i1 i2 i3 => ?_, h.no⟩
  · obtain ⟨⟨i, i1, i2, i3, i4⟩, ⟨j, j1, j2, j3, j4⟩⟩ := h.yes hk
    exact ⟨⟨i, (sub i i1 i2 i3).1, (sub i i1 i2 i3).2, i3, i4⟩, ⟨j, (sub j j1 j2 j3).1, (sub j j1 j2 j3).2, j3, j4⟩⟩
  · obtain ⟨i', j1, j2, j3, j4⟩ := cov i i1 i2 i3
    rw [← j4]
    exact h.all i' j1 j2 j3

theorem IsRange.none {a b n p : Int} (h : ∀ i, a ≤ i → i < b → bOk i n p = false) : IsRange a b n p 0 0 false :=
  ⟨fun h => by simp at h, fun i i1 i2 i3 => by rw [h i i1 i2] at i3; simp at i3, fun _ => ⟨rfl, rfl⟩⟩

def inC (a b : Int) : Prop := -1048576 ≤ a ∧ a ≤ 1048576 ∧ -1048576 ≤ b ∧ b ≤ 1048576

/-- What border.Range answers: nothing outside of the permitted coordinates. -/
structure RangeSpec (a b n p lo hi : Int) (ok : Bool) : Prop where
  out : ¬ inC a b → lo = 0 ∧ hi = 0 ∧ ok = false
  ins : inC a b → IsRange a b n p lo hi ok

theorem RangeSpec.unique {a b n p lo hi lo' hi' : Int} {ok ok' : Bool} (h : RangeSpec a b n p lo hi ok) (h' : RangeSpec a b n p lo' hi' ok') : lo = lo' ∧ hi = hi' ∧ ok = ok' := by
  by_cases c : inC a b
  · exact (h.ins c).unique (h'.ins c)
  · obtain ⟨h1, h2, h3⟩ := h.out c
    obtain ⟨h4, h5, h6⟩ := h'.out c
    exact ⟨by omega, by omega, by rw [h3, h6]⟩

theorem spec_out {a b n p : Int} (h : ¬ inC a b) : RangeSpec a b n p 0 0 false := ⟨fun _ => ⟨rfl, rfl, rfl⟩, fun c => absurd c h⟩
theorem spec_none {a b n p : Int} (h : ∀ i, a ≤ i → i < b → bOk i n p = false) : RangeSpec a b n p 0 0 false := ⟨fun _ => ⟨rfl, rfl, rfl⟩, fun _ => .none h⟩
theorem spec_in {a b n p lo hi : Int} {ok : Bool} (c : inC a b) (h : IsRange a b n p lo hi ok) : RangeSpec a b n p lo hi ok := ⟨fun h' => absurd c h', fun _ => h⟩

theorem bOk_bad {i n p : Int} (h : n < 1 ∨ 128 < n) : bOk i n p = false := by
  unfold bOk; (repeat' split) <;> first | rfl | omega
theorem bOk_pol {i n p : Int} (h0 : p ≠ 0) (h1 : p ≠ 1) (h2 : p ≠ 2) (h3 : p ≠ 3) : bOk i n p = false := by
  unfold bOk; (repeat' split) <;> first | rfl | omega
theorem bOk_yes {i n p : Int} (h : 1 ≤ n) (h' : n ≤ 128) (hp : 0 ≤ p ∧ p ≤ 2) : bOk i n p = true := by
  unfold bOk; (repeat' split) <;> first | rfl | omega
theorem bOk_const {i n : Int} (h : 1 ≤ n) (h' : n ≤ 128) : bOk i n 3 = decide (0 ≤ i ∧ i < n) := by
  unfold bOk; (repeat' split) <;> first | (simp; done) | (simp; omega) | omega
theorem bIdx_clamp {i n : Int} (h : 1 ≤ n) (h' : n ≤ 128) : bIdx i n 0 = min (max i 0) (n - 1) := by
  unfold bIdx; (repeat' split) <;> first | rfl | omega
theorem bIdx_mirror {i n : Int} (h : 1 ≤ n) (h' : n ≤ 128) : bIdx i n 1 = if n ≤ i % (2 * n) then 2 * n - 1 - i % (2 * n) else i % (2 * n) := by
  unfold bIdx; (repeat' split) <;> first | rfl | omega
theorem bIdx_wrap {i n : Int} (h : 1 ≤ n) (h' : n ≤ 128) : bIdx i n 2 = i % n := by
  unfold bIdx; (repeat' split) <;> first | rfl | omega
theorem bIdx_const {i n : Int} (h : 1 ≤ n) (h' : n ≤ 128) (h0 : 0 ≤ i) (h1 : i < n) : bIdx i n 3 = i := by
  unfold bIdx; (repeat' split) <;> first | rfl | omega

/-- A mapped coordinate is within the plane. -/
theorem bIdx_bdR (i n p : Int) (h : bOk i n p = true) : 0 ≤ bIdx i n p ∧ bIdx i n p < n := by
  by_cases hn : n < 1 ∨ 128 < n
  · rw [bOk_bad hn] at h; simp at h
  have m1 := Int.emod_nonneg i (b := 2 * n) (by omega)
  have m2 := Int.emod_lt_of_pos i (b := 2 * n) (by omega)
  have m3 := Int.emod_nonneg i (b := n) (by omega)
  have m4 := Int.emod_lt_of_pos i (b := n) (by omega)
  unfold bOk at h; unfold bIdx
  (repeat' split) <;> first | omega | (simp_all; done) | (simp_all; omega)

theorem emod_two (i n : Int) : i % (2 * n) % n = i % n := Int.emod_emod_of_dvd i ⟨2, by rw [Int.mul_comm]⟩

/-- What is mapped hangs on the remainder by two lengths alone, for mirror and wrap. -/
theorem bIdx_per {i j n p : Int} (hn : 1 ≤ n) (hn' : n ≤ 128) (hp : p = 1 ∨ p = 2) (h : i % (2 * n) = j % (2 * n)) : bIdx i n p = bIdx j n p := by
  rcases hp with rfl | rfl
  · rw [bIdx_mirror hn hn', bIdx_mirror hn hn', h]
  · rw [bIdx_wrap hn hn', bIdx_wrap hn hn', ← emod_two i n, ← emod_two j n, h]

theorem cover_period {a b n p : Int} (hn : 1 ≤ n) (hn' : n ≤ 128) (hp : p = 1 ∨ p = 2) (i : Int) (h1 : a ≤ i) (h2 : i < b) :
    ∃ i', a ≤ i' ∧ i' < min b (a + 2 * n) ∧ bOk i' n p = true ∧ bIdx i' n p = bIdx i n p := by
  have m1 := Int.emod_nonneg (i - a) (b := 2 * n) (by omega)
  have m2 := Int.emod_lt_of_pos (i - a) (b := 2 * n) (by omega)
  have m3 : (i - a) % (2 * n) ≤ i - a := by
    have e := Int.mul_ediv_add_emod (i - a) (2 * n)
    have q := Int.mul_nonneg (a := 2 * n) (b := (i - a) / (2 * n)) (by omega) (Int.ediv_nonneg (by omega) (by omega))
    omega
  refine ⟨a + (i - a) % (2 * n), by omega, by omega, bOk_yes hn hn' (by omega), bIdx_per hn hn' hp ?_⟩
  rw [Int.add_emod_emod]
  congr 1; omega

theorem range_period {a b n p lo hi : Int} {ok : Bool} (hn : 1 ≤ n) (hn' : n ≤ 128) (hp : p = 1 ∨ p = 2) (h : IsRange a (min b (a + 2 * n)) n p lo hi ok) : IsRange a b n p lo hi ok :=
  h.widen (fun i _ _ _ => by omega) (fun i h1 h2 _ => cover_period hn hn' hp i h1 h2)

theorem range_clamp {a b n : Int} (hn : 1 ≤ n) (hn' : n ≤ 128) (h : a < b) : IsRange a b n 0 (bIdx a n 0) (bIdx (b - 1) n 0) true := by
  refine ⟨fun _ => ⟨⟨a, by omega, by omega, bOk_yes hn hn' (by omega), rfl⟩, ⟨b - 1, by omega, by omega, bOk_yes hn hn' (by omega), rfl⟩⟩, fun i h1 h2 _ => ?_, fun h => by simp at h⟩
  rw [bIdx_clamp hn hn', bIdx_clamp hn hn', bIdx_clamp hn hn']
  exact ⟨rfl, by omega, by omega⟩

theorem range_const {a b n : Int} (hn : 1 ≤ n) (hn' : n ≤ 128) (h : max a 0 ≤ min b n - 1) : IsRange a b n 3 (max a 0) (min b n - 1) true := by
  refine ⟨fun _ => ⟨⟨max a 0, by omega, by omega, ?_, ?_⟩, ⟨min b n - 1, by omega, by omega, ?_, ?_⟩⟩, fun i h1 h2 h3 => ?_, fun h => by simp at h⟩
  · rw [bOk_const hn hn']; simp; omega
  · rw [bIdx_const hn hn'] <;> omega
  · rw [bOk_const hn hn']; simp; omega
  · rw [bIdx_const hn hn'] <;> omega
  · rw [bOk_const hn hn'] at h3; simp at h3
    rw [bIdx_const hn hn' h3.1 h3.2]
    exact ⟨rfl, by omega, by omega⟩

theorem range_const_no {a b n : Int} (hn : 1 ≤ n) (hn' : n ≤ 128) (h : min b n - 1 < max a 0) : IsRange a b n 3 0 0 false :=
  .none fun i h1 h2 => by rw [bOk_const hn hn']; simp; omega

/-- The loop of the program: what has been seen of a .. i - 1. -/
structure Seen (a i n p lo hi : Int) : Prop where
  all : ∀ j, a ≤ j → j < i → lo ≤ bIdx j n p ∧ bIdx j n p ≤ hi
  att : (i = a ∧ lo = n - 1 ∧ hi = 0) ∨ ((∃ j, a ≤ j ∧ j < i ∧ bIdx j n p = lo) ∧ (∃ j, a ≤ j ∧ j < i ∧ bIdx j n p = hi))

theorem Seen.start (a n p : Int) : Seen a a n p (n - 1) 0 := ⟨fun j _ _ => by omega, .inl ⟨rfl, rfl, rfl⟩⟩

theorem Seen.step {a i n p lo hi lo' hi' : Int} (h : Seen a i n p lo hi) (hi0 : a ≤ i) (b1 : 0 ≤ bIdx i n p) (b2 : bIdx i n p < n) (l : lo' = min lo (bIdx i n p)) (r : hi' = max hi (bIdx i n p)) : Seen a (i + 1) n p lo' hi' := by
  refine ⟨fun j j1 j2 => ?_, .inr ⟨?_, ?_⟩⟩
  · by_cases e : j = i
    · subst e; omega
    · have := h.all j j1 (by omega); omega
  · rcases h.att with ⟨c1, c2, c3⟩ | ⟨⟨j, j1, j2, j3⟩, _⟩
    · exact ⟨i, hi0, by omega, by omega⟩
    · by_cases c : lo ≤ bIdx i n p
      · exact ⟨j, j1, by omega, by omega⟩
      · exact ⟨i, hi0, by omega, by omega⟩
  · rcases h.att with ⟨c1, c2, c3⟩ | ⟨_, ⟨j, j1, j2, j3⟩⟩
    · exact ⟨i, hi0, by omega, by omega⟩
    · by_cases c : bIdx i n p ≤ hi
      · exact ⟨j, j1, by omega, by omega⟩
      · exact ⟨i, hi0, by omega, by omega⟩

theorem Seen.range {a b i n p lo hi : Int} (h : Seen a i n p lo hi) (hn : 1 ≤ n) (hn' : n ≤ 128) (hp : p = 1 ∨ p = 2) (hab : a < b) (hi2 : min b (a + 2 * n) ≤ i) (hi3 : i ≤ min b (a + 2 * n)) : IsRange a b n p lo hi true := by
  refine range_period hn hn' hp ?_
  rcases h.att with ⟨c1, c2, c3⟩ | ⟨⟨j, j1, j2, j3⟩, ⟨k, k1, k2, k3⟩⟩
  · omega
  · exact ⟨fun _ => ⟨⟨j, j1, by omega, bOk_yes hn hn' (by omega), j3⟩, ⟨k, k1, by omega, bOk_yes hn hn' (by omega), k3⟩⟩, fun m m1 m2 _ => ⟨rfl, h.all m m1 (by omega)⟩, fun h => by simp at h⟩

theorem IsRange.empty (a n p : Int) : IsRange a a n p 0 0 false := .none fun i h1 h2 => by omega

/-- The loop of the reference: one coordinate more. -/
theorem IsRange.skip {a i n p lo hi : Int} {ok : Bool} (h : IsRange a i n p lo hi ok) (hk : bOk i n p = false) : IsRange a (i + 1) n p lo hi ok :=
  h.widen (fun j _ _ _ => by omega) (fun j j1 j2 j3 => by
    by_cases e : j = i
    · subst e; rw [hk] at j3; simp at j3
    · exact ⟨j, j1, by omega, j3, rfl⟩)

theorem IsRange.take {a i n p lo hi lo' hi' : Int} {ok : Bool} (h : IsRange a i n p lo hi ok) (hai : a ≤ i) (hk : bOk i n p = true) (l : lo' = if ok = false ∨ bIdx i n p < lo then bIdx i n p else lo) (r : hi' = if ok = false ∨ hi < bIdx i n p then bIdx i n p else hi) : IsRange a (i + 1) n p lo' hi' true := by
  subst l r
  refine ⟨fun _ => ⟨?_, ?_⟩, fun j j1 j2 j3 => ⟨rfl, ?_⟩, fun h => by simp at h⟩
  · split
    · exact ⟨i, hai, by omega, hk, rfl⟩
    · rename_i c
      obtain ⟨⟨j, j1, j2, j3, j4⟩, _⟩ := h.yes (by cases ok <;> simp_all)
      exact ⟨j, j1, by omega, j3, j4⟩
  · split
    · exact ⟨i, hai, by omega, hk, rfl⟩
    · rename_i c
      obtain ⟨_, ⟨j, j1, j2, j3, j4⟩⟩ := h.yes (by cases ok <;> simp_all)
      exact ⟨j, j1, by omega, j3, j4⟩
  · by_cases e : j = i
    · subst e
      cases ok <;> simp only [true_or, ↓reduceIte, Bool.true_eq_false, false_or] <;> (repeat' split) <;> omega
    · obtain ⟨k1, k2, k3⟩ := h.all j j1 (by omega) j3
      subst k1
      simp only [Bool.true_eq_false, false_or]
      (repeat' split) <;> omega

/-- The range that the reference looks at stands for the whole. -/
def Covers (a b n p a' b' : Int) : Prop := a' ≤ b' + 1 ∧ -2097152 ≤ a' ∧ b' ≤ 2097152 ∧ a' ≤ 2097152 ∧ ∀ lo hi ok, IsRange a' b' n p lo hi ok → IsRange a b n p lo hi ok

theorem covers_same {a b n p : Int} (c : inC a b) (h : b - a ≤ 600) : Covers a b n p a b ∨ b < a := by
  by_cases h : b < a
  · exact .inr h
  · unfold inC at c; exact .inl ⟨by omega, by omega, by omega, by omega, fun _ _ _ h => h⟩
theorem covers_period {a b n p : Int} (c : inC a b) (hn : 1 ≤ n) (hn' : n ≤ 128) (h : 600 < b - a) (h0 : p ≠ 0) (h3 : p ≠ 3) : Covers a b n p a (a + 2 * n) := by
  unfold inC at c
  refine ⟨by omega, by omega, by omega, by omega, fun lo hi ok r => ?_⟩
  by_cases hp : p = 1 ∨ p = 2
  · refine range_period hn hn' hp ?_
    rw [show min b (a + 2 * n) = a + 2 * n from by omega]; exact r
  · exact r.widen (fun i _ _ h => by rw [bOk_pol h0 (by omega) (by omega) h3] at h; simp at h) (fun i _ _ h => by rw [bOk_pol h0 (by omega) (by omega) h3] at h; simp at h)
theorem covers_low {a b n p : Int} (c : inC a b) (hn : 1 ≤ n) (hn' : n ≤ 128) (h : 600 < b - a) (hp : p = 0 ∨ p = 3) (hb : b - 1 < 0) : Covers a b n p (b - 1) b := by
  unfold inC at c
  refine ⟨by omega, by omega, by omega, by omega, fun lo hi ok r => r.widen (fun i _ _ h => by omega) fun i i1 i2 i3 => ?_⟩
  rcases hp with rfl | rfl
  · exact ⟨b - 1, by omega, by omega, bOk_yes hn hn' (by omega), by rw [bIdx_clamp hn hn', bIdx_clamp hn hn']; omega⟩
  · rw [bOk_const hn hn'] at i3; simp at i3; omega
theorem covers_high {a b n p : Int} (c : inC a b) (hn : 1 ≤ n) (hn' : n ≤ 128) (h : 600 < b - a) (hp : p = 0 ∨ p = 3) (ha : n ≤ a) : Covers a b n p a (a + 1) := by
  unfold inC at c
  refine ⟨by omega, by omega, by omega, by omega, fun lo hi ok r => r.widen (fun i _ _ h => by omega) fun i i1 i2 i3 => ?_⟩
  rcases hp with rfl | rfl
  · exact ⟨a, by omega, by omega, bOk_yes hn hn' (by omega), by rw [bIdx_clamp hn hn', bIdx_clamp hn hn']; omega⟩
  · rw [bOk_const hn hn'] at i3; simp at i3; omega
theorem covers_mid {a b n p a' b' : Int} (c : inC a b) (hn : 1 ≤ n) (hn' : n ≤ 128) (h : 600 < b - a) (hp : p = 0 ∨ p = 3) (hb : 0 ≤ b - 1) (ha : a < n) (ea : a' = max a (-1)) (eb : b' = min b (n + 1)) : Covers a b n p a' b' := by
  unfold inC at c
  subst ea eb
  refine ⟨by omega, by omega, by omega, by omega, fun lo hi ok r => r.widen (fun i _ _ h => by omega) fun i i1 i2 i3 => ?_⟩
  rcases hp with rfl | rfl
  · refine ⟨min (max i (max a (-1))) (min b (n + 1) - 1), by omega, by omega, bOk_yes hn hn' (by omega), ?_⟩
    rw [bIdx_clamp hn hn', bIdx_clamp hn hn']; omega
  · rw [bOk_const hn hn'] at i3; simp at i3
    exact ⟨i, by omega, by omega, by rw [bOk_const hn hn']; simp; omega, rfl⟩
end Go.Proofs.Ytlidacfokgdlgaa
