/-
  Plain law: the tiles that touch a rectangle, listed row by row, are just those that have a point in common with it.
-/
import Derived.Test.YtoojiabdgaflgaaGridPlain
namespace Go.Proofs.Ytoojiabdgaflgaa

/-- Ascending lists with the same members are one. -/
theorem sorted_unique : ∀ {l m : List Int}, l.Pairwise (· < ·) → m.Pairwise (· < ·) → (∀ n, n ∈ l ↔ n ∈ m) → l = m
  | [], [], _, _, _ => rfl
  | [], b :: m, _, _, h => by have := (h b).2 (by simp); simp at this
  | a :: l, [], _, _, h => by have := (h a).1 (by simp); simp at this
  | a :: l, b :: m, hl, hm, h => by
    rw [List.pairwise_cons] at hl hm
    have e : a = b := by
      have h1 := (h a).1 (by simp)
      have h2 := (h b).2 (by simp)
      rcases List.mem_cons.1 h1 with h1 | h1
      · exact h1
      · rcases List.mem_cons.1 h2 with h2 | h2
        · exact h2.symm
        · have := hm.1 a h1; have := hl.1 b h2; omega
    subst e
    congr 1
    refine sorted_unique hl.2 hm.2 fun n => ?_
    constructor
    · intro hn
      have := (h n).1 (by simp [hn])
      rcases List.mem_cons.1 this with e | e
      · subst e; have := hl.1 _ hn; omega
      · exact e
    · intro hn
      have := (h n).2 (by simp [hn])
      rcases List.mem_cons.1 this with e | e
      · subst e; have := hm.1 _ hn; omega
      · exact e

def tMeet (w h tw th n r0 r1 r2 r3 : Int) : Bool := rMeet (gT0 w h tw th n) (gT1 w h tw th n) (gT2 w h tw th n) (gT3 w h tw th n) r0 r1 r2 r3

structure TouchSpec (w h tw th r0 r1 r2 r3 : Int) (zs : List Int) : Prop where
  sorted : zs.Pairwise (· < ·)
  mem : ∀ n, n ∈ zs ↔ gTok w h tw th n = true ∧ tMeet w h tw th n r0 r1 r2 r3 = true

theorem TouchSpec.unique {w h tw th r0 r1 r2 r3 : Int} {zs zs' : List Int} (a : TouchSpec w h tw th r0 r1 r2 r3 zs) (b : TouchSpec w h tw th r0 r1 r2 r3 zs') : zs = zs' :=
  sorted_unique a.sorted b.sorted fun n => by rw [a.mem, b.mem]

theorem touch_no {w h tw th r0 r1 r2 r3 : Int} (hg : gOk w h tw th = false) : TouchSpec w h tw th r0 r1 r2 r3 [] :=
  ⟨List.Pairwise.nil, fun n => by simp [gTok, hg]⟩

theorem sorted_snoc {zs : List Int} {z : Int} (h : zs.Pairwise (· < ·)) (hz : ∀ n ∈ zs, n < z) : (zs ++ [z]).Pairwise (· < ·) := by
  rw [List.pairwise_append]
  exact ⟨h, by simp, fun a ha b hb => by simp at hb; subst hb; exact hz a ha⟩

/-- The walk row by row. -/
def InBox (nx ya xa xb k j n : Int) : Prop := 0 ≤ n ∧ ((ya ≤ n / nx ∧ n / nx < k ∧ xa ≤ n % nx ∧ n % nx ≤ xb) ∨ (n / nx = k ∧ xa ≤ n % nx ∧ n % nx < j))

structure Listed (nx ya xa xb k j : Int) (zs : List Int) : Prop where
  sorted : zs.Pairwise (· < ·)
  mem : ∀ n, n ∈ zs ↔ InBox nx ya xa xb k j n
  len : zs.length ≤ ((k - ya) * nx + (j - xa)).toNat

theorem Listed.start (nx ya xa xb : Int) : Listed nx ya xa xb ya xa [] := ⟨List.Pairwise.nil, fun n => by simp [InBox]; omega, by simp⟩

theorem div_mod_of {nx k j : Int} (hj : 0 ≤ j) (hn : j < nx) : (k * nx + j) / nx = k ∧ (k * nx + j) % nx = j := by
  have h0 : nx ≠ 0 := by omega
  rw [Int.add_comm]
  exact ⟨by rw [Int.add_mul_ediv_right _ _ h0, Int.ediv_eq_zero_of_lt hj hn]; omega, by rw [Int.add_mul_emod_self_right, Int.emod_eq_of_lt hj hn]⟩

theorem Listed.step {nx ya xa xb k j : Int} {zs : List Int} (h : Listed nx ya xa xb k j zs) (h0 : 0 ≤ xa) (h1 : xa ≤ j) (h2 : j < nx) (h3 : 0 ≤ ya) (h4 : ya ≤ k) : Listed nx ya xa xb k (j + 1) (zs ++ [k * nx + j]) := by
  obtain ⟨d1, d2⟩ := div_mod_of (nx := nx) (k := k) (j := j) (by omega) h2
  have hk : 0 ≤ k * nx := Int.mul_nonneg (by omega) (by omega)
  refine ⟨sorted_snoc h.sorted fun n hn => ?_, fun n => ?_, ?_⟩
  · obtain ⟨n0, hc⟩ := (h.mem n).1 hn
    have e := Int.mul_ediv_add_emod n nx
    have m1 := Int.emod_lt_of_pos n (b := nx) (by omega)
    have c := Int.mul_comm nx (n / nx)
    rcases hc with ⟨c1, c2, c3, c4⟩ | ⟨c1, c2, c3⟩
    · have : n / nx * nx ≤ (k - 1) * nx := Int.mul_le_mul_of_nonneg_right (by omega) (by omega)
      rw [Int.sub_mul] at this
      omega
    · rw [c1] at e c; omega
  · rw [List.mem_append, h.mem, List.mem_singleton]
    constructor
    · rintro (⟨n0, hc⟩ | rfl)
      · exact ⟨n0, by omega⟩
      · exact ⟨by omega, .inr ⟨d1, by omega, by omega⟩⟩
    · rintro ⟨n0, hc | ⟨c1, c2, c3⟩⟩
      · exact .inl ⟨n0, .inl hc⟩
      · by_cases e : n % nx = j
        · refine .inr ?_
          have := Int.mul_ediv_add_emod n nx
          rw [← this, c1, e, Int.mul_comm]
        · exact .inl ⟨n0, .inr ⟨c1, c2, by omega⟩⟩
  · have := h.len
    have q : 0 ≤ (k - ya) * nx := Int.mul_nonneg (by omega) (by omega)
    simp; omega

theorem Listed.row {nx ya xa xb k : Int} {zs : List Int} (h : Listed nx ya xa xb k (xb + 1) zs) (h2 : xb < nx) (h1 : xa ≤ xb + 1) (h4 : ya ≤ k) (h5 : 0 ≤ xa) : Listed nx ya xa xb (k + 1) xa zs := by
  refine ⟨h.sorted, fun n => ?_, ?_⟩
  · rw [h.mem]; unfold InBox
    constructor
    · rintro ⟨n0, hc⟩; exact ⟨n0, by omega⟩
    · rintro ⟨n0, hc⟩; exact ⟨n0, by omega⟩
  · have := h.len
    have q : 0 ≤ (k - ya) * nx := Int.mul_nonneg (by omega) (by omega)
    have e : (k + 1 - ya) * nx = (k - ya) * nx + nx := by rw [show k + 1 - ya = (k - ya) + 1 from by omega, Int.add_mul, Int.one_mul]
    rw [e]; omega

/-- A tile has a point in common with r exactly if its column and row lie between those of what r and the plane have in common. -/
theorem tMeet_iff {w h tw th n r0 r1 r2 r3 : Int} (ht : gTok w h tw th n = true) :
    tMeet w h tw th n r0 r1 r2 r3 = true ↔ rMeet r0 r1 r2 r3 0 0 w h = true ∧
      max r0 0 / tw ≤ n % gNx w h tw th ∧ n % gNx w h tw th ≤ (min r2 w - 1) / tw ∧ max r1 0 / th ≤ n / gNx w h tw th ∧ n / gNx w h tw th ≤ (min r3 h - 1) / th := by
  obtain ⟨t1, t2, t3, t4, t5, t6, t7, t8⟩ := tile_bd ht
  obtain ⟨hg, n0, nm⟩ := gTok_iff.1 ht
  obtain ⟨g1, g2, g3, g4, g5, g6, g7, g8⟩ := gOk_iff.1 hg
  unfold tMeet
  rw [rMeet_iff, rMeet_iff, rValid_iff (x0 := 0)]
  simp only [gT0, gT1, gT2, gT3, ht, if_true]
  have a1 : max r0 0 / tw ≤ n % gNx w h tw th ↔ max r0 0 < n % gNx w h tw th * tw + tw := by
    rw [show n % gNx w h tw th * tw + tw = (n % gNx w h tw th + 1) * tw from by rw [Int.add_mul, Int.one_mul], ← Int.ediv_lt_iff_lt_mul (by omega)]; omega
  have a2 : n % gNx w h tw th ≤ (min r2 w - 1) / tw ↔ n % gNx w h tw th * tw ≤ min r2 w - 1 := by rw [Int.le_ediv_iff_mul_le (by omega)]
  have a3 : max r1 0 / th ≤ n / gNx w h tw th ↔ max r1 0 < n / gNx w h tw th * th + th := by
    rw [show n / gNx w h tw th * th + th = (n / gNx w h tw th + 1) * th from by rw [Int.add_mul, Int.one_mul], ← Int.ediv_lt_iff_lt_mul (by omega)]; omega
  have a4 : n / gNx w h tw th ≤ (min r3 h - 1) / th ↔ n / gNx w h tw th * th ≤ min r3 h - 1 := by rw [Int.le_ediv_iff_mul_le (by omega)]
  rw [a1, a2, a3, a4]
  have v1 : rValid (n % gNx w h tw th * tw) (n / gNx w h tw th * th) (min (n % gNx w h tw th * tw + tw) w) (min (n / gNx w h tw th * th + th) h) = true := by
    rw [rValid_iff]; exact .inr (by omega)
  simp only [v1, true_and]
  generalize n % gNx w h tw th * tw = tx at *
  generalize n / gNx w h tw th * th = ty at *
  constructor
  · rintro ⟨hv, h1, h2⟩
    exact ⟨⟨hv, .inr (by omega), by omega, by omega⟩, by omega, by omega, by omega, by omega⟩
  · rintro ⟨⟨hv, _, h1, h2⟩, h3, h4, h5, h6⟩
    exact ⟨hv, by omega, by omega⟩

theorem touch_none {w h tw th r0 r1 r2 r3 : Int} (hm : rMeet r0 r1 r2 r3 0 0 w h = false) : TouchSpec w h tw th r0 r1 r2 r3 [] := by
  refine ⟨List.Pairwise.nil, fun n => ⟨fun h => by simp at h, fun ⟨h1, h2⟩ => ?_⟩⟩
  rw [tMeet_iff h1, hm] at h2
  simp at h2

/-- What the walk has listed when it is through. -/
theorem Listed.touch {w h tw th r0 r1 r2 r3 : Int} {zs : List Int} (hg : gOk w h tw th = true) (hm : rMeet r0 r1 r2 r3 0 0 w h = true) (hl : Listed (gNx w h tw th) (max r1 0 / th) (max r0 0 / tw) ((min r2 w - 1) / tw) ((min r3 h - 1) / th + 1) (max r0 0 / tw) zs) : TouchSpec w h tw th r0 r1 r2 r3 zs := by
  obtain ⟨n1, n2, n3, n4, n5, n6, n7, n8⟩ := gN_bd hg
  obtain ⟨g1, g2, g3, g4, g5, g6, g7, g8⟩ := gOk_iff.1 hg
  refine ⟨hl.sorted, fun n => ?_⟩
  rw [hl.mem]
  constructor
  · rintro ⟨n0, hc⟩
    have hc : max r1 0 / th ≤ n / gNx w h tw th ∧ n / gNx w h tw th ≤ (min r3 h - 1) / th ∧ max r0 0 / tw ≤ n % gNx w h tw th ∧ n % gNx w h tw th ≤ (min r2 w - 1) / tw := by omega
    obtain ⟨c1, c2, c3, c4⟩ := hc
    have y : n / gNx w h tw th < gNy w h tw th := by
      have : n / gNx w h tw th * th ≤ min r3 h - 1 := by rw [Int.le_ediv_iff_mul_le (by omega)] at c2; exact c2
      rcases Int.lt_or_le (n / gNx w h tw th) (gNy w h tw th) with h' | h'
      · exact h'
      · have := Int.mul_le_mul_of_nonneg_right h' (show (0:Int) ≤ th by omega); omega
    have hn : n < gNx w h tw th * gNy w h tw th := by
      have e := Int.mul_ediv_add_emod n (gNx w h tw th)
      have m := Int.emod_lt_of_pos n (b := gNx w h tw th) (by omega)
      have : gNx w h tw th * (n / gNx w h tw th) ≤ gNx w h tw th * (gNy w h tw th - 1) := Int.mul_le_mul_of_nonneg_left (by omega) (by omega)
      rw [Int.mul_sub] at this
      omega
    have ht : gTok w h tw th n = true := gTok_iff.2 ⟨hg, n0, hn⟩
    exact ⟨ht, (tMeet_iff ht).2 ⟨hm, c3, c4, c1, c2⟩⟩
  · rintro ⟨ht, hc⟩
    obtain ⟨_, c1, c2, c3, c4⟩ := (tMeet_iff ht).1 hc
    exact ⟨(gTok_iff.1 ht).2.1, .inl ⟨c3, by omega, c1, c2⟩⟩

/-- The reference's walk: tile by tile. -/
structure Sifted (w h tw th r0 r1 r2 r3 i : Int) (zs : List Int) : Prop where
  sorted : zs.Pairwise (· < ·)
  mem : ∀ n, n ∈ zs ↔ 0 ≤ n ∧ n < i ∧ tMeet w h tw th n r0 r1 r2 r3 = true
  len : zs.length ≤ i.toNat

theorem Sifted.start (w h tw th r0 r1 r2 r3 : Int) : Sifted w h tw th r0 r1 r2 r3 0 [] := ⟨List.Pairwise.nil, fun n => by simp; omega, by simp⟩
theorem Sifted.skip {w h tw th r0 r1 r2 r3 i : Int} {zs : List Int} (s : Sifted w h tw th r0 r1 r2 r3 i zs) (hi : 0 ≤ i) (hm : tMeet w h tw th i r0 r1 r2 r3 = false) : Sifted w h tw th r0 r1 r2 r3 (i + 1) zs := by
  refine ⟨s.sorted, fun n => ?_, by have := s.len; omega⟩
  rw [s.mem]
  constructor
  · rintro ⟨a, b, c⟩; exact ⟨a, by omega, c⟩
  · rintro ⟨a, b, c⟩
    by_cases e : n = i
    · subst e; rw [hm] at c; simp at c
    · exact ⟨a, by omega, c⟩
theorem Sifted.take {w h tw th r0 r1 r2 r3 i : Int} {zs : List Int} (s : Sifted w h tw th r0 r1 r2 r3 i zs) (hi : 0 ≤ i) (hm : tMeet w h tw th i r0 r1 r2 r3 = true) : Sifted w h tw th r0 r1 r2 r3 (i + 1) (zs ++ [i]) := by
  refine ⟨sorted_snoc s.sorted fun n hn => ((s.mem n).1 hn).2.1, fun n => ?_, by have := s.len; simp; omega⟩
  rw [List.mem_append, s.mem, List.mem_singleton]
  constructor
  · rintro (⟨a, b, c⟩ | rfl)
    · exact ⟨a, by omega, c⟩
    · exact ⟨hi, by omega, hm⟩
  · rintro ⟨a, b, c⟩
    by_cases e : n = i
    · exact .inr e
    · exact .inl ⟨a, by omega, c⟩
theorem Sifted.touch {w h tw th r0 r1 r2 r3 : Int} {zs : List Int} (hg : gOk w h tw th = true) (s : Sifted w h tw th r0 r1 r2 r3 (gNx w h tw th * gNy w h tw th) zs) : TouchSpec w h tw th r0 r1 r2 r3 zs :=
  ⟨s.sorted, fun n => by rw [s.mem, gTok_iff]; exact ⟨fun ⟨a, b, c⟩ => ⟨⟨hg, a, b⟩, c⟩, fun ⟨⟨_, a, b⟩, c⟩ => ⟨a, b, c⟩⟩⟩
end Go.Proofs.Ytoojiabdgaflgaa
