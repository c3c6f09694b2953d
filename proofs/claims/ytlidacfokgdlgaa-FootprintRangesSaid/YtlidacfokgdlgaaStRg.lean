/-
  The needed columns of a convolution with BorderClamp or BorderConstant are those between the bounds of border.Range: the plain law.
-/
import Derived.Test.YtlidacfokgdlgaaStTl
import Derived.Test.YtlidacfokgdlgaaRange
namespace Go.Proofs.Ytlidacfokgdlgaa
open Go.RowKit
set_option linter.unusedVariables false

theorem mkIn_iff {n p first : Int} {m : Nat} : ∀ {c : Nat}, mkIn n p first m c = true ↔ ∃ i : Nat, i < c ∧ bOk (first + (i : Int)) n p = true ∧ bIdx (first + (i : Int)) n p = (m : Int)
  | 0 => by simp [mkIn]
  | c + 1 => by
    simp only [mkIn]
    rw [Bool.or_eq_true, Bool.and_eq_true, decide_eq_true_eq, mkIn_iff]
    constructor
    · rintro (⟨i, h1, h2, h3⟩ | ⟨h2, h3⟩)
      · exact ⟨i, by omega, h2, h3⟩
      · exact ⟨c, by omega, h2, h3⟩
    · rintro ⟨i, h1, h2, h3⟩
      rcases Nat.lt_or_ge i c with h | h
      · exact .inl ⟨i, h, h2, h3⟩
      · have : i = c := by omega
        subst this; exact .inr ⟨h2, h3⟩
theorem mkTo_iff {kd side n p : Int} {T : Tbl} {a : Int} {m : Nat} : ∀ {d : Nat}, mkTo kd side n p T a m d = true ↔ ∃ j : Nat, j < d ∧ mkIn n p (spF kd (a + (j : Int)) side T) m (spC kd (a + (j : Int)) side T).toNat = true
  | 0 => by simp [mkTo]
  | d + 1 => by
    simp only [mkTo]
    rw [Bool.or_eq_true, mkTo_iff]
    constructor
    · rintro (⟨i, h1, h2⟩ | h2)
      · exact ⟨i, by omega, h2⟩
      · exact ⟨d, by omega, h2⟩
    · rintro ⟨i, h1, h2⟩
      rcases Nat.lt_or_ge i d with h | h
      · exact .inl ⟨i, h, h2⟩
      · have : i = d := by omega
        subst this; exact .inr h2
theorem cv_mark {side n p a b h : Int} {T : Tbl} {m : Nat} (hs : 1 ≤ side) (hh : Int.tdiv side 2 = h) (hab : a < b) :
    mkTo 1 side n p T a m (b - a).toNat = true ↔ ∃ i : Int, a - h ≤ i ∧ i < b - 1 - h + side ∧ bOk i n p = true ∧ bIdx i n p = (m : Int) := by
  have e1 : ∀ i, spF 1 i side T = i - h := fun i => by unfold spF; rw [if_pos (.inl rfl), hh]
  have e2 : ∀ i, spC 1 i side T = side := fun i => by unfold spC; rw [if_pos (.inl rfl)]
  rw [mkTo_iff]
  constructor
  · rintro ⟨j, hj, hm⟩
    rw [e1, e2, mkIn_iff] at hm
    obtain ⟨c, hc, h1, h2⟩ := hm
    exact ⟨a + (j : Int) - h + (c : Int), by omega, by omega, h1, h2⟩
  · rintro ⟨i, h1, h2, h3, h4⟩
    by_cases hi : i - (a - h) < side
    · refine ⟨0, by omega, ?_⟩
      rw [e1, e2, mkIn_iff]
      refine ⟨(i - (a - h)).toNat, by omega, ?_⟩
      rw [show a + ((0 : Nat) : Int) - h + (((i - (a - h)).toNat : Nat) : Int) = i by omega]
      exact ⟨h3, h4⟩
    · refine ⟨(i - (a - h) - side + 1).toNat, by omega, ?_⟩
      rw [e1, e2, mkIn_iff]
      refine ⟨(side - 1).toNat, by omega, ?_⟩
      rw [show a + (((i - (a - h) - side + 1).toNat : Nat) : Int) - h + (((side - 1).toNat : Nat) : Int) = i by omega]
      exact ⟨h3, h4⟩
theorem rg_mark {a b n p lo hi : Int} {ok : Bool} (hp : p = 0 ∨ p = 3) (hn : 1 ≤ n ∧ n ≤ 128) (hr : IsRange a b n p lo hi ok) (hex : ∃ i, a ≤ i ∧ i < b ∧ bOk i n p = true) :
    ok = true ∧ 0 ≤ lo ∧ lo ≤ hi ∧ hi < n ∧ ∀ m : Int, (∃ i, a ≤ i ∧ i < b ∧ bOk i n p = true ∧ bIdx i n p = m) ↔ lo ≤ m ∧ m ≤ hi := by
  obtain ⟨i0, x1, x2, x3⟩ := hex
  obtain ⟨hok, x4, x5⟩ := hr.all i0 x1 x2 x3
  obtain ⟨⟨i, y1, y2, y3, y4⟩, ⟨j, z1, z2, z3, z4⟩⟩ := hr.yes hok
  have bi := bIdx_bdR i n p y3
  have bj := bIdx_bdR j n p z3
  refine ⟨hok, by omega, by omega, by omega, fun m => ⟨?_, fun hm => ?_⟩⟩
  · rintro ⟨q, q1, q2, q3, rfl⟩; exact (hr.all q q1 q2 q3).2
  · by_cases h1 : m = lo
    · exact ⟨i, y1, y2, y3, by omega⟩
    · by_cases h2 : m = hi
      · exact ⟨j, z1, z2, z3, by omega⟩
      · rcases hp with rfl | rfl
        · rw [bIdx_clamp hn.1 hn.2] at y4 z4
          refine ⟨m, by omega, by omega, bOk_yes hn.1 hn.2 (by omega), ?_⟩
          rw [bIdx_clamp hn.1 hn.2]; omega
        · rw [bOk_const hn.1 hn.2] at y3 z3
          simp at y3 z3
          rw [bIdx_const hn.1 hn.2 y3.1 y3.2] at y4
          rw [bIdx_const hn.1 hn.2 z3.1 z3.2] at z4
          refine ⟨m, by omega, by omega, by rw [bOk_const hn.1 hn.2]; simp; omega, ?_⟩
          exact bIdx_const hn.1 hn.2 (by omega) (by omega)
theorem outL_range {P : Nat → Bool} {lo hi : Nat} : ∀ {n : Nat}, (∀ m, m < n → (P m = true ↔ lo ≤ m ∧ m ≤ hi)) → outL P n = (List.range (min n (hi + 1) - lo)).map (fun i => ((lo + i : Nat) : Int))
  | 0, _ => by simp [outL]
  | n + 1, h => by
    simp only [outL]
    rw [outL_range (n := n) fun m hm => h m (by omega)]
    by_cases hp : lo ≤ n ∧ n ≤ hi
    · rw [if_pos ((h n (by omega)).2 hp), show min (n + 1) (hi + 1) - lo = (min n (hi + 1) - lo) + 1 by omega, List.range_succ, List.map_append, List.map_singleton, show lo + (min n (hi + 1) - lo) = n by omega]
    · rw [if_neg (fun e => hp ((h n (by omega)).1 e)), show min (n + 1) (hi + 1) - lo = min n (hi + 1) - lo by omega]
theorem ranges_law {K w a b h lo hi p : Int} {ok : Bool} (hp : p = 0 ∨ p = 3) (hK : 1 ≤ K ∧ K ≤ 9) (hh : Int.tdiv K 2 = h) (hw : 1 ≤ w ∧ w ≤ 12) (ha : 0 ≤ a ∧ a < b) (hb : b ≤ w) (hr : RangeSpec (a - h) (b - 1 - h + K) w p lo hi ok) :
    ok = true ∧ ((stCol 1 (-1) p 0 K 1 3 0 0 0 0 0 0 0 0 9 [] [] w a b).length : Int) = hi - lo + 1 ∧ 0 ≤ lo ∧ lo ≤ hi ∧ hi < w ∧ ∀ i : Nat, i < (stCol 1 (-1) p 0 K 1 3 0 0 0 0 0 0 0 0 9 [] [] w a b).length → (stCol 1 (-1) p 0 K 1 3 0 0 0 0 0 0 0 0 9 [] [] w a b).getD i 0 = lo + (i : Int) := by
  have h0 : 0 ≤ h ∧ 2 * h ≤ K := by rw [← hh, Int.tdiv_eq_ediv_of_nonneg (by omega)]; omega
  have hin : inC (a - h) (b - 1 - h + K) := by unfold inC; omega
  have hir := hr.2 hin
  have hex : ∃ i, a - h ≤ i ∧ i < b - 1 - h + K ∧ bOk i w p = true := by
    refine ⟨a, by omega, by omega, ?_⟩
    rcases hp with rfl | rfl
    · exact bOk_yes (by omega) (by omega) (by omega)
    · rw [bOk_const (by omega) (by omega)]; simp; omega
  obtain ⟨r1, r2, r3, r4, r5⟩ := rg_mark hp ⟨by omega, by omega⟩ hir hex
  obtain ⟨l, hl⟩ : ∃ l : Nat, lo = l := ⟨lo.toNat, by omega⟩
  obtain ⟨g, hg⟩ : ∃ g : Nat, hi = g := ⟨hi.toNat, by omega⟩
  subst hl hg
  have hfine : stFine 1 (-1) p 0 K 1 3 0 0 0 0 0 0 0 0 9 [] [] w a b = true := by
    unfold stFine sfOk stAcc sideOk
    simp; omega
  have hL : stCol 1 (-1) p 0 K 1 3 0 0 0 0 0 0 0 0 9 [] [] w a b = (List.range (g + 1 - l)).map (fun i => ((l + i : Nat) : Int)) := by
    unfold stCol ndL
    rw [if_pos hfine, if_neg (by decide), show stPol 1 p = p from by unfold stPol; rw [if_neg (by decide)], outL_range (lo := l) (hi := g) fun m hm => ?_, show min w.toNat (g + 1) = g + 1 by omega]
    rw [cv_mark hK.1 hh ha.2, r5]; omega
  rw [hL]
  refine ⟨r1, by simp; omega, r2, r3, r4, fun i hi' => ?_⟩
  simp at hi'
  rw [List.getD_eq_getElem?_getD, List.getElem?_map, List.getElem?_range hi']
  simp
end Go.Proofs.Ytlidacfokgdlgaa
