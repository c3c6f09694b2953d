/-
  Contracts: new planes, equal lists and equal planes, in the program. copy into a row that the call made itself. Contracts: the greatest of a list, and a copy of a list. Contract: a tile of an integral plane, in the program. Contract: the integral plane of a plane, in the program. Contracts: the sum of a rectangle out of an integral plane, in the program and in the reference. Contract: a tile of an integral plane, in the reference. Contract: the integral plane of a plane, in the reference. Contracts: crops, in the program and in the reference. Contracts: blits, in the program and in the reference. Contract: blits, in the reference. Contracts: the pixels of planes, also outside of them, in the program and in the reference; edges that the tape makes. Plain law: crops and blits of planes: what fits, what is read back, what stays.
-/
import Derived.Test.YtlidacfokgdlgaaKB
import Derived.Test.YtlidacfokgdlgaaKC
import Derived.Test.YtlidacfokgdlgaaKA
import Derived.Laws.CopyOwn
import Derived.WalkLawsBesides
import Derived.WalkSpells
import Derived.StillTailTactics
import Derived.Deep.DeepCutAuto
import Derived.Deep.DrawnRows
import Derived.Deep.RegionHeld3
import Derived.Test.YtlidacfokgdlgaaKD
namespace Go.Proofs.Ytlidacfokgdlgaa
section
open Go.RowKit
attribute [local go_sem ↓] Go.wp_at_zero Go.wp_at_succ
set_option linter.unusedVariables false
set_option linter.unusedSimpArgs false
end

section
open Go.RowKit

theorem take_splice {α : Type} (L : List α) (off n : Nat) (cs : List α) (h : off + cs.length ≤ n) (hn : n ≤ L.length) : (splice L off cs).take n = splice (L.take n) off cs := by
  refine List.ext_getElem? fun i => ?_
  unfold splice
  simp only [List.getElem?_take, List.getElem?_append, List.getElem?_drop, List.length_take]
  have e1 : min off L.length = off := by omega
  have e2 : min off (min n L.length) = off := by omega
  rw [e1, e2]
  by_cases h1 : i < off
  · have : i < n := by omega
    simp [h1, this]
  · by_cases h2 : i - off < cs.length
    · have : i < n := by omega
      simp [h1, h2, this]
    · by_cases h3 : i < n
      · have : off + cs.length + (i - off - cs.length) < n := by omega
        simp [h1, h2, h3, this]
      · have : ¬ (off + cs.length + (i - off - cs.length) < n) := by omega
        simp [h1, h2, h3, this]
theorem map_splice {α β : Type} (f : α → β) (L : List α) (off : Nat) (cs : List α) : (splice L off cs).map f = splice (L.map f) off (cs.map f) := by
  unfold splice; simp [List.map_append, List.map_take, List.map_drop]

theorem oper_copy_own {o : Oper} {a : Act} {Q : Exit → Act → World → Prop} {K : Act → World → Prop} {w : World} (d s : Operand)
    (ho : o.op = .call { callee := .builtin .copy, args := #[d, s], argTypes := #[22, 22] })
    (base g off n cp dc m b f sc : Nat) (zs ys : List Int) (hd : a.eval d = .slice (some ⟨g, off, none⟩) m dc) (hs : a.eval s = .slice (some ⟨b, f, none⟩) m sc)
    (hown : Own base w (.slice (some ⟨g, 0, none⟩) n cp) zs) (hrow : Row w .i64 (some ⟨b, f, none⟩) m ys) (hfit : off + m ≤ zs.length)
    (h : ∀ w', Own base w' (.slice (some ⟨g, 0, none⟩) n cp) (splice zs off ys) → w.grownBy w' (some g) → K (a.put o.dst (.int .i64 m)) w') : o.wp Try.prog a w K Q := by
  have hl := hrow.len
  have hlen : (splice zs off ys).length = zs.length := length_splice _ _ _ (by omega)
  rcases hown.2 with ⟨e, _⟩ | ⟨g', cap, cur, e, hb, hg, h1, h2, h3, h4⟩
  · cases e
  cases e
  have hsz : (Try.prog.info? 3).map (·.size) = some 1 := by kernel_rfl
  have hx := hown.1
  simp only [List.length_map, Nat.mul_one] at hx h3 h4
  have hcl : (ys.map (Value.int .i64)).length = m := by rw [List.length_map, hl]
  have hrun := run_copy_row (P := Try.prog) w 22 22 o.type 3 g off m dc ⟨b, f, none⟩ m sc cur 3 (ys.map (Value.int .i64)) Try.underlying22 hsz hg (by rw [hcl]; simp) (fun j v hv => by
    rw [List.getElem?_map] at hv
    cases hy : ys[j]? with
    | none => rw [hy] at hv; simp at hv
    | some y =>
      rw [hy] at hv; simp at hv; subst hv
      obtain ⟨hlt, _⟩ := List.getElem?_eq_some_iff.1 hy
      have := row_cell hrow (j := j) (by omega)
      rw [List.getD_eq_getElem?_getD, hy] at this
      simp only [Addr.add]
      split
      · rename_i e; subst e; rw [Nat.add_zero] at this; exact this
      · exact this) (by rw [hcl]; omega) (by intro v hv; obtain ⟨y, _, rfl⟩ := List.mem_map.1 hv; rfl)
  have e0 : List.take off cur.toList ++ ys.map (Value.int .i64) ++ List.drop (off + (ys.map (Value.int .i64)).length) cur.toList = splice cur.toList off (ys.map (Value.int .i64)) := by unfold splice; rw [List.append_assoc]
  have hsp : (splice cur.toList off (ys.map (Value.int .i64))).length = cur.size := by rw [length_splice _ _ _ (by rw [hcl]; simp; omega)]; simp
  have hfin := h (w.setRow g (splice cur.toList off (ys.map (Value.int .i64))).toArray) (by
    refine ⟨by simp, .inr ⟨g, cp, _, by rw [hlen], hb, setRow_heap w g cur _ 3 _ hg, by omega, h2, by simp only [Array.size, Nat.mul_one]; rw [hsp]; omega, ?_⟩⟩
    show List.take ((splice zs off ys).length * 1) (splice cur.toList off (ys.map (Value.int .i64))) = (splice zs off ys).map (Value.int .i64)
    rw [Nat.mul_one, hlen, take_splice _ _ _ _ (by rw [hcl]; omega) (by simp; omega), h4, map_splice])
    ⟨rfl, rfl, rfl, by simp [World.setRow], fun k _ hk => setRow_other w g k _ (fun e => hk (by rw [e]))⟩
  unfold Oper.wp
  rw [e0] at hrun
  simp [execOp, ho, resolve, invoke, builtin, hd, hs, hrun, Result.andThen, hl]
  exact hfin
end

section
open Go.RowKit
attribute [local go_sem ↓] Go.wp_at_zero Go.wp_at_succ
set_option linter.unusedVariables false
set_option linter.unusedSimpArgs false

def MaxPost (zs : List Int) (W : World) (e : Ending) (w' : World) : Prop := ∃ m : Int, e = .returned (.int .i64 m) ∧ m ∈ zs ∧ (∀ z ∈ zs, z ≤ m) ∧ Below W.heap.size W w'
end

section
open Go.RowKit
attribute [local go_sem ↓] Go.wp_at_zero Go.wp_at_succ
set_option linter.unusedVariables false
set_option linter.unusedSimpArgs false

theorem allIn_get {mx : Int} {zs : List Int} (h : allIn mx zs = true) {i : Nat} (hi : i < zs.length) : 0 ≤ zs.getD i 0 ∧ zs.getD i 0 ≤ mx := by
  have e : zs.getD i 0 = zs[i] := by rw [List.getD_eq_getElem?_getD, List.getElem?_eq_getElem hi]; rfl
  rw [e]; exact allIn_iff.1 h _ (List.getElem_mem hi)
def TilePost (w h mx : Int) (zs : List Int) (r0 r1 r2 r3 : Int) (left top : List Int) (corner : Int) (W : World) (e : Ending) (w' : World) : Prop :=
  ∃ v, e = .returned (.tuple #[.agg #[.int .i64 (tIf w h mx zs r0 r1 r2 r3 left top corner (r2 - r0)), .int .i64 (tIf w h mx zs r0 r1 r2 r3 left top corner (r3 - r1)), .int .i64 (tIf w h mx zs r0 r1 r2 r3 left top corner (w * h * mx)), v], .int .i64 (tCode w h mx zs r0 r1 r2 r3 left top corner)]) ∧
    Own W.heap.size w' v (tList w h mx zs r0 r1 r2 r3 left top corner) ∧ Below W.heap.size W w'
theorem tile_no {w h mx : Int} {zs : List Int} {r0 r1 r2 r3 : Int} {left top : List Int} {corner : Int} {W w' : World} {k : Int} (hk : tCode w h mx zs r0 r1 r2 r3 left top corner = k) (h0 : k ≠ 0) (hb : Below W.heap.size W w') :
    TilePost w h mx zs r0 r1 r2 r3 left top corner W (.returned (.tuple #[.agg #[.int .i64 0, .int .i64 0, .int .i64 0, .slice none 0 0], .int .i64 k])) w' := by
  have hi : ∀ x, tIf w h mx zs r0 r1 r2 r3 left top corner x = 0 := fun x => by unfold tIf; rw [hk, if_neg h0]
  refine ⟨_, by rw [hi, hi, hi, hk], ?_, hb⟩
  have : tList w h mx zs r0 r1 r2 r3 left top corner = [] := by unfold tList; rw [hk, if_neg h0]
  rw [this]; exact Own.nil _ _
end

section
open Go.RowKit
set_option linter.unusedVariables false
set_option linter.unusedSimpArgs false

theorem tCode_of_k {w h mx : Int} {zs : List Int} {r0 r1 r2 r3 : Int} {left top : List Int} {corner : Int} (hk : kCode w h mx zs ≠ 0) : tCode w h mx zs r0 r1 r2 r3 left top corner = kCode w h mx zs := by
  cases hv : pValid w h mx zs with
  | false => unfold tCode kCode; rw [hv, if_pos rfl, if_neg (by simp)]
  | true =>
    cases hi : iOk w h mx with
    | false => unfold tCode kCode iCode; rw [hv, hi, if_neg (by simp), if_pos rfl, if_pos rfl, if_neg (by simp)]
    | true => exact absurd (by simp [kCode, iCode, hv, hi]) hk
theorem valid_of_k {w h mx : Int} {zs : List Int} (hk : kCode w h mx zs = 0) : pValid w h mx zs = true ∧ iOk w h mx = true := by
  cases hv : pValid w h mx zs with
  | false => simp [kCode, hv] at hk
  | true =>
    cases hi : iOk w h mx with
    | false => simp [kCode, iCode, hv, hi] at hk
    | true => exact ⟨rfl, rfl⟩
end

section
open Go.RowKit
set_option linter.unusedVariables false
set_option linter.unusedSimpArgs false

theorem fullInside {r0 r1 r2 r3 b0 b1 b2 b3 : Int} : (rFull r0 r1 r2 r3 && rInside r0 r1 r2 r3 b0 b1 b2 b3) = (!rEmpty r0 r1 r2 r3 && rInside r0 r1 r2 r3 b0 b1 b2 b3) := by
  unfold rFull rInside
  cases rValid r0 r1 r2 r3 <;> simp
def sCode (w h mx : Int) (zs : List Int) (r0 r1 r2 r3 : Int) : Int := if pValid w h mx zs = false then 1 else if (!rEmpty r0 r1 r2 r3 && rInside r0 r1 r2 r3 0 0 w h) = false then 8 else 0
def sRaw (w : Int) (zs : List Int) (r0 r1 r2 r3 : Int) : Int := qAt w zs (r2 - 1) (r3 - 1) - qAt w zs (r0 - 1) (r3 - 1) - qAt w zs (r2 - 1) (r1 - 1) + qAt w zs (r0 - 1) (r1 - 1)
def sVal (w h mx : Int) (zs : List Int) (r0 r1 r2 r3 : Int) : Int := if sCode w h mx zs r0 r1 r2 r3 = 0 then sRaw w zs r0 r1 r2 r3 else 0
def SumPost (w h mx : Int) (zs : List Int) (r0 r1 r2 r3 : Int) (W : World) (e : Ending) (w' : World) : Prop :=
  e = .returned (.tuple #[.int .i64 (sVal w h mx zs r0 r1 r2 r3), .int .i64 (sCode w h mx zs r0 r1 r2 r3)]) ∧ Below W.heap.size W w'
theorem sum_no {w h mx : Int} {zs : List Int} {r0 r1 r2 r3 : Int} {W w' : World} {k : Int} (hk : sCode w h mx zs r0 r1 r2 r3 = k) (h0 : k ≠ 0) (hb : Below W.heap.size W w') :
    SumPost w h mx zs r0 r1 r2 r3 W (.returned (.tuple #[.int .i64 0, .int .i64 k])) w' :=
  ⟨ret_ii (by unfold sVal; rw [hk, if_neg h0]) hk.symm, hb⟩
theorem sum_yes {w h mx : Int} {zs : List Int} {r0 r1 r2 r3 : Int} {W w' : World} (hk : sCode w h mx zs r0 r1 r2 r3 = 0) {z : Int} (hz : z = sRaw w zs r0 r1 r2 r3) (hb : Below W.heap.size W w') :
    SumPost w h mx zs r0 r1 r2 r3 W (.returned (.tuple #[.int .i64 z, .int .i64 0])) w' :=
  ⟨ret_ii (by unfold sVal; rw [hk, if_pos rfl, hz]) hk.symm, hb⟩
end

section
open Go.RowKit
attribute [local go_sem ↓] Go.wp_at_zero Go.wp_at_succ
set_option linter.unusedVariables false
set_option linter.unusedSimpArgs false

/-- The first values, and zeros behind them. -/
def fillL (f : Nat → Nat → Int) (wd k j N : Nat) : List Int := gridL f wd k j ++ List.replicate (N - (k * wd + j)) 0
theorem fillL_len {f : Nat → Nat → Int} {wd k j N : Nat} (h : k * wd + j ≤ N) : (fillL f wd k j N).length = N := by simp [fillL, gridL_len]; omega
theorem fillL_zero (f : Nat → Nat → Int) (wd N : Nat) : fillL f wd 0 0 N = List.replicate N 0 := by simp [fillL, gridL_zero]
theorem fillL_next {f : Nat → Nat → Int} {wd k j N : Nat} (h : k * wd + j < N) : (fillL f wd k j N).set (k * wd + j) (f k j) = fillL f wd k (j + 1) N := by
  unfold fillL
  rw [List.set_append_right _ _ (by rw [gridL_len]; omega), gridL_len, Nat.sub_self, gridL_next]
  obtain ⟨m, hm⟩ : ∃ m, N - (k * wd + j) = m + 1 := ⟨N - (k * wd + j) - 1, by omega⟩
  rw [hm, List.replicate_succ, List.set_cons_zero, show N - (k * wd + (j + 1)) = m by omega, List.append_assoc, List.singleton_append]
theorem fillL_row (f : Nat → Nat → Int) (wd k N : Nat) : fillL f wd k wd N = fillL f wd (k + 1) 0 N := by
  unfold fillL; rw [gridL_row, Nat.add_mul, Nat.one_mul]; rfl
theorem fillL_all (f : Nat → Nat → Int) (wd k : Nat) : fillL f wd k 0 (k * wd) = gridL f wd k 0 := by simp [fillL]
def rowS (w : Int) (zs : List Int) (r0 r1 : Int) (a j : Nat) : Int := sumN (fun b => tPix w zs r0 r1 a b) j
def rowsS (w : Int) (zs : List Int) (r0 r1 : Int) (k j : Nat) : Int := sumN (fun a => rowS w zs r0 r1 a j) k
theorem rowS_bd {w h mx : Int} {zs : List Int} (hv : pValid w h mx zs = true) (r0 r1 : Int) (a : Nat) {j : Nat} (hj : j ≤ 128) : 0 ≤ rowS w zs r0 r1 a j ∧ rowS w zs r0 r1 a j ≤ 549755813888 := by
  have hm := (pOk_iff.1 (pValid_iff.1 hv).1).2.2.2.2.2
  have h1 := sumN_bd (f := fun b => tPix w zs r0 r1 a b) (n := j) (fun i _ => tPix_bd hv r0 r1 a i)
  have h2 : (j : Int) * mx ≤ 128 * 4294967296 := Int.mul_le_mul (by omega) hm.2 (by omega) (by omega)
  unfold rowS; omega
theorem rowsS_bd {w h mx : Int} {zs : List Int} (hv : pValid w h mx zs = true) (r0 r1 : Int) {k j : Nat} (hk : k ≤ 128) (hj : j ≤ 128) : 0 ≤ rowsS w zs r0 r1 k j ∧ rowsS w zs r0 r1 k j ≤ 70368744177664 := by
  have h1 := sumN_bd (f := fun a => rowS w zs r0 r1 a j) (n := k) (fun i _ => rowS_bd hv r0 r1 i hj)
  have h2 : (k : Int) * 549755813888 ≤ 128 * 549755813888 := Int.mul_le_mul_of_nonneg_right (by omega) (by omega)
  unfold rowsS; omega
theorem tSum_rowsS (w : Int) (zs : List Int) (r0 r1 : Int) (k j : Nat) : tSum w zs r0 r1 k j = rowsS w zs r0 r1 k j := tSum_rows w zs r0 r1 k j
theorem fullInside' {r0 r1 r2 r3 b0 b1 b2 b3 : Int} (hf : rFull r0 r1 r2 r3 = false ∨ rInside r0 r1 r2 r3 b0 b1 b2 b3 = false) : (!rEmpty r0 r1 r2 r3 && rInside r0 r1 r2 r3 b0 b1 b2 b3) = false := by
  rw [← fullInside]; rcases hf with e | e <;> rw [e] <;> simp
end

section
open Go.RowKit
attribute [local go_sem ↓] Go.wp_at_zero Go.wp_at_succ
set_option linter.unusedVariables false
set_option linter.unusedSimpArgs false

theorem rep_get (n k : Nat) : (List.replicate n (0 : Int)).getD k 0 = 0 := by
  rw [List.getD_eq_getElem?_getD]
  rcases Nat.lt_or_ge k n with h | h <;> simp [h]
theorem tVal_whole (w : Int) (zs : List Int) (n m : Nat) (k j : Nat) : tVal w zs 0 0 (List.replicate n 0) (List.replicate m 0) 0 k j = rowsS w zs 0 0 (k + 1) (j + 1) := by
  unfold tVal
  rw [rep_get, rep_get, tSum_rowsS]; simp
theorem rowS_le {w h mx : Int} {zs : List Int} (hv : pValid w h mx zs = true) (r0 r1 : Int) (a j : Nat) : 0 ≤ rowS w zs r0 r1 a j ∧ rowS w zs r0 r1 a j ≤ j * mx :=
  sumN_bd fun i _ => tPix_bd hv r0 r1 a i
theorem rowsS_le {w h mx : Int} {zs : List Int} (hv : pValid w h mx zs = true) (r0 r1 : Int) (k j : Nat) : 0 ≤ rowsS w zs r0 r1 k j ∧ rowsS w zs r0 r1 k j ≤ k * (j * mx) :=
  sumN_bd fun i _ => rowS_le hv r0 r1 i j
/-- Every sum of pixels of a plane is permitted. -/
theorem whole_in {w h mx : Int} {zs : List Int} (hv : pValid w h mx zs = true) {k j : Nat} (hk : (k : Int) ≤ h) (hj : (j : Int) ≤ w) : 0 ≤ rowsS w zs 0 0 k j ∧ rowsS w zs 0 0 k j ≤ w * h * mx := by
  obtain ⟨h0, h1⟩ := rowsS_le hv 0 0 k j
  obtain ⟨p1, p2, p3, p4, p5, p6, p7⟩ := pOk_iff.1 (pValid_iff.1 hv).1
  have e1 : (j : Int) * mx ≤ w * mx := Int.mul_le_mul_of_nonneg_right hj (by omega)
  have e2 : (k : Int) * (j * mx) ≤ h * (w * mx) := Int.mul_le_mul hk e1 (Int.mul_nonneg (by omega) (by omega)) (by omega)
  have e3 : h * (w * mx) = w * h * mx := by rw [← Int.mul_assoc, Int.mul_comm h w]
  omega
theorem whole_all {w h mx : Int} {zs : List Int} (hv : pValid w h mx zs = true) (nh nw : Nat) (hnh : h = nh) (hnw : w = nw) :
    tAll w zs 0 0 (List.replicate nh 0) (List.replicate nw 0) 0 = gridL (fun k j => rowsS w zs 0 0 (k + 1) (j + 1)) nw nh 0 := by
  unfold tAll
  rw [List.length_replicate, List.length_replicate]
  congr 1
  funext k j
  exact tVal_whole w zs nh nw k j
theorem whole_code {w h mx : Int} {zs : List Int} (hv : pValid w h mx zs = true) (hi : iOk w h mx = true) (nh nw : Nat) (hnh : h = nh) (hnw : w = nw) :
    tCode w h mx zs 0 0 w h (List.replicate nh 0) (List.replicate nw 0) 0 = 0 := by
  have hp := (pOk_iff.1 (pValid_iff.1 hv).1)
  obtain ⟨p1, p2, p3, p4, p5, p6, p7⟩ := hp
  have hin := (inside_iff (w := w) (h := h) (r0 := 0) (r1 := 0) (r2 := w) (r3 := h) p1 p2 p3 p4).2 (by omega)
  have hm : 0 ≤ w * h * mx := Int.mul_nonneg (Int.mul_nonneg (by omega) (by omega)) (by omega)
  have hz : ∀ n, allIn (w * h * mx) (List.replicate n 0) = true := fun n => allIn_iff.2 fun v hv' => by
    rw [List.mem_replicate] at hv'; omega
  have h1 : allIn (w * h * mx) [0] = true := hz 1
  have ha : allIn (w * h * mx) (tAll w zs 0 0 (List.replicate nh 0) (List.replicate nw 0) 0) = true := by
    rw [whole_all hv nh nw hnh hnw, allIn_iff]
    refine (gridL_all _ nw nh).2 fun a ha b hb => ?_
    exact whole_in hv (by omega) (by omega)
  unfold tCode
  rw [if_neg (by rw [hv]; simp), if_neg (by rw [hi]; simp), if_neg (by rw [hin]; simp), if_neg (by simp; omega), if_neg (by rw [h1, hz, hz]; simp), if_neg (by rw [ha]; simp)]
theorem fillL_get {f : Nat → Nat → Int} {wd k j N a b : Nat} (hN : k * wd + j ≤ N) (hb : b < wd) (h : a < k ∨ (a = k ∧ b < j)) : (fillL f wd k j N).getD (a * wd + b) 0 = f a b := by
  have hlt : a * wd + b < k * wd + j := by
    rcases h with h | ⟨rfl, h⟩
    · have := Nat.mul_le_mul_right wd (show a + 1 ≤ k by omega)
      rw [Nat.add_mul, Nat.one_mul] at this
      omega
    · omega
  unfold fillL
  rw [List.getD_eq_getElem?_getD, List.getElem?_append_left (by rw [gridL_len]; exact hlt), ← List.getD_eq_getElem?_getD]
  exact gridL_get f wd k j a b hb h
end

section
open Go.RowKit
attribute [local go_sem ↓] Go.wp_at_zero Go.wp_at_succ
set_option linter.unusedVariables false
set_option linter.unusedSimpArgs false

def cOk (w h mx : Int) (zs : List Int) (r0 r1 r2 r3 : Int) : Bool := pValid w h mx zs && (!rEmpty r0 r1 r2 r3 && rInside r0 r1 r2 r3 0 0 w h)
def cIf (w h mx : Int) (zs : List Int) (r0 r1 r2 r3 x : Int) : Int := if cOk w h mx zs r0 r1 r2 r3 = true then x else 0
def cAll (w : Int) (zs : List Int) (r0 r1 r2 r3 : Int) : List Int := gridL (tPix w zs r0 r1) (r2 - r0).toNat (r3 - r1).toNat 0
def cList (w h mx : Int) (zs : List Int) (r0 r1 r2 r3 : Int) : List Int := if cOk w h mx zs r0 r1 r2 r3 = true then cAll w zs r0 r1 r2 r3 else []
def CropPost (w h mx : Int) (zs : List Int) (r0 r1 r2 r3 : Int) (W : World) (e : Ending) (w' : World) : Prop :=
  ∃ v, e = .returned (.tuple #[.agg #[.int .i64 (cIf w h mx zs r0 r1 r2 r3 (r2 - r0)), .int .i64 (cIf w h mx zs r0 r1 r2 r3 (r3 - r1)), .int .i64 (cIf w h mx zs r0 r1 r2 r3 mx), v], .bool (cOk w h mx zs r0 r1 r2 r3)]) ∧
    Own W.heap.size w' v (cList w h mx zs r0 r1 r2 r3) ∧ Below W.heap.size W w'
theorem crop_no {w h mx : Int} {zs : List Int} {r0 r1 r2 r3 : Int} {W w' : World} (hk : cOk w h mx zs r0 r1 r2 r3 = false) (hb : Below W.heap.size W w') :
    CropPost w h mx zs r0 r1 r2 r3 W (.returned (.tuple #[.agg #[.int .i64 0, .int .i64 0, .int .i64 0, .slice none 0 0], .bool false])) w' := by
  have hi : ∀ x, cIf w h mx zs r0 r1 r2 r3 x = 0 := fun x => by unfold cIf; rw [hk]; simp
  refine ⟨_, by rw [hi, hi, hi, hk], ?_, hb⟩
  have : cList w h mx zs r0 r1 r2 r3 = [] := by unfold cList; rw [hk]; simp
  rw [this]; exact Own.nil _ _
/-- The facts of a crop that is permitted. -/
theorem crop_in {w h mx : Int} {zs : List Int} {r0 r1 r2 r3 : Int} (hv : pValid w h mx zs = true) (he : rEmpty r0 r1 r2 r3 = false) (hi : rInside r0 r1 r2 r3 0 0 w h = true) :
    cOk w h mx zs r0 r1 r2 r3 = true ∧ (0 ≤ r0 ∧ r0 < r2 ∧ r2 ≤ w ∧ 0 ≤ r1 ∧ r1 < r3 ∧ r3 ≤ h) ∧ pOk (r2 - r0) (r3 - r1) mx = true := by
  obtain ⟨p1, p2, p3, p4, p5, p6, p7⟩ := pOk_iff.1 (pValid_iff.1 hv).1
  have hx : (!rEmpty r0 r1 r2 r3 && rInside r0 r1 r2 r3 0 0 w h) = true := by rw [he, hi]; rfl
  have hin := (inside_iff p1 p2 p3 p4).1 hx
  refine ⟨by unfold cOk; rw [hv, hx]; rfl, hin, pOk_iff.2 ⟨by omega, by omega, by omega, by omega, ?_, p6, p7⟩⟩
  have := Int.mul_le_mul (a := r2 - r0) (c := w) (b := r3 - r1) (d := h) (by omega) (by omega) (by omega) (by omega)
  omega
theorem fillL_splice {f : Nat → Nat → Int} {wd k N : Nat} (h : k * wd + wd ≤ N) : splice (fillL f wd k 0 N) (k * wd) ((List.range wd).map (f k)) = fillL f wd (k + 1) 0 N := by
  have e : (gridL f wd k 0).length = k * wd := by rw [gridL_len]; rfl
  unfold splice fillL
  rw [List.take_left' e, List.length_map, List.length_range, List.drop_append, e, List.drop_eq_nil_of_le (by rw [e]; omega), List.nil_append, List.drop_replicate, ← List.append_assoc]
  congr 1
  · simp [gridL, List.range_succ]
  · rw [Nat.add_mul, Nat.one_mul]; congr 1; omega
theorem part_row {w : Int} {zs : List Int} {r0 r1 : Int} {k wd S : Nat} (hS : (r1 + (k : Int)) * w + r0 = (S : Int)) (h : S + wd ≤ zs.length) : (zs.drop S).take wd = (List.range wd).map (tPix w zs r0 r1 k) := by
  refine List.ext_getElem (by simp; omega) fun i h1 h2 => ?_
  simp at h1 h2
  simp only [List.getElem_take, List.getElem_drop, List.getElem_map, List.getElem_range]
  unfold tPix
  have e : ((r1 + (k : Int)) * w + r0 + (i : Int)).toNat = S + i := by omega
  rw [e, List.getD_eq_getElem?_getD, List.getElem?_eq_getElem (by omega)]
  rfl
end

section
open Go.RowKit
attribute [local go_sem ↓] Go.wp_at_zero Go.wp_at_succ
set_option linter.unusedVariables false
set_option linter.unusedSimpArgs false

def blOk (w h mx : Int) (zs : List Int) (u v qm : Int) (qs : List Int) (x y : Int) : Bool :=
  pValid w h mx zs && (pValid u v qm qs && (decide (0 ≤ x ∧ x ≤ w - u ∧ 0 ≤ y ∧ y ≤ h - v) && qs.all fun z => decide (z ≤ mx)))
theorem blOk_iff {w h mx : Int} {zs : List Int} {u v qm : Int} {qs : List Int} {x y : Int} : blOk w h mx zs u v qm qs x y = true ↔ pValid w h mx zs = true ∧ pValid u v qm qs = true ∧ (0 ≤ x ∧ x ≤ w - u ∧ 0 ≤ y ∧ y ≤ h - v) ∧ ∀ z ∈ qs, z ≤ mx := by
  simp [blOk]
theorem blOk_no {w h mx : Int} {zs : List Int} {u v qm : Int} {qs : List Int} {x y : Int} (hn : ¬ (pValid w h mx zs = true ∧ pValid u v qm qs = true ∧ (0 ≤ x ∧ x ≤ w - u ∧ 0 ≤ y ∧ y ≤ h - v) ∧ ∀ z ∈ qs, z ≤ mx)) : blOk w h mx zs u v qm qs x y = false := by
  rw [← Bool.not_eq_true, blOk_iff]; exact hn
def blIf (w h mx : Int) (zs : List Int) (u v qm : Int) (qs : List Int) (x y z : Int) : Int := if blOk w h mx zs u v qm qs x y = true then z else 0
/-- The first numbers of a row of a plane. -/
def bRow (qs : List Int) (qw k j : Nat) : List Int := (List.range j).map fun b => qs.getD (k * qw + b) 0
/-- A plane's pixels with the first k rows of another laid over them. -/
def bl (zs qs : List Int) (nw X Y qw : Nat) : Nat → List Int
  | 0 => zs
  | k + 1 => splice (bl zs qs nw X Y qw k) ((Y + k) * nw + X) (bRow qs qw k qw)
theorem bRow_len (qs : List Int) (qw k j : Nat) : (bRow qs qw k j).length = j := by simp [bRow]
theorem bRow_next (qs : List Int) (qw k j : Nat) : bRow qs qw k (j + 1) = bRow qs qw k j ++ [qs.getD (k * qw + j) 0] := by simp [bRow, List.range_succ]
theorem bRow_part {qs : List Int} {qw k : Nat} (h : k * qw + qw ≤ qs.length) : (qs.drop (k * qw)).take qw = bRow qs qw k qw := by
  refine List.ext_getElem (by simp [bRow]; omega) fun i h1 h2 => ?_
  simp [bRow] at h1 h2
  simp only [bRow, List.getElem_take, List.getElem_drop, List.getElem_map, List.getElem_range]
  rw [List.getD_eq_getElem?_getD, List.getElem?_eq_getElem (by omega)]
  rfl
theorem row_fits {nh nw X Y qw qh k : Nat} (hx : X + qw ≤ nw) (hy : Y + qh ≤ nh) (hk : k < qh) : (Y + k) * nw + X + qw ≤ nh * nw := by
  have e1 : (Y + k + 1) * nw ≤ nh * nw := Nat.mul_le_mul_right _ (by omega)
  rw [Nat.add_mul, Nat.one_mul] at e1
  omega
theorem bl_len {zs qs : List Int} {nh nw X Y qw qh : Nat} (hl : zs.length = nh * nw) (hx : X + qw ≤ nw) (hy : Y + qh ≤ nh) : ∀ {k : Nat}, k ≤ qh → (bl zs qs nw X Y qw k).length = zs.length
  | 0, _ => rfl
  | k + 1, hk => by
    have ih := bl_len (qs := qs) hl hx hy (k := k) (by omega)
    show (splice _ _ _).length = _
    rw [length_splice _ _ _ (by rw [bRow_len, ih, hl]; exact row_fits hx hy (by omega)), ih]
theorem splice_nil {α : Type} (L : List α) (off : Nat) : splice L off [] = L := by simp [splice]
theorem splice_set {L : List Int} {off : Nat} {cs : List Int} {v : Int} (h : off + cs.length < L.length) : (splice L off cs).set (off + cs.length) v = splice L off (cs ++ [v]) := by
  unfold splice
  have e : (L.take off).length = off := by rw [List.length_take]; omega
  rw [List.set_append_right _ _ (by rw [e]; omega), e, show off + cs.length - off = cs.length by omega, List.set_append_right _ _ (by omega), Nat.sub_self]
  congr 1
  rw [List.drop_eq_getElem_cons h, List.set_cons_zero, List.append_assoc, List.length_append, List.singleton_append]
  congr 2
def blList (w h mx : Int) (zs : List Int) (u v qm : Int) (qs : List Int) (x y : Int) : List Int :=
  if blOk w h mx zs u v qm qs x y = true then bl zs qs w.toNat x.toNat y.toNat u.toNat v.toNat else []
def BlitPost (w h mx : Int) (zs : List Int) (u v qm : Int) (qs : List Int) (x y : Int) (W : World) (e : Ending) (w' : World) : Prop :=
  ∃ t, e = .returned (.tuple #[.agg #[.int .i64 (blIf w h mx zs u v qm qs x y w), .int .i64 (blIf w h mx zs u v qm qs x y h), .int .i64 (blIf w h mx zs u v qm qs x y mx), t], .bool (blOk w h mx zs u v qm qs x y)]) ∧
    Own W.heap.size w' t (blList w h mx zs u v qm qs x y) ∧ Below W.heap.size W w'
theorem blit_no {w h mx : Int} {zs : List Int} {u v qm : Int} {qs : List Int} {x y : Int} {W w' : World} (hk : blOk w h mx zs u v qm qs x y = false) (hb : Below W.heap.size W w') :
    BlitPost w h mx zs u v qm qs x y W (.returned (.tuple #[.agg #[.int .i64 0, .int .i64 0, .int .i64 0, .slice none 0 0], .bool false])) w' := by
  have hi : ∀ z, blIf w h mx zs u v qm qs x y z = 0 := fun z => by unfold blIf; rw [hk]; simp
  refine ⟨_, by rw [hi, hi, hi, hk], ?_, hb⟩
  have : blList w h mx zs u v qm qs x y = [] := by unfold blList; rw [hk]; simp
  rw [this]; exact Own.nil _ _
end

section
open Go.RowKit
attribute [local go_sem ↓] Go.wp_at_zero Go.wp_at_succ
set_option linter.unusedVariables false
set_option linter.unusedSimpArgs false
end

section
open Go.RowKit
attribute [local go_sem ↓] Go.wp_at_zero Go.wp_at_succ
set_option linter.unusedVariables false
set_option linter.unusedSimpArgs false

theorem bIdx_bd {i n p : Int} (h : bOk i n p = true) : 1 ≤ n ∧ n ≤ 128 ∧ 0 ≤ bIdx i n p ∧ bIdx i n p < n := by
  by_cases h1 : n < 1
  · simp [bOk, h1] at h
  by_cases h2 : 128 < n
  · simp [bOk, h1, h2] at h
  obtain ⟨m1, m2⟩ : 0 ≤ i % (2 * n) ∧ i % (2 * n) < 2 * n := ⟨Int.emod_nonneg _ (by omega), Int.emod_lt_of_pos _ (by omega)⟩
  obtain ⟨m3, m4⟩ : 0 ≤ i % n ∧ i % n < n := ⟨Int.emod_nonneg _ (by omega), Int.emod_lt_of_pos _ (by omega)⟩
  refine ⟨by omega, by omega, ?_⟩
  unfold bIdx
  rw [if_neg h1, if_neg h2]
  repeat' split
  all_goals omega
def pPix (w h : Int) (zs : List Int) (p f x y : Int) : Int := if bOk x w p = true ∧ bOk y h p = true then zs.getD (bIdx y h p * w + bIdx x w p).toNat 0 else f
def pAt (w h mx : Int) (zs : List Int) (p f x y : Int) : Int := if pValid w h mx zs = true ∧ bValid p f mx = true then pPix w h zs p f x y else 0

def EdgePost (B0 k : Nat) (W : World) (e : Ending) (w' : World) : Prop := ∃ p f : Int, e = .returned (.agg #[.int .i64 p, .int .i64 f]) ∧ TapeB B0 w' k ∧ W.grownBy w' (some k)

section
variable {B0 k B : Nat} {W w : World} {l : List Ch}
theorem gen_tcode {P : Program} {c : Code} {Q : Exit → Act → World → Prop} {a : Act} (h : Tk B0 k B W l w) (q : ∀ w', Tk B0 k B W l w' → c.wp P Q a w') : c.wp P Q a w := q w h
theorem gen_tlist {P : Program} {ops : Array Oper} {Q : Exit → Act → World → Prop} {o : List Oper} {a : Act} (h : Tk B0 k B W l w) (q : ∀ w', Tk B0 k B W l w' → wpList P ops Q o a w') : wpList P ops Q o a w := q w h
theorem gen_tcalls {P : Program} {f : Nat} {args : Array Value} {post : Ending → World → Prop} (h : Tk B0 k B W l w) (q : ∀ w', Tk B0 k B W l w' → Calls P f args w' post) : Calls P f args w post := q w h
end
set_option maxRecDepth 100000 in
set_option maxHeartbeats 1600000 in
theorem edge_any (B0 k : Nat) (m : Int) (W : World) (ht : TapeB B0 W k) :
    Calls Try.prog 38 #[.pointer (some ⟨k, 0, none⟩), .int .i64 m] W (EdgePost B0 k W) := by
  obtain ⟨B, hB⟩ : ∃ B, W.heap.size = B := ⟨_, rfl⟩
  have HI0 := hid (Tk.init ht hB)
  clear ht
  go_enter Try.func38, Try.ntmps38
  go_upto_region 1 with fail
  have H87 := hid (show Tk B0 k B W [.cells B #[.int .i64 0, .int .i64 0] 29] (W.alloc (.cells #[.int .i64 0, .int .i64 0] 29)) from (HI0.out.alloc #[.int .i64 0, .int .i64 0] 29 hB))
  first | refine gen_tcode H87.out ?_ | refine gen_tlist H87.out ?_ | refine gen_tcalls H87.out ?_
  intro w88 hG
  clear H87
  have H87 := hid hG
  clear hG
  go_wp2_with fail
  refine (nextB_any B0 k _ _ (by omega) (H87.out.tape)).mono ?_
  rintro e w90 ⟨x89, rfl, x89a, x89b, htn, hgn, hsn⟩
  have H91 := hid (H87.out.next htn hgn)
  clear htn hgn hsn
  obtain ⟨D92, hD92⟩ : ∃ D, w90.heap.size = D := ⟨_, rfl⟩
  go_upto_region 2 with fail
  have H93 := hid (show Tk B0 k B W [.cells D92 #[.int .i64 x89, .int .i64 0] 29, .cells B #[.int .i64 0, .int .i64 0] 29] (w90.alloc (.cells #[.int .i64 x89, .int .i64 0] 29)) from (H91.out.alloc #[.int .i64 x89, .int .i64 0] 29 hD92))
  first | refine gen_tcode H93.out ?_ | refine gen_tlist H93.out ?_ | refine gen_tcalls H93.out ?_
  intro w94 hG
  clear H93
  have H93 := hid hG
  clear hG
  clear hD92
  by_cases hz : x89 = 3
  · skip
    have hz1 : (x89 == 3) = true := by simpa using hz
    have HZZ := hid hz
    clear hz
    obtain ⟨m2, hm3⟩ : ∃ q, wrap64 (m.tdiv 2) = q := ⟨_, rfl⟩
    have z95 := H93.out.cell 0 rfl 0 rfl
    have z96 := H93.out.cell 0 rfl 1 rfl
    go_upto_region 3 with fail
    clear z95 z96
    obtain ⟨D97, hD97⟩ : ∃ D, w94.heap.size = D := ⟨_, rfl⟩
    go_wp2_with fail
    have H98 := hid (show Tk B0 k B W [.cells D97 #[.int .i64 0, .int .i64 m, .int .i64 m2] 3, .cells D92 #[.int .i64 x89, .int .i64 0] 29, .cells B #[.int .i64 0, .int .i64 0] 29] (w94.alloc (.cells #[.int .i64 0, .int .i64 m, .int .i64 m2] 3)) from (H93.out.alloc #[.int .i64 0, .int .i64 m, .int .i64 m2] 3 hD97))
    first | refine gen_tcode H98.out ?_ | refine gen_tlist H98.out ?_ | refine gen_tcalls H98.out ?_
    intro w99 hG
    clear H98
    have H98 := hid hG
    clear hG
    clear hD97
    refine (pickB_any B0 k _ 3 3 [0, m, m2] _ (by omega) (by omega) (H98.out.tape) (H98.out.lit 0 [0, m, m2] rfl (by simp)).row (H98.out.far 0 rfl _)).mono ?_
    rintro e w101 ⟨x100, rfl, hx100, htn, hgn, hsn⟩
    have H102 := hid (H98.out.next htn hgn)
    clear htn hgn hsn
    clear hx100
    have z103 := H102.out.cell 1 rfl 0 rfl
    have z104 := H102.out.free 1 rfl 0
    have z105 := H102.out.cell 1 rfl 1 rfl
    have z106 := H102.out.free 1 rfl 1
    go_upto_region 4 with fail
    clear z103 z104 z105 z106
    have H107 := hid (show Tk B0 k B W [.cells D97 #[.int .i64 0, .int .i64 m, .int .i64 m2] 3, .cells D92 #[.int .i64 x89, .int .i64 x100] 29, .cells B #[.int .i64 0, .int .i64 0] 29] (w101.setCell ⟨D92, 1, none⟩ (.int .i64 x100)) from (H102.out.set 1 rfl 1 (.int .i64 x100)))
    first | refine gen_tcode H107.out ?_ | refine gen_tlist H107.out ?_ | refine gen_tcalls H107.out ?_
    intro w108 hG
    clear H107
    have H107 := hid hG
    clear hG
    have z109 := H107.out.cell 1 rfl 0 rfl
    have z110 := H107.out.cell 1 rfl 1 rfl
    have z111 := H107.out.cell 2 rfl 0 rfl
    have z112 := H107.out.free 2 rfl 0
    have z113 := H107.out.cell 2 rfl 1 rfl
    have z114 := H107.out.free 2 rfl 1
    go_wp2_with fail
    clear z109 z110 z111 z112 z113 z114
    have H115 := hid (show Tk B0 k B W [.cells D97 #[.int .i64 0, .int .i64 m, .int .i64 m2] 3, .cells D92 #[.int .i64 x89, .int .i64 x100] 29, .cells B #[.int .i64 x89, .int .i64 x100] 29] ((w108.setCell ⟨B, 0, none⟩ (.int .i64 x89)).setCell ⟨B, 1, none⟩ (.int .i64 x100)) from ((H107.out.set 2 rfl 0 (.int .i64 x89)).set 2 rfl 1 (.int .i64 x100)))
    have q116 := H115.out.cell 2 rfl 0 rfl
    have q117 := H115.out.cell 2 rfl 1 rfl
    refine bodyPost_ret (v := .agg #[.int .i64 x89, .int .i64 x100]) ?_ rfl ⟨x89, x100, rfl, H115.out.tape, H115.out.grown⟩
    simp [results, Try.results38, go_sem, q116, q117]
  · skip
    have hz1 : (x89 == 3) = false := by simpa using hz
    have z118 := H93.out.cell 0 rfl 0 rfl
    have z119 := H93.out.cell 0 rfl 1 rfl
    have z120 := H93.out.cell 1 rfl 0 rfl
    have z121 := H93.out.free 1 rfl 0
    have z122 := H93.out.cell 1 rfl 1 rfl
    have z123 := H93.out.free 1 rfl 1
    go_wp2_with fail
    clear z118 z119 z120 z121 z122 z123
    have H124 := hid (show Tk B0 k B W [.cells D92 #[.int .i64 x89, .int .i64 0] 29, .cells B #[.int .i64 x89, .int .i64 0] 29] ((w94.setCell ⟨B, 0, none⟩ (.int .i64 x89)).setCell ⟨B, 1, none⟩ (.int .i64 0)) from ((H93.out.set 1 rfl 0 (.int .i64 x89)).set 1 rfl 1 (.int .i64 0)))
    have q125 := H124.out.cell 1 rfl 0 rfl
    have q126 := H124.out.cell 1 rfl 1 rfl
    refine bodyPost_ret (v := .agg #[.int .i64 x89, .int .i64 0]) ?_ rfl ⟨x89, 0, rfl, H124.out.tape, H124.out.grown⟩
    simp [results, Try.results38, go_sem, q125, q126]
end

section
open Go.RowKit
set_option linter.unusedVariables false

theorem crop_ok {w h mx : Int} {zs : List Int} {r0 r1 r2 r3 : Int} (hv : pValid w h mx zs = true) (hin : 0 ≤ r0 ∧ r0 < r2 ∧ r2 ≤ w ∧ 0 ≤ r1 ∧ r1 < r3 ∧ r3 ≤ h) : cOk w h mx zs r0 r1 r2 r3 = true := by
  obtain ⟨p1, p2, p3, p4, _, _, _⟩ := pOk_iff.1 (pValid_iff.1 hv).1
  unfold cOk
  rw [hv, (inside_iff p1 p2 p3 p4).2 hin]; rfl
theorem cAll_len (w : Int) (zs : List Int) (r0 r1 r2 r3 : Int) : (cAll w zs r0 r1 r2 r3).length = (r3 - r1).toNat * (r2 - r0).toNat := by unfold cAll; rw [gridL_len]; rfl
theorem crop_valid {w h mx : Int} {zs : List Int} {r0 r1 r2 r3 : Int} (hv : pValid w h mx zs = true) (hin : 0 ≤ r0 ∧ r0 < r2 ∧ r2 ≤ w ∧ 0 ≤ r1 ∧ r1 < r3 ∧ r3 ≤ h) : pValid (r2 - r0) (r3 - r1) mx (cAll w zs r0 r1 r2 r3) = true := by
  obtain ⟨p1, p2, p3, p4, p5, p6, p7⟩ := pOk_iff.1 (pValid_iff.1 hv).1
  have e1 := Int.mul_le_mul (a := r2 - r0) (c := w) (b := r3 - r1) (d := h) (by omega) (by omega) (by omega) (by omega)
  obtain ⟨a, ha⟩ : ∃ a : Nat, r2 - r0 = a := ⟨(r2 - r0).toNat, by omega⟩
  obtain ⟨b, hb⟩ : ∃ b : Nat, r3 - r1 = b := ⟨(r3 - r1).toNat, by omega⟩
  refine pValid_iff.2 ⟨pOk_iff.2 (by omega), ?_, ?_⟩
  · rw [cAll_len, ha, hb, Int.mul_comm]; simp
  · unfold cAll
    exact (gridL_all _ _ _).2 fun a _ b _ => tPix_bd hv r0 r1 a b
theorem blit_ok {w h mx : Int} {zs : List Int} {u v : Int} {qs : List Int} {x y : Int} (hv : pValid w h mx zs = true) (hq : pValid u v mx qs = true) (hin : 0 ≤ x ∧ x ≤ w - u ∧ 0 ≤ y ∧ y ≤ h - v) : blOk w h mx zs u v mx qs x y = true :=
  blOk_iff.2 ⟨hv, hq, hin, fun z hz => ((pValid_iff.1 hq).2.2 z hz).2⟩
theorem valid_len {w h mx : Int} {zs : List Int} (hv : pValid w h mx zs = true) : 1 ≤ zs.length ∧ zs.length ≤ 4096 := by
  obtain ⟨p1, p2, p3, p4, p5, _, _⟩ := pOk_iff.1 (pValid_iff.1 hv).1
  have e := (pValid_iff.1 hv).2.1
  have e1 := Int.mul_le_mul (a := 1) (c := w) (b := 1) (d := h) p1 p3 (by omega) (by omega)
  omega
theorem splice_getD (L cs : List Int) (off i : Nat) (h : off + cs.length ≤ L.length) : (splice L off cs).getD i 0 = if off ≤ i ∧ i < off + cs.length then cs.getD (i - off) 0 else L.getD i 0 := by
  unfold splice
  have e : (L.take off).length = off := by rw [List.length_take]; omega
  rw [List.getD_eq_getElem?_getD, List.getElem?_append, e]
  by_cases h1 : i < off
  · rw [if_pos h1, if_neg (by omega), List.getElem?_take_of_lt h1, List.getD_eq_getElem?_getD]
  · rw [if_neg h1, List.getElem?_append]
    by_cases h2 : i - off < cs.length
    · rw [if_pos h2, if_pos (by omega), List.getD_eq_getElem?_getD]
    · rw [if_neg h2, if_neg (by omega), List.getElem?_drop, List.getD_eq_getElem?_getD]
      congr 2; omega
theorem bRow_getD (qs : List Int) (qw k b : Nat) (hb : b < qw) : (bRow qs qw k qw).getD b 0 = qs.getD (k * qw + b) 0 := by
  simp [bRow, List.getD_eq_getElem?_getD, hb]
/-- A pixel behind a blit. -/
theorem bl_at {zs qs : List Int} {nh nw X Y qw qh : Nat} (hl : zs.length = nh * nw) (hx : X + qw ≤ nw) (hy : Y + qh ≤ nh) {r c : Nat} (hc : c < nw) :
    ∀ {k : Nat}, k ≤ qh → (bl zs qs nw X Y qw k).getD (r * nw + c) 0 = if X ≤ c ∧ c < X + qw ∧ Y ≤ r ∧ r < Y + k then qs.getD ((r - Y) * qw + (c - X)) 0 else zs.getD (r * nw + c) 0
  | 0, _ => by rw [if_neg (by omega)]; rfl
  | k + 1, hk => by
    have ih := bl_at (qs := qs) hl hx hy (r := r) hc (k := k) (by omega)
    have hfit := row_fits (nh := nh) hx hy (k := k) (by omega)
    show (splice _ _ _).getD _ 0 = _
    rw [splice_getD _ _ _ _ (by rw [bRow_len, bl_len hl hx hy (by omega), hl]; exact hfit), bRow_len, ih]
    rcases Nat.lt_trichotomy r (Y + k) with h | h | h
    · have e1 : (r + 1) * nw ≤ (Y + k) * nw := Nat.mul_le_mul_right _ (by omega)
      rw [Nat.add_mul, Nat.one_mul] at e1
      rw [if_neg (by omega)]
      by_cases h2 : X ≤ c ∧ c < X + qw ∧ Y ≤ r
      · rw [if_pos (by omega), if_pos (by omega)]
      · rw [if_neg (by omega), if_neg (by omega)]
    · subst h
      by_cases h2 : X ≤ c ∧ c < X + qw
      · rw [if_pos (by omega), if_pos (by omega), show (Y + k) * nw + c - ((Y + k) * nw + X) = c - X by omega, bRow_getD _ _ _ _ (by omega), show Y + k - Y = k by omega]
      · rw [if_neg (by omega), if_neg (by omega), if_neg (by omega)]
    · have e1 : (Y + k + 1) * nw ≤ r * nw := Nat.mul_le_mul_right _ (by omega)
      rw [Nat.add_mul, Nat.one_mul] at e1
      rw [if_neg (by omega), if_neg (by omega), if_neg (by omega)]
theorem tPix_nat (zs : List Int) (nw X Y a b : Nat) : tPix (nw : Int) zs (X : Int) (Y : Int) a b = zs.getD ((Y + a) * nw + (X + b)) 0 := by
  unfold tPix
  congr 1
  have : ((Y : Int) + (a : Int)) * (nw : Int) = (((Y + a) * nw : Nat) : Int) := by simp
  rw [this]
  omega
/-- Cropping what was blitted gives it back. -/
theorem crop_blit {zs qs : List Int} {nh nw X Y qw qh : Nat} (hl : zs.length = nh * nw) (hq : qs.length = qh * qw) (hw : 0 < qw) (hx : X + qw ≤ nw) (hy : Y + qh ≤ nh) : gridL (tPix (nw : Int) (bl zs qs nw X Y qw qh) (X : Int) (Y : Int)) qw qh 0 = qs := by
  refine eq_of_getD (by rw [gridL_len, hq]; rfl) fun i hi => ?_
  rw [gridL_len] at hi
  have hk : i / qw < qh := (Nat.div_lt_iff_lt_mul hw).2 (by omega)
  have hj := Nat.mod_lt i hw
  have e := Nat.div_add_mod i qw
  rw [Nat.mul_comm] at e
  obtain ⟨a, ha⟩ : ∃ a, i / qw = a := ⟨_, rfl⟩
  obtain ⟨b, hb⟩ : ∃ b, i % qw = b := ⟨_, rfl⟩
  rw [ha, hb] at e
  rw [ha] at hk
  rw [hb] at hj
  rw [← e, gridL_get _ qw qh 0 a b hj (.inl hk), tPix_nat, bl_at hl hx hy (by omega) (Nat.le_refl _), if_pos (by omega), show Y + a - Y = a by omega, show X + b - X = b by omega]
/-- Blitting a crop at its place changes nothing. -/
theorem blit_crop {zs : List Int} {nh nw X Y qw qh : Nat} (hl : zs.length = nh * nw) (hw : 0 < nw) (hx : X + qw ≤ nw) (hy : Y + qh ≤ nh) : bl zs (gridL (tPix (nw : Int) zs (X : Int) (Y : Int)) qw qh 0) nw X Y qw qh = zs := by
  refine eq_of_getD (bl_len hl hx hy (Nat.le_refl _)) fun i hi => ?_
  have hj := Nat.mod_lt i hw
  have e := Nat.div_add_mod i nw
  rw [Nat.mul_comm] at e
  obtain ⟨r, hr⟩ : ∃ a, i / nw = a := ⟨_, rfl⟩
  obtain ⟨c, hc⟩ : ∃ b, i % nw = b := ⟨_, rfl⟩
  rw [hr, hc] at e
  rw [hc] at hj
  rw [← e, bl_at hl hx hy hj (Nat.le_refl _)]
  by_cases h : X ≤ c ∧ c < X + qw ∧ Y ≤ r ∧ r < Y + qh
  · rw [if_pos h, gridL_get _ qw qh 0 (r - Y) (c - X) (by omega) (.inl (by omega)), tPix_nat, show Y + (r - Y) = r by omega, show X + (c - X) = c by omega]
  · rw [if_neg h]
/-- The same of whole planes. -/
theorem dims {w h mx : Int} {zs : List Int} {r0 r1 r2 r3 : Int} (hv : pValid w h mx zs = true) (hin : 0 ≤ r0 ∧ r0 < r2 ∧ r2 ≤ w ∧ 0 ≤ r1 ∧ r1 < r3 ∧ r3 ≤ h) :
    ∃ nw nh X Y qw qh : Nat, w = nw ∧ h = nh ∧ r0 = X ∧ r1 = Y ∧ r2 - r0 = qw ∧ r3 - r1 = qh ∧ zs.length = nh * nw ∧ 0 < nw ∧ 0 < qw ∧ X + qw ≤ nw ∧ Y + qh ≤ nh := by
  obtain ⟨p1, p2, p3, p4, p5, _, _⟩ := pOk_iff.1 (pValid_iff.1 hv).1
  have e := (pValid_iff.1 hv).2.1
  refine ⟨w.toNat, h.toNat, r0.toNat, r1.toNat, (r2 - r0).toNat, (r3 - r1).toNat, by omega, by omega, by omega, by omega, by omega, by omega, ?_, by omega, by omega, by omega, by omega⟩
  obtain ⟨nw, hnw⟩ : ∃ m : Nat, w = m := ⟨w.toNat, by omega⟩
  obtain ⟨nh, hnh⟩ : ∃ m : Nat, h = m := ⟨h.toNat, by omega⟩
  subst hnw hnh
  rw [Int.mul_comm] at e
  exact_mod_cast e
theorem cAll_nat {zs : List Int} {nw X Y qw qh : Nat} {w r0 r1 r2 r3 : Int} (e1 : w = nw) (e3 : r0 = X) (e4 : r1 = Y) (e5 : r2 - r0 = qw) (e6 : r3 - r1 = qh) : cAll w zs r0 r1 r2 r3 = gridL (tPix (nw : Int) zs (X : Int) (Y : Int)) qw qh 0 := by
  unfold cAll
  rw [e5, e6, e1, e3, e4]; rfl
theorem blit_crop' {w h mx : Int} {zs : List Int} {r0 r1 r2 r3 : Int} (hv : pValid w h mx zs = true) (hin : 0 ≤ r0 ∧ r0 < r2 ∧ r2 ≤ w ∧ 0 ≤ r1 ∧ r1 < r3 ∧ r3 ≤ h) : bl zs (cAll w zs r0 r1 r2 r3) w.toNat r0.toNat r1.toNat (r2 - r0).toNat (r3 - r1).toNat = zs := by
  obtain ⟨nw, nh, X, Y, qw, qh, e1, e2, e3, e4, e5, e6, hl, h1, h2, hx, hy⟩ := dims hv hin
  rw [cAll_nat e1 e3 e4 e5 e6, e5, e6, e1, e3, e4]
  exact blit_crop hl h1 hx hy
theorem qlen {u v mx : Int} {qs : List Int} {qw qh : Nat} (hq : pValid u v mx qs = true) (e5 : u = qw) (e6 : v = qh) : qs.length = qh * qw := by
  have e := (pValid_iff.1 hq).2.1
  rw [e5, e6, Int.mul_comm] at e
  exact_mod_cast e
theorem crop_blit' {w h mx : Int} {zs qs : List Int} {r0 r1 r2 r3 : Int} (hv : pValid w h mx zs = true) (hin : 0 ≤ r0 ∧ r0 < r2 ∧ r2 ≤ w ∧ 0 ≤ r1 ∧ r1 < r3 ∧ r3 ≤ h) (hq : pValid (r2 - r0) (r3 - r1) mx qs = true) :
    cAll w (bl zs qs w.toNat r0.toNat r1.toNat (r2 - r0).toNat (r3 - r1).toNat) r0 r1 r2 r3 = qs := by
  obtain ⟨nw, nh, X, Y, qw, qh, e1, e2, e3, e4, e5, e6, hl, h1, h2, hx, hy⟩ := dims hv hin
  rw [cAll_nat e1 e3 e4 e5 e6, e5, e6, e1, e3, e4]
  exact crop_blit hl (qlen hq e5 e6) h2 hx hy
theorem blit_valid' {w h mx : Int} {zs qs : List Int} {r0 r1 r2 r3 : Int} (hv : pValid w h mx zs = true) (hin : 0 ≤ r0 ∧ r0 < r2 ∧ r2 ≤ w ∧ 0 ≤ r1 ∧ r1 < r3 ∧ r3 ≤ h) (hq : pValid (r2 - r0) (r3 - r1) mx qs = true) :
    pValid w h mx (bl zs qs w.toNat r0.toNat r1.toNat (r2 - r0).toNat (r3 - r1).toNat) = true := by
  obtain ⟨nw, nh, X, Y, qw, qh, e1, e2, e3, e4, e5, e6, hl, h1, h2, hx, hy⟩ := dims hv hin
  have hql := qlen hq e5 e6
  have hlen := bl_len (qs := qs) hl hx hy (Nat.le_refl qh)
  rw [e5, e6, e1, e3, e4]
  refine pValid_iff.2 ⟨by rw [← e1]; exact (pValid_iff.1 hv).1, ?_, fun v hv' => ?_⟩
  · simp only [Int.toNat_natCast]
    rw [hlen, ← e1]; exact (pValid_iff.1 hv).2.1
  · simp only [Int.toNat_natCast] at hv'
    obtain ⟨i, hi, rfl⟩ := mem_getD' hv'
    rw [hlen, hl] at hi
    have hj := Nat.mod_lt i h1
    have e := Nat.div_add_mod i nw
    rw [Nat.mul_comm] at e
    have hk : i / nw < nh := (Nat.div_lt_iff_lt_mul h1).2 (by omega)
    obtain ⟨r, hr⟩ : ∃ a, i / nw = a := ⟨_, rfl⟩
    obtain ⟨c, hc⟩ : ∃ b, i % nw = b := ⟨_, rfl⟩
    rw [hr, hc] at e
    rw [hc] at hj
    rw [← e, bl_at hl hx hy hj (Nat.le_refl _)]
    split
    · rename_i hin2
      refine (pValid_iff.1 hq).2.2 _ (getD_mem' ?_)
      have : (r - Y + 1) * qw ≤ qh * qw := Nat.mul_le_mul_right _ (by omega)
      rw [Nat.add_mul, Nat.one_mul] at this
      omega
    · exact (pValid_iff.1 hv).2.2 _ (getD_mem' (by rw [e, hl]; omega))
theorem bl_out' {w h mx : Int} {zs qs : List Int} {r0 r1 r2 r3 : Int} (hv : pValid w h mx zs = true) (hin : 0 ≤ r0 ∧ r0 < r2 ∧ r2 ≤ w ∧ 0 ≤ r1 ∧ r1 < r3 ∧ r3 ≤ h) {n : Nat} (hn : n < zs.length)
    (ho : ¬ (r0 ≤ (n : Int) % w ∧ (n : Int) % w < r2 ∧ r1 ≤ (n : Int) / w ∧ (n : Int) / w < r3)) : (bl zs qs w.toNat r0.toNat r1.toNat (r2 - r0).toNat (r3 - r1).toNat).getD n 0 = zs.getD n 0 := by
  obtain ⟨nw, nh, X, Y, qw, qh, e1, e2, e3, e4, e5, e6, hl, h1, h2, hx, hy⟩ := dims hv hin
  have hj := Nat.mod_lt n h1
  have e := Nat.div_add_mod n nw
  rw [Nat.mul_comm] at e
  have c1 : (n : Int) % w = ((n % nw : Nat) : Int) := by rw [e1]; simp
  have c2 : (n : Int) / w = ((n / nw : Nat) : Int) := by rw [e1]; simp
  rw [c1, c2] at ho
  obtain ⟨r, hr⟩ : ∃ a, n / nw = a := ⟨_, rfl⟩
  obtain ⟨c, hc⟩ : ∃ b, n % nw = b := ⟨_, rfl⟩
  rw [hr, hc] at ho e
  rw [hc] at hj
  rw [e5, e6, e1, e3, e4]
  simp only [Int.toNat_natCast]
  rw [← e, bl_at hl hx hy hj (Nat.le_refl _), if_neg (by omega)]
end
end Go.Proofs.Ytlidacfokgdlgaa
