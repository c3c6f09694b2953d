/-
  Contracts: blits, in the program and in the reference. Contract: blits, in the reference. Plain law: crops and blits of planes: what fits, what is read back, what stays.
-/
import Derived.Test.YtoojiabdgaflgaaKI
import Derived.Test.YtoojiabdgaflgaaKD
namespace Go.Proofs.Ytoojiabdgaflgaa
section
open Go.RowKit
attribute [local go_sem ↓] Go.wp_at_zero Go.wp_at_succ
set_option linter.unusedVariables false
set_option linter.unusedSimpArgs false

def blOk (w h mx : Int) (zs : List Int) (u v qm : Int) (qs : List Int) (x y : Int) : Bool :=
  pValid w h mx zs && (pValid u v qm qs && (decide (0 ≤ x ∧ x ≤ w - u ∧ 0 ≤ y ∧ y ≤ h - v) && qs.all fun z => decide (z ≤ mx)))
theorem blOk_iff {w h mx : Int} {zs : List Int} {u v qm : Int} {qs : List Int} {x y : Int} : blOk w h mx zs u v qm qs x y = true ↔ pValid w h mx zs = true ∧ pValid u v qm qs = true ∧ (0 ≤ x ∧ x ≤ w - u ∧ 0 ≤ y ∧ y ≤ h - v) ∧ ∀ z ∈ qs, z ≤ mx := by
  simp [blOk]
theorem blOk_no {w h mx : Int} {zs : List Int} {u v qm : Int} {qs : List Int} {x y : Int} (hn : ¬ (pValid w h mx zs = true ∧ pValid u v qm qs = true ∧ (0 ≤ x ∧ x ≤ w - u ∧ 0 ≤ y ∧ y ≤ h - v) ∧ ∀ z ∈ qs, z ≤ mx)) : blOk w h mx zs u v qm qs x y = false := by
  rw [← Bool.not_eq_true, blOk_iff]; exact hn
def blIf (w h mx : Int) (zs : List Int) (u v qm : Int) (qs : List Int) (x y z : Int) : Int := if blOk w h mx zs u v qm qs x y = true then z else 0
/-- The first numbers of a row of a plane. -/
def bRow (qs : List Int) (qw k j : Nat) : List Int := (List.range j).map fun b => qs.getD (k * qw + b) 0
/-- A plane's pixels with the first k rows of another laid over them. -/
def bl (zs qs : List Int) (nw X Y qw : Nat) : Nat → List Int
  | 0 => zs
  | k + 1 => splice (bl zs qs nw X Y qw k) ((Y + k) * nw + X) (bRow qs qw k qw)
theorem bRow_len (qs : List Int) (qw k j : Nat) : (bRow qs qw k j).length = j := by simp [bRow]
theorem bRow_next (qs : List Int) (qw k j : Nat) : bRow qs qw k (j + 1) = bRow qs qw k j ++ [qs.getD (k * qw + j) 0] := by simp [bRow, List.range_succ]
theorem bRow_part {qs : List Int} {qw k : Nat} (h : k * qw + qw ≤ qs.length) : (qs.drop (k * qw)).take qw = bRow qs qw k qw := by
  refine List.ext_getElem (by simp [bRow]; omega) fun i h1 h2 => ?_
  simp [bRow] at h1 h2
  simp only [bRow, List.getElem_take, List.getElem_drop, List.getElem_map, List.getElem_range]
  rw [List.getD_eq_getElem?_getD, List.getElem?_eq_getElem (by omega)]
  rfl
theorem row_fits {nh nw X Y qw qh k : Nat} (hx : X + qw ≤ nw) (hy : Y + qh ≤ nh) (hk : k < qh) : (Y + k) * nw + X + qw ≤ nh * nw := by
  have e1 : (Y + k + 1) * nw ≤ nh * nw := Nat.mul_le_mul_right _ (by omega)
  rw [Nat.add_mul, Nat.one_mul] at e1
  omega
theorem bl_len {zs qs : List Int} {nh nw X Y qw qh : Nat} (hl : zs.length = nh * nw) (hx : X + qw ≤ nw) (hy : Y + qh ≤ nh) : ∀ {k : Nat}, k ≤ qh → (bl zs qs nw X Y qw k).length = zs.length
  | 0, _ => rfl
  | k + 1, hk => by
    have ih := bl_len (qs := qs) hl hx hy (k := k) (by omega)
    show (splice _ _ _).length = _
    rw [length_splice _ _ _ (by rw [bRow_len, ih, hl]; exact row_fits hx hy (by omega)), ih]
theorem splice_nil {α : Type} (L : List α) (off : Nat) : splice L off [] = L := by simp [splice]
theorem splice_set {L : List Int} {off : Nat} {cs : List Int} {v : Int} (h : off + cs.length < L.length) : (splice L off cs).set (off + cs.length) v = splice L off (cs ++ [v]) := by
  unfold splice
  have e : (L.take off).length = off := by rw [List.length_take]; omega
  rw [List.set_append_right _ _ (by rw [e]; omega), e, show off + cs.length - off = cs.length by omega, List.set_append_right _ _ (by omega), Nat.sub_self]
  congr 1
  rw [List.drop_eq_getElem_cons h, List.set_cons_zero, List.append_assoc, List.length_append, List.singleton_append]
  congr 2
def blList (w h mx : Int) (zs : List Int) (u v qm : Int) (qs : List Int) (x y : Int) : List Int :=
  if blOk w h mx zs u v qm qs x y = true then bl zs qs w.toNat x.toNat y.toNat u.toNat v.toNat else []
def BlitPost (w h mx : Int) (zs : List Int) (u v qm : Int) (qs : List Int) (x y : Int) (W : World) (e : Ending) (w' : World) : Prop :=
  ∃ t, e = .returned (.tuple #[.agg #[.int .i64 (blIf w h mx zs u v qm qs x y w), .int .i64 (blIf w h mx zs u v qm qs x y h), .int .i64 (blIf w h mx zs u v qm qs x y mx), t], .bool (blOk w h mx zs u v qm qs x y)]) ∧
    Own W.heap.size w' t (blList w h mx zs u v qm qs x y) ∧ Below W.heap.size W w'
theorem blit_no {w h mx : Int} {zs : List Int} {u v qm : Int} {qs : List Int} {x y : Int} {W w' : World} (hk : blOk w h mx zs u v qm qs x y = false) (hb : Below W.heap.size W w') :
    BlitPost w h mx zs u v qm qs x y W (.returned (.tuple #[.agg #[.int .i64 0, .int .i64 0, .int .i64 0, .slice none 0 0], .bool false])) w' := by
  have hi : ∀ z, blIf w h mx zs u v qm qs x y z = 0 := fun z => by unfold blIf; rw [hk]; simp
  refine ⟨_, by rw [hi, hi, hi, hk], ?_, hb⟩
  have : blList w h mx zs u v qm qs x y = [] := by unfold blList; rw [hk]; simp
  rw [this]; exact Own.nil _ _

set_option maxRecDepth 100000 in
set_option maxHeartbeats 6400000 in
theorem pblit_any (w h mx : Int) (a : Option Addr) (n c : Nat) (zs : List Int) (u v qm : Int) (a' : Option Addr) (n' c' : Nat) (qs : List Int) (x y : Int) (W : World) (hs : Slc W a n c zs) (hq : Slc W a' n' c' qs) :
    Calls Try.prog 50 #[.agg #[.int .i64 w, .int .i64 h, .int .i64 mx, .slice a n c], .agg #[.int .i64 u, .int .i64 v, .int .i64 qm, .slice a' n' c'], .int .i64 x, .int .i64 y] W (BlitPost w h mx zs u v qm qs x y W) := by
  obtain ⟨B, hB⟩ : ∃ B, W.heap.size = B := ⟨_, rfl⟩
  have HI0 := hid (St.init hB)
  have HS := hid hs
  have HL := hid hs.len
  have HQ := hid hq
  have HQL := hid hq.len
  have hqc : n' ≤ c' := hq.nc
  have hqcc : (c' : Int) ≤ 9223372036854775807 := by have := hq.cap; omega
  clear hs hq
  go_enter Try.func50, Try.ntmps50
  go_upto_region 1 with fail
  have H1 := hid (show St B W [.cells (B + 1 + 1) #[.int .i64 0, .int .i64 0, .int .i64 0, .slice none 0 0] 26, .cells (B + 1) #[.int .i64 u, .int .i64 v, .int .i64 qm, .slice a' n' c'] 26, .cells B #[.int .i64 w, .int .i64 h, .int .i64 mx, .slice a n c] 26] [] (((W.alloc (.cells #[.int .i64 w, .int .i64 h, .int .i64 mx, .slice a n c] 26)).alloc (.cells #[.int .i64 u, .int .i64 v, .int .i64 qm, .slice a' n' c'] 26)).alloc (.cells #[.int .i64 0, .int .i64 0, .int .i64 0, .slice none 0 0] 26)) from (((HI0.out.alloc #[.int .i64 w, .int .i64 h, .int .i64 mx, .slice a n c] 26 hB).alloc #[.int .i64 u, .int .i64 v, .int .i64 qm, .slice a' n' c'] 26 (by first | exact hB | simp [hB])).alloc #[.int .i64 0, .int .i64 0, .int .i64 0, .slice none 0 0] 26 (by first | exact hB | simp [hB])))
  first | refine gen_code H1.out ?_ | refine gen_list H1.out ?_ | refine gen_calls H1.out ?_
  intro w2 hG
  clear H1
  have H1 := hid hG
  clear hG
  have z3 := H1.out.cell 2 rfl 0 rfl
  have z4 := H1.out.cell 2 rfl 1 rfl
  have z5 := H1.out.cell 2 rfl 2 rfl
  have z6 := H1.out.cell 2 rfl 3 rfl
  go_wp2_with fail
  clear z3 z4 z5 z6
  refine (pvalid_any _ _ _ _ _ _ _ _ (by have := HS.out.nc; have := HS.out.cap; omega) (H1.out.old HS.out).row).mono ?_
  rintro e w7 ⟨rfl, hb⟩
  have H8 := hid (H1.out.call hb)
  clear hb
  obtain ⟨bv, hbv⟩ : ∃ b, pValid w h mx zs = b := ⟨_, rfl⟩
  rw [hbv]
  have HV := hid hbv
  clear hbv
  cases bv with
  | true =>
    have z9 := H8.out.cell 1 rfl 0 rfl
    have z10 := H8.out.cell 1 rfl 1 rfl
    have z11 := H8.out.cell 1 rfl 2 rfl
    have z12 := H8.out.cell 1 rfl 3 rfl
    go_wp2_with fail
    clear z9 z10 z11 z12
    refine (pvalid_any _ _ _ _ _ _ _ _ (by have := HQ.out.nc; have := HQ.out.cap; omega) (H8.out.old HQ.out).row).mono ?_
    rintro e w13 ⟨rfl, hb⟩
    have H14 := hid (H8.out.call hb)
    clear hb
    obtain ⟨bq, hbq⟩ : ∃ b, pValid u v qm qs = b := ⟨_, rfl⟩
    rw [hbq]
    have HVQ := hid hbq
    clear hbq
    cases bq with
    | true =>
      obtain ⟨p1, p2, p3, p4, p5, p6, p7⟩ := pOk_iff.1 (pValid_iff.1 HV.out).1
      obtain ⟨q1, q2, q3, q4, q5, q6, q7⟩ := pOk_iff.1 (pValid_iff.1 HVQ.out).1
      by_cases c15 : (x : Int) < 0
      · skip
        have z16 := H14.out.cell 0 rfl 0 rfl
        have z17 := H14.out.free 0 rfl 0
        have z18 := H14.out.cell 0 rfl 1 rfl
        have z19 := H14.out.free 0 rfl 1
        have z20 := H14.out.cell 0 rfl 2 rfl
        have z21 := H14.out.free 0 rfl 2
        have z22 := H14.out.cell 0 rfl 3 rfl
        have z23 := H14.out.free 0 rfl 3
        go_wp2_with fail
        clear z16 z17 z18 z19 z20 z21 z22 z23
        have H24 := hid (show St B W [.cells (B + 1 + 1) #[.int .i64 0, .int .i64 0, .int .i64 0, .slice none 0 0] 26, .cells (B + 1) #[.int .i64 u, .int .i64 v, .int .i64 qm, .slice a' n' c'] 26, .cells B #[.int .i64 w, .int .i64 h, .int .i64 mx, .slice a n c] 26] [] ((((w13.setCell ⟨B + 1 + 1, 0, none⟩ (.int .i64 0)).setCell ⟨B + 1 + 1, 1, none⟩ (.int .i64 0)).setCell ⟨B + 1 + 1, 2, none⟩ (.int .i64 0)).setCell ⟨B + 1 + 1, 3, none⟩ (.slice none 0 0)) from (H14.out.set4 0 rfl (.int .i64 0) (.int .i64 0) (.int .i64 0) (.slice none 0 0)))
        have HNO := hid (show blOk w h mx zs u v qm qs x y = false from blOk_no (fun hb => by have := hb.2.2.1; omega))
        have q25 := H24.out.cell 0 rfl 0 rfl
        have q26 := H24.out.cell 0 rfl 1 rfl
        have q27 := H24.out.cell 0 rfl 2 rfl
        have q28 := H24.out.cell 0 rfl 3 rfl
        refine bodyPost_ret (v := .tuple #[.agg #[.int .i64 0, .int .i64 0, .int .i64 0, .slice none 0 0], .bool false]) ?_ rfl (blit_no HNO.out (by first | exact H24.out.below | exact H24.out.below'))
        simp [results, Try.results50, go_sem, q25, q26, q27, q28]
      · skip
        by_cases c29 : (w - u : Int) < x
        · skip
          have z30 := H14.out.cell 2 rfl 0 rfl
          have z31 := H14.out.cell 2 rfl 1 rfl
          have z32 := H14.out.cell 2 rfl 2 rfl
          have z33 := H14.out.cell 2 rfl 3 rfl
          have z34 := H14.out.cell 1 rfl 0 rfl
          have z35 := H14.out.cell 1 rfl 1 rfl
          have z36 := H14.out.cell 1 rfl 2 rfl
          have z37 := H14.out.cell 1 rfl 3 rfl
          have z38 := H14.out.cell 0 rfl 0 rfl
          have z39 := H14.out.free 0 rfl 0
          have z40 := H14.out.cell 0 rfl 1 rfl
          have z41 := H14.out.free 0 rfl 1
          have z42 := H14.out.cell 0 rfl 2 rfl
          have z43 := H14.out.free 0 rfl 2
          have z44 := H14.out.cell 0 rfl 3 rfl
          have z45 := H14.out.free 0 rfl 3
          go_wp2_with fail
          clear z30 z31 z32 z33 z34 z35 z36 z37 z38 z39 z40 z41 z42 z43 z44 z45
          have H46 := hid (show St B W [.cells (B + 1 + 1) #[.int .i64 0, .int .i64 0, .int .i64 0, .slice none 0 0] 26, .cells (B + 1) #[.int .i64 u, .int .i64 v, .int .i64 qm, .slice a' n' c'] 26, .cells B #[.int .i64 w, .int .i64 h, .int .i64 mx, .slice a n c] 26] [] ((((w13.setCell ⟨B + 1 + 1, 0, none⟩ (.int .i64 0)).setCell ⟨B + 1 + 1, 1, none⟩ (.int .i64 0)).setCell ⟨B + 1 + 1, 2, none⟩ (.int .i64 0)).setCell ⟨B + 1 + 1, 3, none⟩ (.slice none 0 0)) from (H14.out.set4 0 rfl (.int .i64 0) (.int .i64 0) (.int .i64 0) (.slice none 0 0)))
          have HNO := hid (show blOk w h mx zs u v qm qs x y = false from blOk_no (fun hb => by have := hb.2.2.1; omega))
          have q47 := H46.out.cell 0 rfl 0 rfl
          have q48 := H46.out.cell 0 rfl 1 rfl
          have q49 := H46.out.cell 0 rfl 2 rfl
          have q50 := H46.out.cell 0 rfl 3 rfl
          refine bodyPost_ret (v := .tuple #[.agg #[.int .i64 0, .int .i64 0, .int .i64 0, .slice none 0 0], .bool false]) ?_ rfl (blit_no HNO.out (by first | exact H46.out.below | exact H46.out.below'))
          simp [results, Try.results50, go_sem, q47, q48, q49, q50]
        · skip
          by_cases c51 : (y : Int) < 0
          · skip
            have z52 := H14.out.cell 2 rfl 0 rfl
            have z53 := H14.out.cell 2 rfl 1 rfl
            have z54 := H14.out.cell 2 rfl 2 rfl
            have z55 := H14.out.cell 2 rfl 3 rfl
            have z56 := H14.out.cell 1 rfl 0 rfl
            have z57 := H14.out.cell 1 rfl 1 rfl
            have z58 := H14.out.cell 1 rfl 2 rfl
            have z59 := H14.out.cell 1 rfl 3 rfl
            have z60 := H14.out.cell 0 rfl 0 rfl
            have z61 := H14.out.free 0 rfl 0
            have z62 := H14.out.cell 0 rfl 1 rfl
            have z63 := H14.out.free 0 rfl 1
            have z64 := H14.out.cell 0 rfl 2 rfl
            have z65 := H14.out.free 0 rfl 2
            have z66 := H14.out.cell 0 rfl 3 rfl
            have z67 := H14.out.free 0 rfl 3
            go_wp2_with fail
            clear z52 z53 z54 z55 z56 z57 z58 z59 z60 z61 z62 z63 z64 z65 z66 z67
            have H68 := hid (show St B W [.cells (B + 1 + 1) #[.int .i64 0, .int .i64 0, .int .i64 0, .slice none 0 0] 26, .cells (B + 1) #[.int .i64 u, .int .i64 v, .int .i64 qm, .slice a' n' c'] 26, .cells B #[.int .i64 w, .int .i64 h, .int .i64 mx, .slice a n c] 26] [] ((((w13.setCell ⟨B + 1 + 1, 0, none⟩ (.int .i64 0)).setCell ⟨B + 1 + 1, 1, none⟩ (.int .i64 0)).setCell ⟨B + 1 + 1, 2, none⟩ (.int .i64 0)).setCell ⟨B + 1 + 1, 3, none⟩ (.slice none 0 0)) from (H14.out.set4 0 rfl (.int .i64 0) (.int .i64 0) (.int .i64 0) (.slice none 0 0)))
            have HNO := hid (show blOk w h mx zs u v qm qs x y = false from blOk_no (fun hb => by have := hb.2.2.1; omega))
            have q69 := H68.out.cell 0 rfl 0 rfl
            have q70 := H68.out.cell 0 rfl 1 rfl
            have q71 := H68.out.cell 0 rfl 2 rfl
            have q72 := H68.out.cell 0 rfl 3 rfl
            refine bodyPost_ret (v := .tuple #[.agg #[.int .i64 0, .int .i64 0, .int .i64 0, .slice none 0 0], .bool false]) ?_ rfl (blit_no HNO.out (by first | exact H68.out.below | exact H68.out.below'))
            simp [results, Try.results50, go_sem, q69, q70, q71, q72]
          · skip
            by_cases c73 : (h - v : Int) < y
            · skip
              have z74 := H14.out.cell 2 rfl 0 rfl
              have z75 := H14.out.cell 2 rfl 1 rfl
              have z76 := H14.out.cell 2 rfl 2 rfl
              have z77 := H14.out.cell 2 rfl 3 rfl
              have z78 := H14.out.cell 1 rfl 0 rfl
              have z79 := H14.out.cell 1 rfl 1 rfl
              have z80 := H14.out.cell 1 rfl 2 rfl
              have z81 := H14.out.cell 1 rfl 3 rfl
              have z82 := H14.out.cell 0 rfl 0 rfl
              have z83 := H14.out.free 0 rfl 0
              have z84 := H14.out.cell 0 rfl 1 rfl
              have z85 := H14.out.free 0 rfl 1
              have z86 := H14.out.cell 0 rfl 2 rfl
              have z87 := H14.out.free 0 rfl 2
              have z88 := H14.out.cell 0 rfl 3 rfl
              have z89 := H14.out.free 0 rfl 3
              go_wp2_with fail
              clear z74 z75 z76 z77 z78 z79 z80 z81 z82 z83 z84 z85 z86 z87 z88 z89
              have H90 := hid (show St B W [.cells (B + 1 + 1) #[.int .i64 0, .int .i64 0, .int .i64 0, .slice none 0 0] 26, .cells (B + 1) #[.int .i64 u, .int .i64 v, .int .i64 qm, .slice a' n' c'] 26, .cells B #[.int .i64 w, .int .i64 h, .int .i64 mx, .slice a n c] 26] [] ((((w13.setCell ⟨B + 1 + 1, 0, none⟩ (.int .i64 0)).setCell ⟨B + 1 + 1, 1, none⟩ (.int .i64 0)).setCell ⟨B + 1 + 1, 2, none⟩ (.int .i64 0)).setCell ⟨B + 1 + 1, 3, none⟩ (.slice none 0 0)) from (H14.out.set4 0 rfl (.int .i64 0) (.int .i64 0) (.int .i64 0) (.slice none 0 0)))
              have HNO := hid (show blOk w h mx zs u v qm qs x y = false from blOk_no (fun hb => by have := hb.2.2.1; omega))
              have q91 := H90.out.cell 0 rfl 0 rfl
              have q92 := H90.out.cell 0 rfl 1 rfl
              have q93 := H90.out.cell 0 rfl 2 rfl
              have q94 := H90.out.cell 0 rfl 3 rfl
              refine bodyPost_ret (v := .tuple #[.agg #[.int .i64 0, .int .i64 0, .int .i64 0, .slice none 0 0], .bool false]) ?_ rfl (blit_no HNO.out (by first | exact H90.out.below | exact H90.out.below'))
              simp [results, Try.results50, go_sem, q91, q92, q93, q94]
            · skip
              obtain ⟨nw, hnw⟩ : ∃ m : Nat, w = m := ⟨w.toNat, by omega⟩
              obtain ⟨nh, hnh⟩ : ∃ m : Nat, h = m := ⟨h.toNat, by omega⟩
              obtain ⟨qw, hqw⟩ : ∃ m : Nat, u = m := ⟨u.toNat, by omega⟩
              obtain ⟨qh, hqh⟩ : ∃ m : Nat, v = m := ⟨v.toNat, by omega⟩
              obtain ⟨X, hX⟩ : ∃ m : Nat, x = m := ⟨x.toNat, by omega⟩
              obtain ⟨Y, hY⟩ : ∃ m : Nat, y = m := ⟨y.toNat, by omega⟩
              obtain ⟨fx, fy, sx, sy, tw, th, gx, gy⟩ : X + qw ≤ nw ∧ Y + qh ≤ nh ∧ 1 ≤ qw ∧ 1 ≤ qh ∧ nw ≤ 128 ∧ nh ≤ 128 ∧ X ≤ 128 ∧ Y ≤ 128 := by omega
              have hzl : zs.length = nh * nw := by have h1 := (pValid_iff.1 HV.out).2.1; rw [hnw, hnh, Int.mul_comm] at h1; exact_mod_cast h1
              have hql : qs.length = qh * qw := by have h1 := (pValid_iff.1 HVQ.out).2.1; rw [hqw, hqh, Int.mul_comm] at h1; exact_mod_cast h1
              have HZL := hid hzl
              have HQQ := hid hql
              have hn1 : n = nh * nw := by rw [← HL.out]; exact hzl
              have hn2 : n' = qh * qw := by rw [← HQL.out]; exact hql
              obtain ⟨NN, hNN⟩ : ∃ N : Nat, nh * nw = N := ⟨_, rfl⟩
              obtain ⟨MM, hMM⟩ : ∃ N : Nat, qh * qw = N := ⟨_, rfl⟩
              have m1 : 1 ≤ MM := by rw [← hMM]; exact Nat.mul_pos (by omega) (by omega)
              have m2 : 1 ≤ NN := by rw [← hNN]; exact Nat.mul_pos (by omega) (by omega)
              have m3 : NN ≤ 4096 := by have h1 := (pValid_iff.1 HV.out).2.1; rw [hzl, hNN] at h1; omega
              have m4 : MM ≤ 4096 := by have h1 := (pValid_iff.1 HVQ.out).2.1; rw [hql, hMM] at h1; omega
              have HNN := hid hNN
              have HMM := hid hMM
              obtain ⟨k1, k2, k3, k4⟩ : n ≤ NN ∧ NN ≤ n ∧ n' ≤ MM ∧ MM ≤ n' := by omega
              have HWW := hid (And.intro hnw (And.intro hnh (And.intro hqw (And.intro hqh (And.intro hX hY)))))
              clear hzl hql hn1 hn2 hNN hMM
              subst hnw hnh hqw hqh hX hY
              have z95 := H14.out.cell 2 rfl 0 rfl
              have z96 := H14.out.cell 2 rfl 1 rfl
              have z97 := H14.out.cell 2 rfl 2 rfl
              have z98 := H14.out.cell 2 rfl 3 rfl
              have z99 := H14.out.cell 1 rfl 0 rfl
              have z100 := H14.out.cell 1 rfl 1 rfl
              have z101 := H14.out.cell 1 rfl 2 rfl
              have z102 := H14.out.cell 1 rfl 3 rfl
              go_upto_region 5 with fail
              clear z95 z96 z97 z98 z99 z100 z101 z102
              have H103 := hid H14.out.drew
              refine wp_region_held_drew (S := (fun w' => w'.cell? ⟨B + 1, 0, none⟩ = some (.int .i64 qw) ∧ w'.cell? ⟨B + 1, 1, none⟩ = some (.int .i64 qh) ∧ w'.cell? ⟨B + 1, 2, none⟩ = some (.int .i64 qm) ∧ w'.cell? ⟨B + 1, 3, none⟩ = some (.slice a' n' c') ∧ w'.cell? ⟨B, 0, none⟩ = some (.int .i64 nw) ∧ w'.cell? ⟨B, 1, none⟩ = some (.int .i64 nh) ∧ w'.cell? ⟨B, 2, none⟩ = some (.int .i64 mx) ∧ w'.cell? ⟨B, 3, none⟩ = some (.slice a n c))) (by kernel_rfl) ⟨H103.out.cell 1 rfl 0 rfl, H103.out.cell 1 rfl 1 rfl, H103.out.cell 1 rfl 2 rfl, H103.out.cell 1 rfl 3 rfl, H103.out.cell 2 rfl 0 rfl, H103.out.cell 2 rfl 1 rfl, H103.out.cell 2 rfl 2 rfl, H103.out.cell 2 rfl 3 rfl⟩ (fun hHeld => ?_)
              generalize w13.drew = k104 at *
              refine wpAnyH_take (i := 0) (oi := _) (v := ?_) rfl (by kernel_rfl) (by kernel_rfl) (by kernel_rfl) (fun _ _ _ h => h) (Or.inl ⟨by rfl, ?_⟩) (by assumption) ?_
              rotate_left
              focus (intro wS hSw; (try dsimp only at hSw); go_simp; (try with_reducible rfl))
              try simp only [Act.put, List.getElem_toArray, List.getElem_cons_zero, List.getElem_cons_succ, List.setIfInBounds_toArray, List.set_cons_zero, List.set_cons_succ]
              refine wpAnyH_take (i := 1) (oi := _) (v := ?_) rfl (by kernel_rfl) (by kernel_rfl) (by kernel_rfl) (fun _ _ _ h => h) (Or.inl ⟨by rfl, ?_⟩) (by assumption) ?_
              rotate_left
              focus (intro wS hSw; (try dsimp only at hSw); go_simp; (try with_reducible rfl))
              try simp only [Act.put, List.getElem_toArray, List.getElem_cons_zero, List.getElem_cons_succ, List.setIfInBounds_toArray, List.set_cons_zero, List.set_cons_succ]
              refine wpAnyH_take (i := 3) (oi := _) (v := ?_) rfl (by kernel_rfl) (by kernel_rfl) (by kernel_rfl) (fun _ _ _ h => h) (Or.inl ⟨by rfl, ?_⟩) (by assumption) ?_
              rotate_left
              focus (intro wS hSw; (try dsimp only at hSw); go_simp; (try with_reducible rfl))
              try simp only [Act.put, List.getElem_toArray, List.getElem_cons_zero, List.getElem_cons_succ, List.setIfInBounds_toArray, List.set_cons_zero, List.set_cons_succ]
              refine wpAnyH_take (i := 4) (oi := _) (v := ?_) rfl (by kernel_rfl) (by kernel_rfl) (by kernel_rfl) (fun _ _ _ h => h) (Or.inl ⟨by rfl, ?_⟩) (by assumption) ?_
              rotate_left
              focus (intro wS hSw; (try dsimp only at hSw); go_simp; (try with_reducible rfl))
              try simp only [Act.put, List.getElem_toArray, List.getElem_cons_zero, List.getElem_cons_succ, List.setIfInBounds_toArray, List.set_cons_zero, List.set_cons_succ]
              refine wpAnyH_ready (rs := [2]) (by kernel_rfl) (by simp) (AllReadyH.cons (o := _) rfl (fun K hK => ?_) AllReadyH.nil)
              go_simp
              go_at_call 79
              refine (smax_any _ _ _ qs _ (H103.out.old HQ.out) (by omega)).mono ?_
              rintro e w105 ⟨gm, rfl, hg1, hg2, hb⟩
              have H106 := hid (H103.out.call hb)
              have HG1 := hid hg1
              have HG2 := hid hg2
              clear hb hg1 hg2
              refine hK.out _ _ ?_ (fun hHeld2 => ?_)
              focus ((try dsimp only); (exact ⟨H106.out.cell 1 rfl 0 rfl, H106.out.cell 1 rfl 1 rfl, H106.out.cell 1 rfl 2 rfl, H106.out.cell 1 rfl 3 rfl, H106.out.cell 2 rfl 0 rfl, H106.out.cell 2 rfl 1 rfl, H106.out.cell 2 rfl 2 rfl, H106.out.cell 2 rfl 3 rfl⟩))
              clear hK K
              try simp only [Act.put, List.getElem_toArray, List.getElem_cons_zero, List.getElem_cons_succ, List.setIfInBounds_toArray, List.set_cons_zero, List.set_cons_succ]
              clear hHeld
              have hHeld := hHeld2
              clear hHeld2
              refine wpAnyH_take (i := 5) (oi := _) (v := ?_) rfl (by kernel_rfl) (by kernel_rfl) (by kernel_rfl) (fun _ _ _ h => h) (Or.inl ⟨by rfl, ?_⟩) (by assumption) ?_
              rotate_left
              focus (intro wS hSw; (try dsimp only at hSw); go_simp; (try with_reducible rfl))
              try simp only [Act.put, List.getElem_toArray, List.getElem_cons_zero, List.getElem_cons_succ, List.setIfInBounds_toArray, List.set_cons_zero, List.set_cons_succ]
              refine wpAnyH_done (by kernel_rfl) ?_ _
              try clear hHeld
              by_cases hgm : mx < gm
              · skip
                have hgm' : mx < gm := by omega
                have z107 := H106.out.cell 0 rfl 0 rfl
                have z108 := H106.out.free 0 rfl 0
                have z109 := H106.out.cell 0 rfl 1 rfl
                have z110 := H106.out.free 0 rfl 1
                have z111 := H106.out.cell 0 rfl 2 rfl
                have z112 := H106.out.free 0 rfl 2
                have z113 := H106.out.cell 0 rfl 3 rfl
                have z114 := H106.out.free 0 rfl 3
                go_wp2_with fail
                clear z107 z108 z109 z110 z111 z112 z113 z114
                have H115 := hid (show St B W [.cells (B + 1 + 1) #[.int .i64 0, .int .i64 0, .int .i64 0, .slice none 0 0] 26, .cells (B + 1) #[.int .i64 qw, .int .i64 qh, .int .i64 qm, .slice a' n' c'] 26, .cells B #[.int .i64 nw, .int .i64 nh, .int .i64 mx, .slice a n c] 26] [] ((((w105.setCell ⟨B + 1 + 1, 0, none⟩ (.int .i64 0)).setCell ⟨B + 1 + 1, 1, none⟩ (.int .i64 0)).setCell ⟨B + 1 + 1, 2, none⟩ (.int .i64 0)).setCell ⟨B + 1 + 1, 3, none⟩ (.slice none 0 0)) from (H106.out.set4 0 rfl (.int .i64 0) (.int .i64 0) (.int .i64 0) (.slice none 0 0)))
                have HNO := hid (show blOk nw nh mx zs qw qh qm qs X Y = false from blOk_no (fun hb => by have := hb.2.2.2 _ HG1.out; omega))
                have q116 := H115.out.cell 0 rfl 0 rfl
                have q117 := H115.out.cell 0 rfl 1 rfl
                have q118 := H115.out.cell 0 rfl 2 rfl
                have q119 := H115.out.cell 0 rfl 3 rfl
                refine bodyPost_ret (v := .tuple #[.agg #[.int .i64 0, .int .i64 0, .int .i64 0, .slice none 0 0], .bool false]) ?_ rfl (blit_no HNO.out (by first | exact H115.out.below | exact H115.out.below'))
                simp [results, Try.results50, go_sem, q116, q117, q118, q119]
              · skip
                have hgm' : ¬ (mx < gm) := by omega
                have HALL := hid (show ∀ z ∈ qs, z ≤ mx from fun z hz => by have := HG2.out z hz; omega)
                go_upto_region 7 with fail
                have H120 := hid H106.out.drew
                refine wp_region_held_drew (S := (fun w' => w'.cell? ⟨B, 0, none⟩ = some (.int .i64 nw) ∧ w'.cell? ⟨B, 1, none⟩ = some (.int .i64 nh) ∧ w'.cell? ⟨B, 2, none⟩ = some (.int .i64 mx) ∧ w'.cell? ⟨B, 3, none⟩ = some (.slice a n c))) (by kernel_rfl) ⟨H120.out.cell 2 rfl 0 rfl, H120.out.cell 2 rfl 1 rfl, H120.out.cell 2 rfl 2 rfl, H120.out.cell 2 rfl 3 rfl⟩ (fun hHeld => ?_)
                generalize w105.drew = k121 at *
                refine wpAnyH_take (i := 0) (oi := _) (v := ?_) rfl (by kernel_rfl) (by kernel_rfl) (by kernel_rfl) (fun _ _ _ h => h) (Or.inl ⟨by rfl, ?_⟩) (by assumption) ?_
                rotate_left
                focus (intro wS hSw; (try dsimp only at hSw); go_simp; (try with_reducible rfl))
                try simp only [Act.put, List.getElem_toArray, List.getElem_cons_zero, List.getElem_cons_succ, List.setIfInBounds_toArray, List.set_cons_zero, List.set_cons_succ]
                refine wpAnyH_take (i := 1) (oi := _) (v := ?_) rfl (by kernel_rfl) (by kernel_rfl) (by kernel_rfl) (fun _ _ _ h => h) (Or.inl ⟨by rfl, ?_⟩) (by assumption) ?_
                rotate_left
                focus (intro wS hSw; (try dsimp only at hSw); go_simp; (try with_reducible rfl))
                try simp only [Act.put, List.getElem_toArray, List.getElem_cons_zero, List.getElem_cons_succ, List.setIfInBounds_toArray, List.set_cons_zero, List.set_cons_succ]
                refine wpAnyH_take (i := 2) (oi := _) (v := ?_) rfl (by kernel_rfl) (by kernel_rfl) (by kernel_rfl) (fun _ _ _ h => h) (Or.inl ⟨by rfl, ?_⟩) (by assumption) ?_
                rotate_left
                focus (intro wS hSw; (try dsimp only at hSw); go_simp; (try with_reducible rfl))
                try simp only [Act.put, List.getElem_toArray, List.getElem_cons_zero, List.getElem_cons_succ, List.setIfInBounds_toArray, List.set_cons_zero, List.set_cons_succ]
                refine wpAnyH_take (i := 3) (oi := _) (v := ?_) rfl (by kernel_rfl) (by kernel_rfl) (by kernel_rfl) (fun _ _ _ h => h) (Or.inl ⟨by rfl, ?_⟩) (by assumption) ?_
                rotate_left
                focus (intro wS hSw; (try dsimp only at hSw); go_simp; (try with_reducible rfl))
                try simp only [Act.put, List.getElem_toArray, List.getElem_cons_zero, List.getElem_cons_succ, List.setIfInBounds_toArray, List.set_cons_zero, List.set_cons_succ]
                refine wpAnyH_take (i := 4) (oi := _) (v := ?_) rfl (by kernel_rfl) (by kernel_rfl) (by kernel_rfl) (fun _ _ _ h => h) (Or.inl ⟨by rfl, ?_⟩) (by assumption) ?_
                rotate_left
                focus (intro wS hSw; (try dsimp only at hSw); go_simp; (try with_reducible rfl))
                try simp only [Act.put, List.getElem_toArray, List.getElem_cons_zero, List.getElem_cons_succ, List.setIfInBounds_toArray, List.set_cons_zero, List.set_cons_succ]
                refine wpAnyH_take (i := 5) (oi := _) (v := ?_) rfl (by kernel_rfl) (by kernel_rfl) (by kernel_rfl) (fun _ _ _ h => h) (Or.inl ⟨by rfl, ?_⟩) (by assumption) ?_
                rotate_left
                focus (intro wS hSw; (try dsimp only at hSw); go_simp; (try with_reducible rfl))
                try simp only [Act.put, List.getElem_toArray, List.getElem_cons_zero, List.getElem_cons_succ, List.setIfInBounds_toArray, List.set_cons_zero, List.set_cons_succ]
                refine wpAnyH_take (i := 6) (oi := _) (v := ?_) rfl (by kernel_rfl) (by kernel_rfl) (by kernel_rfl) (fun _ _ _ h => h) (Or.inl ⟨by rfl, ?_⟩) (by assumption) ?_
                rotate_left
                focus (intro wS hSw; (try dsimp only at hSw); go_simp; (try with_reducible rfl))
                try simp only [Act.put, List.getElem_toArray, List.getElem_cons_zero, List.getElem_cons_succ, List.setIfInBounds_toArray, List.set_cons_zero, List.set_cons_succ]
                refine wpAnyH_take (i := 7) (oi := _) (v := ?_) rfl (by kernel_rfl) (by kernel_rfl) (by kernel_rfl) (fun _ _ _ h => h) (Or.inl ⟨by rfl, ?_⟩) (by assumption) ?_
                rotate_left
                focus (intro wS hSw; (try dsimp only at hSw); go_simp; (try with_reducible rfl))
                try simp only [Act.put, List.getElem_toArray, List.getElem_cons_zero, List.getElem_cons_succ, List.setIfInBounds_toArray, List.set_cons_zero, List.set_cons_succ]
                refine wpAnyH_ready (rs := [8, 10]) (by kernel_rfl) (by simp) (AllReadyH.cons (o := _) rfl (fun K hK => ?_) (AllReadyH.cons (o := _) rfl (fun K hK => ?_) AllReadyH.nil))
                · go_simp
                  go_at_call 80
                  refine (sclone_any _ _ _ zs _ (H120.out.old HS.out) (by omega) (by omega)).mono ?_
                  rintro e w122 ⟨v123, rfl, ho, hb⟩
                  have H124 := hid (H120.out.grow hb ho)
                  obtain ⟨v123a, v123c, rfl, _⟩ := ho.slc
                  clear ho hb
                  have hzl := HZL.out
                  rw [hzl, HNN.out] at H124 ⊢
                  clear hzl
                  obtain ⟨g0, g1, hg0⟩ := (H124.out.own 0 rfl).pos (by rw [HZL.out, HNN.out]; omega)
                  rw [HZL.out, HNN.out] at hg0
                  injection hg0 with e1 e2 e3
                  subst e1
                  clear e2 e3
                  obtain ⟨cp, hcp⟩ : ∃ m, v123c = m := ⟨_, rfl⟩
                  rw [hcp] at H124 ⊢
                  clear hcp
                  have hNc : NN ≤ cp ∧ (cp : Int) ≤ 9223372036854775807 := by have h' := H124.out.slc 0 rfl; have := h'.nc; have := h'.cap; omega
                  obtain ⟨hNc1, hNc2⟩ := hNc
                  refine hK.out _ _ ?_ (fun hHeld2 => ?_)
                  focus ((try dsimp only); (exact ⟨H124.out.cell 3 rfl 0 rfl, H124.out.cell 3 rfl 1 rfl, H124.out.cell 3 rfl 2 rfl, H124.out.cell 3 rfl 3 rfl⟩))
                  clear hK K
                  try simp only [Act.put, List.getElem_toArray, List.getElem_cons_zero, List.getElem_cons_succ, List.setIfInBounds_toArray, List.set_cons_zero, List.set_cons_succ]
                  clear hHeld
                  have hHeld := hHeld2
                  clear hHeld2
                  refine wpAnyH_take (i := 9) (oi := _) (v := ?_) rfl (by kernel_rfl) (by kernel_rfl) (by kernel_rfl) (fun _ _ _ h => h) (Or.inl ⟨by rfl, ?_⟩) (by assumption) ?_
                  rotate_left
                  focus (intro wS hSw; (try dsimp only at hSw); go_simp; (try with_reducible rfl))
                  try simp only [Act.put, List.getElem_toArray, List.getElem_cons_zero, List.getElem_cons_succ, List.setIfInBounds_toArray, List.set_cons_zero, List.set_cons_succ]
                  refine wpAnyH_ready (rs := [10]) (by kernel_rfl) (by simp) (AllReadyH.cons (o := _) rfl (fun K hK => ?_) AllReadyH.nil)
                  obtain ⟨D125, hD125⟩ : ∃ D, w122.heap.size = D := ⟨_, rfl⟩
                  have H126 := hid (show St B W [.cells D125 #[.int .i64 0, .int .i64 0, .int .i64 0, .slice none 0 0] 26, .own (.slice (some ⟨g0, 0, none⟩) NN cp) zs, .cells (B + 1 + 1) #[.int .i64 0, .int .i64 0, .int .i64 0, .slice none 0 0] 26, .cells (B + 1) #[.int .i64 qw, .int .i64 qh, .int .i64 qm, .slice a' n' c'] 26, .cells B #[.int .i64 nw, .int .i64 nh, .int .i64 mx, .slice a n c] 26] [] (w122.alloc (.cells #[.int .i64 0, .int .i64 0, .int .i64 0, .slice none 0 0] 26)) from (H124.out.alloc #[.int .i64 0, .int .i64 0, .int .i64 0, .slice none 0 0] 26 hD125))
                  go_simp
                  refine hK.out _ _ ?_ (fun hHeld2 => ?_)
                  focus ((try dsimp only); (exact ⟨H126.out.cell 4 rfl 0 rfl, H126.out.cell 4 rfl 1 rfl, H126.out.cell 4 rfl 2 rfl, H126.out.cell 4 rfl 3 rfl⟩))
                  clear hK K hHeld
                  try simp only [Act.put, List.getElem_toArray, List.getElem_cons_zero, List.getElem_cons_succ, List.setIfInBounds_toArray, List.set_cons_zero, List.set_cons_succ]
                  clear hD125
                  generalize (w122.alloc (.cells #[.int .i64 0, .int .i64 0, .int .i64 0, .slice none 0 0] 26)) = k127 at *
                  have hHeld := hHeld2
                  clear hHeld2
                  refine wpAnyH_ready (rs := [11]) (by kernel_rfl) (by simp) (AllReadyH.cons (o := _) rfl (fun K hK => ?_) AllReadyH.nil)
                  have z128 := H126.out.cell 0 rfl 0 rfl
                  have z129 := H126.out.free 0 rfl 0
                  have z130 := H126.out.cell 0 rfl 1 rfl
                  have z131 := H126.out.free 0 rfl 1
                  have z132 := H126.out.cell 0 rfl 2 rfl
                  have z133 := H126.out.free 0 rfl 2
                  have z134 := H126.out.cell 0 rfl 3 rfl
                  have z135 := H126.out.free 0 rfl 3
                  have H136 := hid (show St B W [.cells D125 #[.int .i64 nw, .int .i64 nh, .int .i64 mx, .slice (some ⟨g0, 0, none⟩) NN cp] 26, .own (.slice (some ⟨g0, 0, none⟩) NN cp) zs, .cells (B + 1 + 1) #[.int .i64 0, .int .i64 0, .int .i64 0, .slice none 0 0] 26, .cells (B + 1) #[.int .i64 qw, .int .i64 qh, .int .i64 qm, .slice a' n' c'] 26, .cells B #[.int .i64 nw, .int .i64 nh, .int .i64 mx, .slice a n c] 26] [] ((((k127.setCell ⟨D125, 0, none⟩ (.int .i64 nw)).setCell ⟨D125, 1, none⟩ (.int .i64 nh)).setCell ⟨D125, 2, none⟩ (.int .i64 mx)).setCell ⟨D125, 3, none⟩ (.slice (some ⟨g0, 0, none⟩) NN cp)) from (H126.out.set4 0 rfl (.int .i64 nw) (.int .i64 nh) (.int .i64 mx) (.slice (some ⟨g0, 0, none⟩) NN cp)))
                  go_simp
                  refine hK.out _ _ ?_ (fun hHeld2 => ?_)
                  focus ((try dsimp only); (exact ⟨H136.out.cell 4 rfl 0 rfl, H136.out.cell 4 rfl 1 rfl, H136.out.cell 4 rfl 2 rfl, H136.out.cell 4 rfl 3 rfl⟩))
                  clear hK K hHeld
                  try simp only [Act.put, List.getElem_toArray, List.getElem_cons_zero, List.getElem_cons_succ, List.setIfInBounds_toArray, List.set_cons_zero, List.set_cons_succ]
                  clear z128 z129 z130 z131 z132 z133 z134 z135
                  generalize ((((k127.setCell ⟨D125, 0, none⟩ (.int .i64 nw)).setCell ⟨D125, 1, none⟩ (.int .i64 nh)).setCell ⟨D125, 2, none⟩ (.int .i64 mx)).setCell ⟨D125, 3, none⟩ (.slice (some ⟨g0, 0, none⟩) NN cp)) = k137 at *
                  have hHeld := hHeld2
                  clear hHeld2
                  refine wpAnyH_done (by kernel_rfl) ?_ _
                  try clear hHeld
                  have z138 := H136.out.cell 3 rfl 0 rfl
                  have z139 := H136.out.cell 3 rfl 1 rfl
                  have z140 := H136.out.cell 3 rfl 2 rfl
                  have z141 := H136.out.cell 3 rfl 3 rfl
                  go_wp2_with fail
                  clear z138 z139 z140 z141
                  go_loopw [66] (fun i wr => ∃ k : Nat, k ≤ qh ∧ i = .int .i64 k ∧ St B W [.own (.slice (some ⟨g0, 0, none⟩) NN cp) (bl zs qs nw X Y qw k), .cells D125 #[.int .i64 nw, .int .i64 nh, .int .i64 mx, .slice (some ⟨g0, 0, none⟩) NN cp] 26, .cells (B + 1 + 1) #[.int .i64 0, .int .i64 0, .int .i64 0, .slice none 0 0] 26, .cells (B + 1) #[.int .i64 qw, .int .i64 qh, .int .i64 qm, .slice a' n' c'] 26, .cells B #[.int .i64 nw, .int .i64 nh, .int .i64 mx, .slice a n c] 26] [] wr) (fun i _ => qh - (intOf i).toNat)
                  case atStart => exact ⟨0, by omega, rfl, H136.out.pick [1, 0, 2, 3, 4] rfl (by decide)⟩
                  case round =>
                    obtain ⟨k, hk, rfl, hst⟩ := hrel
                    obtain ⟨u142, rfl⟩ : ∃ u142 : World, u142 = wr := ⟨_, rfl⟩
                    have H143 := hid hst
                    clear hst
                    by_cases hkn : k < qh
                    · skip
                      have hkn' : (k : Int) < qh := by omega
                      obtain ⟨KO, hKO⟩ : ∃ m : Nat, (Y + k) * nw + X = m := ⟨_, rfl⟩
                      have HKO := hid hKO
                      obtain ⟨KQ, hKQ⟩ : ∃ m : Nat, k * qw = m := ⟨_, rfl⟩
                      have HKQ := hid hKQ
                      obtain ⟨PA, hPA⟩ : ∃ m : Nat, (Y + k) * nw = m := ⟨_, rfl⟩
                      have hp1 : ((Y : Int) + (k : Int)) * (nw : Int) = (PA : Int) := by rw [← hPA]; simp
                      have hp2 : (k : Int) * (qw : Int) = (KQ : Int) := by rw [← hKQ]; simp
                      have hp3 : ((k : Int) + 1) * (qw : Int) = (KQ : Int) + qw := by rw [Int.add_mul, Int.one_mul, hp2]
                      have hf1 := row_fits fx fy hkn
                      rw [hKO, HNN.out] at hf1
                      have hf2 : KQ + qw ≤ MM := by
                        have e1 : (k + 1) * qw ≤ qh * qw := Nat.mul_le_mul_right _ (by omega)
                        rw [HMM.out, Nat.add_mul, Nat.one_mul, hKQ] at e1
                        omega
                      rw [hPA] at hKO
                      have hp4 : (PA : Int) + (X : Int) = (KO : Int) := by omega
                      have HBR := hid (show (qs.drop KQ).take qw = bRow qs qw k qw from by rw [← hKQ]; exact bRow_part (by rw [hKQ, HQQ.out, HMM.out]; exact hf2))
                      have HBL := hid (show (bl zs qs nw X Y qw k).length = NN from by rw [bl_len HZL.out fx fy (by omega), HZL.out, HNN.out])
                      clear hPA hKQ hKO
                      have pa5 : PA ≤ 4096 := by omega
                      have z144 := H143.out.cell 4 rfl 0 rfl
                      have z145 := H143.out.cell 4 rfl 1 rfl
                      have z146 := H143.out.cell 4 rfl 2 rfl
                      have z147 := H143.out.cell 4 rfl 3 rfl
                      go_upto_region 12 with fail
                      clear z144 z145 z146 z147
                      obtain ⟨pbk, po, hpa⟩ := row_at (H143.out.old HQ.out).row (by omega)
                      subst hpa
                      have w1 : IntKind.i64.wrap ((KO : Int) + qw) = (KO : Int) + qw := IntWalk.i64_in _ (by omega)
                      have w2 : IntKind.i64.wrap ((KQ : Int) + qw) = (KQ : Int) + qw := IntWalk.i64_in _ (by omega)
                      have w3 : IntKind.i64.wrap ((k : Int) + 1) = (k : Int) + 1 := IntWalk.i64_in _ (by omega)
                      have w4 : IntKind.i64.wrap (KQ : Int) = KQ := IntWalk.i64_in _ (by omega)
                      have b1 : (0 : Int) ≤ (KO : Int) := by omega
                      have b2 : (KO : Int) ≤ (KO : Int) + qw := by omega
                      have b3 : (KO : Int) + qw ≤ (cp : Int) := by omega
                      have b4 : (KO : Int) < (cp : Int) := by omega
                      have b5 : (0 : Int) ≤ (KQ : Int) := by omega
                      have b6 : (KQ : Int) ≤ (KQ : Int) + qw := by omega
                      have b7 : (KQ : Int) + qw ≤ (c' : Int) := by omega
                      have b8 : (KQ : Int) < (c' : Int) := by omega
                      have b9 : ¬ (cp = KO) := by omega
                      have b10 : ¬ (c' = KQ) := by omega
                      have b11 : ((KO : Int) + (qw : Int)).toNat = KO + qw := by omega
                      have b12 : ((KQ : Int) + (qw : Int)).toNat = KQ + qw := by omega
                      have qhb : qh ≤ 128 := by omega
                      clear p1 p2 p3 p4 p5 p6 p7 q1 q2 q3 q4 q5 q6 q7 tw th gx gy sx sy pa5 hp1 hp4 hgm hgm' hqc hqcc m1 m2 m3 m4 fx fy
                      go_upto_region 12 with fail
                      have H148 := hid H143.out.drew
                      refine wp_region_held_drew (S := (fun w' => w'.cell? ⟨D125, 0, none⟩ = some (.int .i64 nw) ∧ w'.cell? ⟨D125, 1, none⟩ = some (.int .i64 nh) ∧ w'.cell? ⟨D125, 2, none⟩ = some (.int .i64 mx) ∧ w'.cell? ⟨D125, 3, none⟩ = some (.slice (some ⟨g0, 0, none⟩) NN cp) ∧ w'.cell? ⟨B + 1, 0, none⟩ = some (.int .i64 qw) ∧ w'.cell? ⟨B + 1, 1, none⟩ = some (.int .i64 qh) ∧ w'.cell? ⟨B + 1, 2, none⟩ = some (.int .i64 qm) ∧ w'.cell? ⟨B + 1, 3, none⟩ = some (.slice (some ⟨pbk, po, none⟩) n' c'))) (by kernel_rfl) ⟨H148.out.cell 1 rfl 0 rfl, H148.out.cell 1 rfl 1 rfl, H148.out.cell 1 rfl 2 rfl, H148.out.cell 1 rfl 3 rfl, H148.out.cell 3 rfl 0 rfl, H148.out.cell 3 rfl 1 rfl, H148.out.cell 3 rfl 2 rfl, H148.out.cell 3 rfl 3 rfl⟩ (fun hHeld => ?_)
                      generalize u142.drew = k149 at *
                      refine wpAnyH_take (i := 0) (oi := _) (v := ?_) rfl (by kernel_rfl) (by kernel_rfl) (by kernel_rfl) (fun _ _ _ h => h) (Or.inl ⟨by rfl, ?_⟩) (by assumption) ?_
                      rotate_left
                      focus (intro wS hSw; (try dsimp only at hSw); go_simp; (try with_reducible rfl))
                      try simp only [Act.put, List.getElem_toArray, List.getElem_cons_zero, List.getElem_cons_succ, List.setIfInBounds_toArray, List.set_cons_zero, List.set_cons_succ]
                      refine wpAnyH_take (i := 1) (oi := _) (v := ?_) rfl (by kernel_rfl) (by kernel_rfl) (by kernel_rfl) (fun _ _ _ h => h) (Or.inl ⟨by rfl, ?_⟩) (by assumption) ?_
                      rotate_left
                      focus (intro wS hSw; (try dsimp only at hSw); go_simp; (try with_reducible rfl))
                      try simp only [Act.put, List.getElem_toArray, List.getElem_cons_zero, List.getElem_cons_succ, List.setIfInBounds_toArray, List.set_cons_zero, List.set_cons_succ]
                      refine wpAnyH_take (i := 2) (oi := _) (v := ?_) rfl (by kernel_rfl) (by kernel_rfl) (by kernel_rfl) (fun _ _ _ h => h) (Or.inl ⟨by rfl, ?_⟩) (by assumption) ?_
                      rotate_left
                      focus (intro wS hSw; (try dsimp only at hSw); go_simp; (try with_reducible rfl))
                      try simp only [Act.put, List.getElem_toArray, List.getElem_cons_zero, List.getElem_cons_succ, List.setIfInBounds_toArray, List.set_cons_zero, List.set_cons_succ]
                      refine wpAnyH_take (i := 3) (oi := _) (v := ?_) rfl (by kernel_rfl) (by kernel_rfl) (by kernel_rfl) (fun _ _ _ h => h) (Or.inl ⟨by rfl, ?_⟩) (by assumption) ?_
                      rotate_left
                      focus (intro wS hSw; (try dsimp only at hSw); go_simp; (try with_reducible rfl))
                      try simp only [Act.put, List.getElem_toArray, List.getElem_cons_zero, List.getElem_cons_succ, List.setIfInBounds_toArray, List.set_cons_zero, List.set_cons_succ]
                      refine wpAnyH_take (i := 4) (oi := _) (v := ?_) rfl (by kernel_rfl) (by kernel_rfl) (by kernel_rfl) (fun _ _ _ h => h) (Or.inl ⟨by rfl, ?_⟩) (by assumption) ?_
                      rotate_left
                      focus (intro wS hSw; (try dsimp only at hSw); go_simp; (try with_reducible rfl))
                      try simp only [Act.put, List.getElem_toArray, List.getElem_cons_zero, List.getElem_cons_succ, List.setIfInBounds_toArray, List.set_cons_zero, List.set_cons_succ]
                      refine wpAnyH_take (i := 5) (oi := _) (v := ?_) rfl (by kernel_rfl) (by kernel_rfl) (by kernel_rfl) (fun _ _ _ h => h) (Or.inl ⟨by rfl, ?_⟩) (by assumption) ?_
                      rotate_left
                      focus (intro wS hSw; (try dsimp only at hSw); go_simp; (try with_reducible rfl))
                      try simp only [Act.put, List.getElem_toArray, List.getElem_cons_zero, List.getElem_cons_succ, List.setIfInBounds_toArray, List.set_cons_zero, List.set_cons_succ]
                      refine wpAnyH_take (i := 6) (oi := _) (v := ?_) rfl (by kernel_rfl) (by kernel_rfl) (by kernel_rfl) (fun _ _ _ h => h) (Or.inl ⟨by rfl, ?_⟩) (by assumption) ?_
                      rotate_left
                      focus (intro wS hSw; (try dsimp only at hSw); go_simp; (try with_reducible rfl))
                      try simp only [Act.put, List.getElem_toArray, List.getElem_cons_zero, List.getElem_cons_succ, List.setIfInBounds_toArray, List.set_cons_zero, List.set_cons_succ]
                      refine wpAnyH_take (i := 7) (oi := _) (v := ?_) rfl (by kernel_rfl) (by kernel_rfl) (by kernel_rfl) (fun _ _ _ h => h) (Or.inl ⟨by rfl, ?_⟩) (by assumption) ?_
                      rotate_left
                      focus (intro wS hSw; (try dsimp only at hSw); go_simp; (try with_reducible rfl))
                      try simp only [Act.put, List.getElem_toArray, List.getElem_cons_zero, List.getElem_cons_succ, List.setIfInBounds_toArray, List.set_cons_zero, List.set_cons_succ]
                      refine wpAnyH_take (i := 8) (oi := _) (v := ?_) rfl (by kernel_rfl) (by kernel_rfl) (by kernel_rfl) (fun _ _ _ h => h) (Or.inl ⟨by rfl, ?_⟩) (by assumption) ?_
                      rotate_left
                      focus (intro wS hSw; (try dsimp only at hSw); go_simp; (try with_reducible rfl))
                      try simp only [Act.put, List.getElem_toArray, List.getElem_cons_zero, List.getElem_cons_succ, List.setIfInBounds_toArray, List.set_cons_zero, List.set_cons_succ]
                      refine wpAnyH_take (i := 9) (oi := _) (v := ?_) rfl (by kernel_rfl) (by kernel_rfl) (by kernel_rfl) (fun _ _ _ h => h) (Or.inl ⟨by rfl, ?_⟩) (by assumption) ?_
                      rotate_left
                      focus (intro wS hSw; (try dsimp only at hSw); go_simp; (try with_reducible rfl))
                      try simp only [Act.put, List.getElem_toArray, List.getElem_cons_zero, List.getElem_cons_succ, List.setIfInBounds_toArray, List.set_cons_zero, List.set_cons_succ]
                      refine wpAnyH_take (i := 10) (oi := _) (v := ?_) rfl (by kernel_rfl) (by kernel_rfl) (by kernel_rfl) (fun _ _ _ h => h) (Or.inl ⟨by rfl, ?_⟩) (by assumption) ?_
                      rotate_left
                      focus (intro wS hSw; (try dsimp only at hSw); go_simp; (try with_reducible rfl))
                      try simp only [Act.put, List.getElem_toArray, List.getElem_cons_zero, List.getElem_cons_succ, List.setIfInBounds_toArray, List.set_cons_zero, List.set_cons_succ]
                      refine wpAnyH_take (i := 11) (oi := _) (v := ?_) rfl (by kernel_rfl) (by kernel_rfl) (by kernel_rfl) (fun _ _ _ h => h) (Or.inl ⟨by rfl, ?_⟩) (by assumption) ?_
                      rotate_left
                      focus (intro wS hSw; (try dsimp only at hSw); go_simp; (try with_reducible rfl))
                      try simp only [Act.put, List.getElem_toArray, List.getElem_cons_zero, List.getElem_cons_succ, List.setIfInBounds_toArray, List.set_cons_zero, List.set_cons_succ]
                      refine wpAnyH_take (i := 12) (oi := _) (v := ?_) rfl (by kernel_rfl) (by kernel_rfl) (by kernel_rfl) (fun _ _ _ h => h) (Or.inl ⟨by rfl, ?_⟩) (by assumption) ?_
                      rotate_left
                      focus (intro wS hSw; (try dsimp only at hSw); go_simp; (try with_reducible rfl))
                      try simp only [Act.put, List.getElem_toArray, List.getElem_cons_zero, List.getElem_cons_succ, List.setIfInBounds_toArray, List.set_cons_zero, List.set_cons_succ]
                      refine wpAnyH_take (i := 13) (oi := _) (v := ?_) rfl (by kernel_rfl) (by kernel_rfl) (by kernel_rfl) (fun _ _ _ h => h) (Or.inl ⟨by rfl, ?_⟩) (by assumption) ?_
                      rotate_left
                      focus (intro wS hSw; (try dsimp only at hSw); go_simp; (try with_reducible rfl))
                      try simp only [Act.put, List.getElem_toArray, List.getElem_cons_zero, List.getElem_cons_succ, List.setIfInBounds_toArray, List.set_cons_zero, List.set_cons_succ]
                      refine wpAnyH_take (i := 14) (oi := _) (v := ?_) rfl (by kernel_rfl) (by kernel_rfl) (by kernel_rfl) (fun _ _ _ h => h) (Or.inl ⟨by rfl, ?_⟩) (by assumption) ?_
                      rotate_left
                      focus (intro wS hSw; (try dsimp only at hSw); go_simp; (try with_reducible rfl))
                      try simp only [Act.put, List.getElem_toArray, List.getElem_cons_zero, List.getElem_cons_succ, List.setIfInBounds_toArray, List.set_cons_zero, List.set_cons_succ]
                      refine wpAnyH_take (i := 15) (oi := _) (v := ?_) rfl (by kernel_rfl) (by kernel_rfl) (by kernel_rfl) (fun _ _ _ h => h) (Or.inl ⟨by rfl, ?_⟩) (by assumption) ?_
                      rotate_left
                      focus (intro wS hSw; (try dsimp only at hSw); go_simp; (try with_reducible rfl))
                      try simp only [Act.put, List.getElem_toArray, List.getElem_cons_zero, List.getElem_cons_succ, List.setIfInBounds_toArray, List.set_cons_zero, List.set_cons_succ]
                      refine wpAnyH_take (i := 16) (oi := _) (v := ?_) rfl (by kernel_rfl) (by kernel_rfl) (by kernel_rfl) (fun _ _ _ h => h) (Or.inl ⟨by rfl, ?_⟩) (by assumption) ?_
                      rotate_left
                      focus (intro wS hSw; (try dsimp only at hSw); go_simp; (try with_reducible rfl))
                      try simp only [Act.put, List.getElem_toArray, List.getElem_cons_zero, List.getElem_cons_succ, List.setIfInBounds_toArray, List.set_cons_zero, List.set_cons_succ]
                      refine wpAnyH_take (i := 17) (oi := _) (v := ?_) rfl (by kernel_rfl) (by kernel_rfl) (by kernel_rfl) (fun _ _ _ h => h) (Or.inl ⟨by rfl, ?_⟩) (by assumption) ?_
                      rotate_left
                      focus (intro wS hSw; (try dsimp only at hSw); go_simp; (try with_reducible rfl))
                      try simp only [Act.put, List.getElem_toArray, List.getElem_cons_zero, List.getElem_cons_succ, List.setIfInBounds_toArray, List.set_cons_zero, List.set_cons_succ]
                      refine wpAnyH_take (i := 18) (oi := _) (v := ?_) rfl (by kernel_rfl) (by kernel_rfl) (by kernel_rfl) (fun _ _ _ h => h) (Or.inl ⟨by rfl, ?_⟩) (by assumption) ?_
                      rotate_left
                      focus (intro wS hSw; (try dsimp only at hSw); go_simp; (try with_reducible rfl))
                      try simp only [Act.put, List.getElem_toArray, List.getElem_cons_zero, List.getElem_cons_succ, List.setIfInBounds_toArray, List.set_cons_zero, List.set_cons_succ]
                      refine wpAnyH_take (i := 19) (oi := _) (v := ?_) rfl (by kernel_rfl) (by kernel_rfl) (by kernel_rfl) (fun _ _ _ h => h) (Or.inl ⟨by rfl, ?_⟩) (by assumption) ?_
                      rotate_left
                      focus (intro wS hSw; (try dsimp only at hSw); go_simp; (try with_reducible rfl))
                      try simp only [Act.put, List.getElem_toArray, List.getElem_cons_zero, List.getElem_cons_succ, List.setIfInBounds_toArray, List.set_cons_zero, List.set_cons_succ]
                      refine wpAnyH_ready (rs := [20]) (by kernel_rfl) (by simp) (AllReadyH.cons (o := _) rfl (fun K hK => ?_) AllReadyH.nil)
                      refine oper_copy_own _ _ rfl B g0 KO NN cp _ qw pbk (po + KQ) _ (bl zs qs nw X Y qw k) (bRow qs qw k qw) (by rfl) (by rfl) (H148.out.own 0 rfl) (by rw [← HBR.out]; exact (H148.out.old HQ.out).row.part KQ qw (by omega)) (by rw [HBL.out]; omega) ?_
                      intro k151 ho hg
                      have H150 := hid (H148.out.append 0 rfl ho hg (.inl rfl))
                      clear ho hg
                      refine hK.out _ _ ?_ (fun hHeld2 => ?_)
                      focus ((try dsimp only); (exact ⟨H150.out.cell 1 rfl 0 rfl, H150.out.cell 1 rfl 1 rfl, H150.out.cell 1 rfl 2 rfl, H150.out.cell 1 rfl 3 rfl, H150.out.cell 3 rfl 0 rfl, H150.out.cell 3 rfl 1 rfl, H150.out.cell 3 rfl 2 rfl, H150.out.cell 3 rfl 3 rfl⟩))
                      clear hK K
                      try simp only [Act.put, List.getElem_toArray, List.getElem_cons_zero, List.getElem_cons_succ, List.setIfInBounds_toArray, List.set_cons_zero, List.set_cons_succ]
                      clear hHeld
                      have hHeld := hHeld2
                      clear hHeld2
                      refine wpAnyH_done (by kernel_rfl) ?_ _
                      try clear hHeld
                      clear w1 w2 w3 w4 b1 b2 b3 b4 b5 b6 b7 b8 b9 b10 b11 b12
                      go_wp2_with fail
                      go_roundw
                      case rel => exact ⟨k + 1, by omega, by go_num, by unfold bl; rw [HKO.out]; exact H150.out⟩
                      case measure => first | (simp [intOf]; omega) | (simp [intOf]; done)
                    · skip
                      have hkn' : ¬ ((k : Int) < qh) := by omega
                      have HKL := hid (show k = qh by omega)
                      have z152 := H143.out.cell 1 rfl 0 rfl
                      have z153 := H143.out.cell 1 rfl 1 rfl
                      have z154 := H143.out.cell 1 rfl 2 rfl
                      have z155 := H143.out.cell 1 rfl 3 rfl
                      have z156 := H143.out.cell 2 rfl 0 rfl
                      have z157 := H143.out.free 2 rfl 0
                      have z158 := H143.out.cell 2 rfl 1 rfl
                      have z159 := H143.out.free 2 rfl 1
                      have z160 := H143.out.cell 2 rfl 2 rfl
                      have z161 := H143.out.free 2 rfl 2
                      have z162 := H143.out.cell 2 rfl 3 rfl
                      have z163 := H143.out.free 2 rfl 3
                      go_wp2_with fail
                      clear z152 z153 z154 z155 z156 z157 z158 z159 z160 z161 z162 z163
                      have H164 := hid (show St B W [.own (.slice (some ⟨g0, 0, none⟩) NN cp) (bl zs qs nw X Y qw k), .cells D125 #[.int .i64 nw, .int .i64 nh, .int .i64 mx, .slice (some ⟨g0, 0, none⟩) NN cp] 26, .cells (B + 1 + 1) #[.int .i64 nw, .int .i64 nh, .int .i64 mx, .slice (some ⟨g0, 0, none⟩) NN cp] 26, .cells (B + 1) #[.int .i64 qw, .int .i64 qh, .int .i64 qm, .slice a' n' c'] 26, .cells B #[.int .i64 nw, .int .i64 nh, .int .i64 mx, .slice a n c] 26] [] ((((u142.setCell ⟨B + 1 + 1, 0, none⟩ (.int .i64 nw)).setCell ⟨B + 1 + 1, 1, none⟩ (.int .i64 nh)).setCell ⟨B + 1 + 1, 2, none⟩ (.int .i64 mx)).setCell ⟨B + 1 + 1, 3, none⟩ (.slice (some ⟨g0, 0, none⟩) NN cp)) from (H143.out.set4 2 rfl (.int .i64 nw) (.int .i64 nh) (.int .i64 mx) (.slice (some ⟨g0, 0, none⟩) NN cp)))
                      have HOK := hid (show blOk nw nh mx zs qw qh qm qs X Y = true from blOk_iff.2 ⟨HV.out, HVQ.out, by omega, HALL.out⟩)
                      have HCI := hid (show ∀ z, blIf nw nh mx zs qw qh qm qs X Y z = z from fun z => by unfold blIf; rw [if_pos HOK.out])
                      have HCL := hid (show blList nw nh mx zs qw qh qm qs X Y = bl zs qs nw X Y qw k from by unfold blList; rw [if_pos HOK.out, HKL.out]; rfl)
                      have q165 := H164.out.cell 2 rfl 0 rfl
                      have q166 := H164.out.cell 2 rfl 1 rfl
                      have q167 := H164.out.cell 2 rfl 2 rfl
                      have q168 := H164.out.cell 2 rfl 3 rfl
                      refine bodyPost_ret (v := .tuple #[.agg #[.int .i64 nw, .int .i64 nh, .int .i64 mx, .slice (some ⟨g0, 0, none⟩) NN cp], .bool true]) ?_ rfl ⟨_, by rw [HCI.out, HCI.out, HCI.out, HOK.out], by rw [HCL.out, hB]; exact H164.out.own 0 rfl, by first | exact H164.out.below | exact H164.out.below'⟩
                      simp [results, Try.results50, go_sem, q165, q166, q167, q168]
                · obtain ⟨D169, hD169⟩ : ∃ D, k121.heap.size = D := ⟨_, rfl⟩
                  have H170 := hid (show St B W [.cells D169 #[.int .i64 0, .int .i64 0, .int .i64 0, .slice none 0 0] 26, .cells (B + 1 + 1) #[.int .i64 0, .int .i64 0, .int .i64 0, .slice none 0 0] 26, .cells (B + 1) #[.int .i64 qw, .int .i64 qh, .int .i64 qm, .slice a' n' c'] 26, .cells B #[.int .i64 nw, .int .i64 nh, .int .i64 mx, .slice a n c] 26] [] (k121.alloc (.cells #[.int .i64 0, .int .i64 0, .int .i64 0, .slice none 0 0] 26)) from (H120.out.alloc #[.int .i64 0, .int .i64 0, .int .i64 0, .slice none 0 0] 26 hD169))
                  go_simp
                  refine hK.out _ _ ?_ (fun hHeld2 => ?_)
                  focus ((try dsimp only); (exact ⟨H170.out.cell 3 rfl 0 rfl, H170.out.cell 3 rfl 1 rfl, H170.out.cell 3 rfl 2 rfl, H170.out.cell 3 rfl 3 rfl⟩))
                  clear hK K hHeld
                  try simp only [Act.put, List.getElem_toArray, List.getElem_cons_zero, List.getElem_cons_succ, List.setIfInBounds_toArray, List.set_cons_zero, List.set_cons_succ]
                  clear hD169
                  generalize (k121.alloc (.cells #[.int .i64 0, .int .i64 0, .int .i64 0, .slice none 0 0] 26)) = k171 at *
                  have hHeld := hHeld2
                  clear hHeld2
                  refine wpAnyH_ready (rs := [8]) (by kernel_rfl) (by simp) (AllReadyH.cons (o := _) rfl (fun K hK => ?_) AllReadyH.nil)
                  go_simp
                  go_at_call 80
                  refine (sclone_any _ _ _ zs _ (H170.out.old HS.out) (by omega) (by omega)).mono ?_
                  rintro e w172 ⟨v173, rfl, ho, hb⟩
                  have H174 := hid (H170.out.grow hb ho)
                  obtain ⟨v173a, v173c, rfl, _⟩ := ho.slc
                  clear ho hb
                  have hzl := HZL.out
                  rw [hzl, HNN.out] at H174 ⊢
                  clear hzl
                  obtain ⟨g0, g1, hg0⟩ := (H174.out.own 0 rfl).pos (by rw [HZL.out, HNN.out]; omega)
                  rw [HZL.out, HNN.out] at hg0
                  injection hg0 with e1 e2 e3
                  subst e1
                  clear e2 e3
                  obtain ⟨cp, hcp⟩ : ∃ m, v173c = m := ⟨_, rfl⟩
                  rw [hcp] at H174 ⊢
                  clear hcp
                  have hNc : NN ≤ cp ∧ (cp : Int) ≤ 9223372036854775807 := by have h' := H174.out.slc 0 rfl; have := h'.nc; have := h'.cap; omega
                  obtain ⟨hNc1, hNc2⟩ := hNc
                  refine hK.out _ _ ?_ (fun hHeld2 => ?_)
                  focus ((try dsimp only); (exact ⟨H174.out.cell 4 rfl 0 rfl, H174.out.cell 4 rfl 1 rfl, H174.out.cell 4 rfl 2 rfl, H174.out.cell 4 rfl 3 rfl⟩))
                  clear hK K
                  try simp only [Act.put, List.getElem_toArray, List.getElem_cons_zero, List.getElem_cons_succ, List.setIfInBounds_toArray, List.set_cons_zero, List.set_cons_succ]
                  clear hHeld
                  have hHeld := hHeld2
                  clear hHeld2
                  refine wpAnyH_take (i := 9) (oi := _) (v := ?_) rfl (by kernel_rfl) (by kernel_rfl) (by kernel_rfl) (fun _ _ _ h => h) (Or.inl ⟨by rfl, ?_⟩) (by assumption) ?_
                  rotate_left
                  focus (intro wS hSw; (try dsimp only at hSw); go_simp; (try with_reducible rfl))
                  try simp only [Act.put, List.getElem_toArray, List.getElem_cons_zero, List.getElem_cons_succ, List.setIfInBounds_toArray, List.set_cons_zero, List.set_cons_succ]
                  refine wpAnyH_ready (rs := [11]) (by kernel_rfl) (by simp) (AllReadyH.cons (o := _) rfl (fun K hK => ?_) AllReadyH.nil)
                  have z175 := H174.out.cell 1 rfl 0 rfl
                  have z176 := H174.out.free 1 rfl 0
                  have z177 := H174.out.cell 1 rfl 1 rfl
                  have z178 := H174.out.free 1 rfl 1
                  have z179 := H174.out.cell 1 rfl 2 rfl
                  have z180 := H174.out.free 1 rfl 2
                  have z181 := H174.out.cell 1 rfl 3 rfl
                  have z182 := H174.out.free 1 rfl 3
                  have H183 := hid (show St B W [.own (.slice (some ⟨g0, 0, none⟩) NN cp) zs, .cells D169 #[.int .i64 nw, .int .i64 nh, .int .i64 mx, .slice (some ⟨g0, 0, none⟩) NN cp] 26, .cells (B + 1 + 1) #[.int .i64 0, .int .i64 0, .int .i64 0, .slice none 0 0] 26, .cells (B + 1) #[.int .i64 qw, .int .i64 qh, .int .i64 qm, .slice a' n' c'] 26, .cells B #[.int .i64 nw, .int .i64 nh, .int .i64 mx, .slice a n c] 26] [] ((((w172.setCell ⟨D169, 0, none⟩ (.int .i64 nw)).setCell ⟨D169, 1, none⟩ (.int .i64 nh)).setCell ⟨D169, 2, none⟩ (.int .i64 mx)).setCell ⟨D169, 3, none⟩ (.slice (some ⟨g0, 0, none⟩) NN cp)) from (H174.out.set4 1 rfl (.int .i64 nw) (.int .i64 nh) (.int .i64 mx) (.slice (some ⟨g0, 0, none⟩) NN cp)))
                  go_simp
                  refine hK.out _ _ ?_ (fun hHeld2 => ?_)
                  focus ((try dsimp only); (exact ⟨H183.out.cell 4 rfl 0 rfl, H183.out.cell 4 rfl 1 rfl, H183.out.cell 4 rfl 2 rfl, H183.out.cell 4 rfl 3 rfl⟩))
                  clear hK K hHeld
                  try simp only [Act.put, List.getElem_toArray, List.getElem_cons_zero, List.getElem_cons_succ, List.setIfInBounds_toArray, List.set_cons_zero, List.set_cons_succ]
                  clear z175 z176 z177 z178 z179 z180 z181 z182
                  generalize ((((w172.setCell ⟨D169, 0, none⟩ (.int .i64 nw)).setCell ⟨D169, 1, none⟩ (.int .i64 nh)).setCell ⟨D169, 2, none⟩ (.int .i64 mx)).setCell ⟨D169, 3, none⟩ (.slice (some ⟨g0, 0, none⟩) NN cp)) = k184 at *
                  have hHeld := hHeld2
                  clear hHeld2
                  refine wpAnyH_done (by kernel_rfl) ?_ _
                  try clear hHeld
                  have z185 := H183.out.cell 3 rfl 0 rfl
                  have z186 := H183.out.cell 3 rfl 1 rfl
                  have z187 := H183.out.cell 3 rfl 2 rfl
                  have z188 := H183.out.cell 3 rfl 3 rfl
                  go_wp2_with fail
                  clear z185 z186 z187 z188
                  go_loopw [66] (fun i wr => ∃ k : Nat, k ≤ qh ∧ i = .int .i64 k ∧ St B W [.own (.slice (some ⟨g0, 0, none⟩) NN cp) (bl zs qs nw X Y qw k), .cells D169 #[.int .i64 nw, .int .i64 nh, .int .i64 mx, .slice (some ⟨g0, 0, none⟩) NN cp] 26, .cells (B + 1 + 1) #[.int .i64 0, .int .i64 0, .int .i64 0, .slice none 0 0] 26, .cells (B + 1) #[.int .i64 qw, .int .i64 qh, .int .i64 qm, .slice a' n' c'] 26, .cells B #[.int .i64 nw, .int .i64 nh, .int .i64 mx, .slice a n c] 26] [] wr) (fun i _ => qh - (intOf i).toNat)
                  case atStart => exact ⟨0, by omega, rfl, H183.out.pick [0, 1, 2, 3, 4] rfl (by decide)⟩
                  case round =>
                    obtain ⟨k, hk, rfl, hst⟩ := hrel
                    obtain ⟨u189, rfl⟩ : ∃ u189 : World, u189 = wr := ⟨_, rfl⟩
                    have H190 := hid hst
                    clear hst
                    by_cases hkn : k < qh
                    · skip
                      have hkn' : (k : Int) < qh := by omega
                      obtain ⟨KO, hKO⟩ : ∃ m : Nat, (Y + k) * nw + X = m := ⟨_, rfl⟩
                      have HKO := hid hKO
                      obtain ⟨KQ, hKQ⟩ : ∃ m : Nat, k * qw = m := ⟨_, rfl⟩
                      have HKQ := hid hKQ
                      obtain ⟨PA, hPA⟩ : ∃ m : Nat, (Y + k) * nw = m := ⟨_, rfl⟩
                      have hp1 : ((Y : Int) + (k : Int)) * (nw : Int) = (PA : Int) := by rw [← hPA]; simp
                      have hp2 : (k : Int) * (qw : Int) = (KQ : Int) := by rw [← hKQ]; simp
                      have hp3 : ((k : Int) + 1) * (qw : Int) = (KQ : Int) + qw := by rw [Int.add_mul, Int.one_mul, hp2]
                      have hf1 := row_fits fx fy hkn
                      rw [hKO, HNN.out] at hf1
                      have hf2 : KQ + qw ≤ MM := by
                        have e1 : (k + 1) * qw ≤ qh * qw := Nat.mul_le_mul_right _ (by omega)
                        rw [HMM.out, Nat.add_mul, Nat.one_mul, hKQ] at e1
                        omega
                      rw [hPA] at hKO
                      have hp4 : (PA : Int) + (X : Int) = (KO : Int) := by omega
                      have HBR := hid (show (qs.drop KQ).take qw = bRow qs qw k qw from by rw [← hKQ]; exact bRow_part (by rw [hKQ, HQQ.out, HMM.out]; exact hf2))
                      have HBL := hid (show (bl zs qs nw X Y qw k).length = NN from by rw [bl_len HZL.out fx fy (by omega), HZL.out, HNN.out])
                      clear hPA hKQ hKO
                      have pa5 : PA ≤ 4096 := by omega
                      have z191 := H190.out.cell 4 rfl 0 rfl
                      have z192 := H190.out.cell 4 rfl 1 rfl
                      have z193 := H190.out.cell 4 rfl 2 rfl
                      have z194 := H190.out.cell 4 rfl 3 rfl
                      go_upto_region 12 with fail
                      clear z191 z192 z193 z194
                      obtain ⟨pbk, po, hpa⟩ := row_at (H190.out.old HQ.out).row (by omega)
                      subst hpa
                      have w1 : IntKind.i64.wrap ((KO : Int) + qw) = (KO : Int) + qw := IntWalk.i64_in _ (by omega)
                      have w2 : IntKind.i64.wrap ((KQ : Int) + qw) = (KQ : Int) + qw := IntWalk.i64_in _ (by omega)
                      have w3 : IntKind.i64.wrap ((k : Int) + 1) = (k : Int) + 1 := IntWalk.i64_in _ (by omega)
                      have w4 : IntKind.i64.wrap (KQ : Int) = KQ := IntWalk.i64_in _ (by omega)
                      have b1 : (0 : Int) ≤ (KO : Int) := by omega
                      have b2 : (KO : Int) ≤ (KO : Int) + qw := by omega
                      have b3 : (KO : Int) + qw ≤ (cp : Int) := by omega
                      have b4 : (KO : Int) < (cp : Int) := by omega
                      have b5 : (0 : Int) ≤ (KQ : Int) := by omega
                      have b6 : (KQ : Int) ≤ (KQ : Int) + qw := by omega
                      have b7 : (KQ : Int) + qw ≤ (c' : Int) := by omega
                      have b8 : (KQ : Int) < (c' : Int) := by omega
                      have b9 : ¬ (cp = KO) := by omega
                      have b10 : ¬ (c' = KQ) := by omega
                      have b11 : ((KO : Int) + (qw : Int)).toNat = KO + qw := by omega
                      have b12 : ((KQ : Int) + (qw : Int)).toNat = KQ + qw := by omega
                      have qhb : qh ≤ 128 := by omega
                      clear p1 p2 p3 p4 p5 p6 p7 q1 q2 q3 q4 q5 q6 q7 tw th gx gy sx sy pa5 hp1 hp4 hgm hgm' hqc hqcc m1 m2 m3 m4 fx fy
                      go_upto_region 12 with fail
                      have H195 := hid H190.out.drew
                      refine wp_region_held_drew (S := (fun w' => w'.cell? ⟨D169, 0, none⟩ = some (.int .i64 nw) ∧ w'.cell? ⟨D169, 1, none⟩ = some (.int .i64 nh) ∧ w'.cell? ⟨D169, 2, none⟩ = some (.int .i64 mx) ∧ w'.cell? ⟨D169, 3, none⟩ = some (.slice (some ⟨g0, 0, none⟩) NN cp) ∧ w'.cell? ⟨B + 1, 0, none⟩ = some (.int .i64 qw) ∧ w'.cell? ⟨B + 1, 1, none⟩ = some (.int .i64 qh) ∧ w'.cell? ⟨B + 1, 2, none⟩ = some (.int .i64 qm) ∧ w'.cell? ⟨B + 1, 3, none⟩ = some (.slice (some ⟨pbk, po, none⟩) n' c'))) (by kernel_rfl) ⟨H195.out.cell 1 rfl 0 rfl, H195.out.cell 1 rfl 1 rfl, H195.out.cell 1 rfl 2 rfl, H195.out.cell 1 rfl 3 rfl, H195.out.cell 3 rfl 0 rfl, H195.out.cell 3 rfl 1 rfl, H195.out.cell 3 rfl 2 rfl, H195.out.cell 3 rfl 3 rfl⟩ (fun hHeld => ?_)
                      generalize u189.drew = k196 at *
                      refine wpAnyH_take (i := 0) (oi := _) (v := ?_) rfl (by kernel_rfl) (by kernel_rfl) (by kernel_rfl) (fun _ _ _ h => h) (Or.inl ⟨by rfl, ?_⟩) (by assumption) ?_
                      rotate_left
                      focus (intro wS hSw; (try dsimp only at hSw); go_simp; (try with_reducible rfl))
                      try simp only [Act.put, List.getElem_toArray, List.getElem_cons_zero, List.getElem_cons_succ, List.setIfInBounds_toArray, List.set_cons_zero, List.set_cons_succ]
                      refine wpAnyH_take (i := 1) (oi := _) (v := ?_) rfl (by kernel_rfl) (by kernel_rfl) (by kernel_rfl) (fun _ _ _ h => h) (Or.inl ⟨by rfl, ?_⟩) (by assumption) ?_
                      rotate_left
                      focus (intro wS hSw; (try dsimp only at hSw); go_simp; (try with_reducible rfl))
                      try simp only [Act.put, List.getElem_toArray, List.getElem_cons_zero, List.getElem_cons_succ, List.setIfInBounds_toArray, List.set_cons_zero, List.set_cons_succ]
                      refine wpAnyH_take (i := 2) (oi := _) (v := ?_) rfl (by kernel_rfl) (by kernel_rfl) (by kernel_rfl) (fun _ _ _ h => h) (Or.inl ⟨by rfl, ?_⟩) (by assumption) ?_
                      rotate_left
                      focus (intro wS hSw; (try dsimp only at hSw); go_simp; (try with_reducible rfl))
                      try simp only [Act.put, List.getElem_toArray, List.getElem_cons_zero, List.getElem_cons_succ, List.setIfInBounds_toArray, List.set_cons_zero, List.set_cons_succ]
                      refine wpAnyH_take (i := 3) (oi := _) (v := ?_) rfl (by kernel_rfl) (by kernel_rfl) (by kernel_rfl) (fun _ _ _ h => h) (Or.inl ⟨by rfl, ?_⟩) (by assumption) ?_
                      rotate_left
                      focus (intro wS hSw; (try dsimp only at hSw); go_simp; (try with_reducible rfl))
                      try simp only [Act.put, List.getElem_toArray, List.getElem_cons_zero, List.getElem_cons_succ, List.setIfInBounds_toArray, List.set_cons_zero, List.set_cons_succ]
                      refine wpAnyH_take (i := 4) (oi := _) (v := ?_) rfl (by kernel_rfl) (by kernel_rfl) (by kernel_rfl) (fun _ _ _ h => h) (Or.inl ⟨by rfl, ?_⟩) (by assumption) ?_
                      rotate_left
                      focus (intro wS hSw; (try dsimp only at hSw); go_simp; (try with_reducible rfl))
                      try simp only [Act.put, List.getElem_toArray, List.getElem_cons_zero, List.getElem_cons_succ, List.setIfInBounds_toArray, List.set_cons_zero, List.set_cons_succ]
                      refine wpAnyH_take (i := 5) (oi := _) (v := ?_) rfl (by kernel_rfl) (by kernel_rfl) (by kernel_rfl) (fun _ _ _ h => h) (Or.inl ⟨by rfl, ?_⟩) (by assumption) ?_
                      rotate_left
                      focus (intro wS hSw; (try dsimp only at hSw); go_simp; (try with_reducible rfl))
                      try simp only [Act.put, List.getElem_toArray, List.getElem_cons_zero, List.getElem_cons_succ, List.setIfInBounds_toArray, List.set_cons_zero, List.set_cons_succ]
                      refine wpAnyH_take (i := 6) (oi := _) (v := ?_) rfl (by kernel_rfl) (by kernel_rfl) (by kernel_rfl) (fun _ _ _ h => h) (Or.inl ⟨by rfl, ?_⟩) (by assumption) ?_
                      rotate_left
                      focus (intro wS hSw; (try dsimp only at hSw); go_simp; (try with_reducible rfl))
                      try simp only [Act.put, List.getElem_toArray, List.getElem_cons_zero, List.getElem_cons_succ, List.setIfInBounds_toArray, List.set_cons_zero, List.set_cons_succ]
                      refine wpAnyH_take (i := 7) (oi := _) (v := ?_) rfl (by kernel_rfl) (by kernel_rfl) (by kernel_rfl) (fun _ _ _ h => h) (Or.inl ⟨by rfl, ?_⟩) (by assumption) ?_
                      rotate_left
                      focus (intro wS hSw; (try dsimp only at hSw); go_simp; (try with_reducible rfl))
                      try simp only [Act.put, List.getElem_toArray, List.getElem_cons_zero, List.getElem_cons_succ, List.setIfInBounds_toArray, List.set_cons_zero, List.set_cons_succ]
                      refine wpAnyH_take (i := 8) (oi := _) (v := ?_) rfl (by kernel_rfl) (by kernel_rfl) (by kernel_rfl) (fun _ _ _ h => h) (Or.inl ⟨by rfl, ?_⟩) (by assumption) ?_
                      rotate_left
                      focus (intro wS hSw; (try dsimp only at hSw); go_simp; (try with_reducible rfl))
                      try simp only [Act.put, List.getElem_toArray, List.getElem_cons_zero, List.getElem_cons_succ, List.setIfInBounds_toArray, List.set_cons_zero, List.set_cons_succ]
                      refine wpAnyH_take (i := 9) (oi := _) (v := ?_) rfl (by kernel_rfl) (by kernel_rfl) (by kernel_rfl) (fun _ _ _ h => h) (Or.inl ⟨by rfl, ?_⟩) (by assumption) ?_
                      rotate_left
                      focus (intro wS hSw; (try dsimp only at hSw); go_simp; (try with_reducible rfl))
                      try simp only [Act.put, List.getElem_toArray, List.getElem_cons_zero, List.getElem_cons_succ, List.setIfInBounds_toArray, List.set_cons_zero, List.set_cons_succ]
                      refine wpAnyH_take (i := 10) (oi := _) (v := ?_) rfl (by kernel_rfl) (by kernel_rfl) (by kernel_rfl) (fun _ _ _ h => h) (Or.inl ⟨by rfl, ?_⟩) (by assumption) ?_
                      rotate_left
                      focus (intro wS hSw; (try dsimp only at hSw); go_simp; (try with_reducible rfl))
                      try simp only [Act.put, List.getElem_toArray, List.getElem_cons_zero, List.getElem_cons_succ, List.setIfInBounds_toArray, List.set_cons_zero, List.set_cons_succ]
                      refine wpAnyH_take (i := 11) (oi := _) (v := ?_) rfl (by kernel_rfl) (by kernel_rfl) (by kernel_rfl) (fun _ _ _ h => h) (Or.inl ⟨by rfl, ?_⟩) (by assumption) ?_
                      rotate_left
                      focus (intro wS hSw; (try dsimp only at hSw); go_simp; (try with_reducible rfl))
                      try simp only [Act.put, List.getElem_toArray, List.getElem_cons_zero, List.getElem_cons_succ, List.setIfInBounds_toArray, List.set_cons_zero, List.set_cons_succ]
                      refine wpAnyH_take (i := 12) (oi := _) (v := ?_) rfl (by kernel_rfl) (by kernel_rfl) (by kernel_rfl) (fun _ _ _ h => h) (Or.inl ⟨by rfl, ?_⟩) (by assumption) ?_
                      rotate_left
                      focus (intro wS hSw; (try dsimp only at hSw); go_simp; (try with_reducible rfl))
                      try simp only [Act.put, List.getElem_toArray, List.getElem_cons_zero, List.getElem_cons_succ, List.setIfInBounds_toArray, List.set_cons_zero, List.set_cons_succ]
                      refine wpAnyH_take (i := 13) (oi := _) (v := ?_) rfl (by kernel_rfl) (by kernel_rfl) (by kernel_rfl) (fun _ _ _ h => h) (Or.inl ⟨by rfl, ?_⟩) (by assumption) ?_
                      rotate_left
                      focus (intro wS hSw; (try dsimp only at hSw); go_simp; (try with_reducible rfl))
                      try simp only [Act.put, List.getElem_toArray, List.getElem_cons_zero, List.getElem_cons_succ, List.setIfInBounds_toArray, List.set_cons_zero, List.set_cons_succ]
                      refine wpAnyH_take (i := 14) (oi := _) (v := ?_) rfl (by kernel_rfl) (by kernel_rfl) (by kernel_rfl) (fun _ _ _ h => h) (Or.inl ⟨by rfl, ?_⟩) (by assumption) ?_
                      rotate_left
                      focus (intro wS hSw; (try dsimp only at hSw); go_simp; (try with_reducible rfl))
                      try simp only [Act.put, List.getElem_toArray, List.getElem_cons_zero, List.getElem_cons_succ, List.setIfInBounds_toArray, List.set_cons_zero, List.set_cons_succ]
                      refine wpAnyH_take (i := 15) (oi := _) (v := ?_) rfl (by kernel_rfl) (by kernel_rfl) (by kernel_rfl) (fun _ _ _ h => h) (Or.inl ⟨by rfl, ?_⟩) (by assumption) ?_
                      rotate_left
                      focus (intro wS hSw; (try dsimp only at hSw); go_simp; (try with_reducible rfl))
                      try simp only [Act.put, List.getElem_toArray, List.getElem_cons_zero, List.getElem_cons_succ, List.setIfInBounds_toArray, List.set_cons_zero, List.set_cons_succ]
                      refine wpAnyH_take (i := 16) (oi := _) (v := ?_) rfl (by kernel_rfl) (by kernel_rfl) (by kernel_rfl) (fun _ _ _ h => h) (Or.inl ⟨by rfl, ?_⟩) (by assumption) ?_
                      rotate_left
                      focus (intro wS hSw; (try dsimp only at hSw); go_simp; (try with_reducible rfl))
                      try simp only [Act.put, List.getElem_toArray, List.getElem_cons_zero, List.getElem_cons_succ, List.setIfInBounds_toArray, List.set_cons_zero, List.set_cons_succ]
                      refine wpAnyH_take (i := 17) (oi := _) (v := ?_) rfl (by kernel_rfl) (by kernel_rfl) (by kernel_rfl) (fun _ _ _ h => h) (Or.inl ⟨by rfl, ?_⟩) (by assumption) ?_
                      rotate_left
                      focus (intro wS hSw; (try dsimp only at hSw); go_simp; (try with_reducible rfl))
                      try simp only [Act.put, List.getElem_toArray, List.getElem_cons_zero, List.getElem_cons_succ, List.setIfInBounds_toArray, List.set_cons_zero, List.set_cons_succ]
                      refine wpAnyH_take (i := 18) (oi := _) (v := ?_) rfl (by kernel_rfl) (by kernel_rfl) (by kernel_rfl) (fun _ _ _ h => h) (Or.inl ⟨by rfl, ?_⟩) (by assumption) ?_
                      rotate_left
                      focus (intro wS hSw; (try dsimp only at hSw); go_simp; (try with_reducible rfl))
                      try simp only [Act.put, List.getElem_toArray, List.getElem_cons_zero, List.getElem_cons_succ, List.setIfInBounds_toArray, List.set_cons_zero, List.set_cons_succ]
                      refine wpAnyH_take (i := 19) (oi := _) (v := ?_) rfl (by kernel_rfl) (by kernel_rfl) (by kernel_rfl) (fun _ _ _ h => h) (Or.inl ⟨by rfl, ?_⟩) (by assumption) ?_
                      rotate_left
                      focus (intro wS hSw; (try dsimp only at hSw); go_simp; (try with_reducible rfl))
                      try simp only [Act.put, List.getElem_toArray, List.getElem_cons_zero, List.getElem_cons_succ, List.setIfInBounds_toArray, List.set_cons_zero, List.set_cons_succ]
                      refine wpAnyH_ready (rs := [20]) (by kernel_rfl) (by simp) (AllReadyH.cons (o := _) rfl (fun K hK => ?_) AllReadyH.nil)
                      refine oper_copy_own _ _ rfl B g0 KO NN cp _ qw pbk (po + KQ) _ (bl zs qs nw X Y qw k) (bRow qs qw k qw) (by rfl) (by rfl) (H195.out.own 0 rfl) (by rw [← HBR.out]; exact (H195.out.old HQ.out).row.part KQ qw (by omega)) (by rw [HBL.out]; omega) ?_
                      intro k198 ho hg
                      have H197 := hid (H195.out.append 0 rfl ho hg (.inl rfl))
                      clear ho hg
                      refine hK.out _ _ ?_ (fun hHeld2 => ?_)
                      focus ((try dsimp only); (exact ⟨H197.out.cell 1 rfl 0 rfl, H197.out.cell 1 rfl 1 rfl, H197.out.cell 1 rfl 2 rfl, H197.out.cell 1 rfl 3 rfl, H197.out.cell 3 rfl 0 rfl, H197.out.cell 3 rfl 1 rfl, H197.out.cell 3 rfl 2 rfl, H197.out.cell 3 rfl 3 rfl⟩))
                      clear hK K
                      try simp only [Act.put, List.getElem_toArray, List.getElem_cons_zero, List.getElem_cons_succ, List.setIfInBounds_toArray, List.set_cons_zero, List.set_cons_succ]
                      clear hHeld
                      have hHeld := hHeld2
                      clear hHeld2
                      refine wpAnyH_done (by kernel_rfl) ?_ _
                      try clear hHeld
                      clear w1 w2 w3 w4 b1 b2 b3 b4 b5 b6 b7 b8 b9 b10 b11 b12
                      go_wp2_with fail
                      go_roundw
                      case rel => exact ⟨k + 1, by omega, by go_num, by unfold bl; rw [HKO.out]; exact H197.out⟩
                      case measure => first | (simp [intOf]; omega) | (simp [intOf]; done)
                    · skip
                      have hkn' : ¬ ((k : Int) < qh) := by omega
                      have HKL := hid (show k = qh by omega)
                      have z199 := H190.out.cell 1 rfl 0 rfl
                      have z200 := H190.out.cell 1 rfl 1 rfl
                      have z201 := H190.out.cell 1 rfl 2 rfl
                      have z202 := H190.out.cell 1 rfl 3 rfl
                      have z203 := H190.out.cell 2 rfl 0 rfl
                      have z204 := H190.out.free 2 rfl 0
                      have z205 := H190.out.cell 2 rfl 1 rfl
                      have z206 := H190.out.free 2 rfl 1
                      have z207 := H190.out.cell 2 rfl 2 rfl
                      have z208 := H190.out.free 2 rfl 2
                      have z209 := H190.out.cell 2 rfl 3 rfl
                      have z210 := H190.out.free 2 rfl 3
                      go_wp2_with fail
                      clear z199 z200 z201 z202 z203 z204 z205 z206 z207 z208 z209 z210
                      have H211 := hid (show St B W [.own (.slice (some ⟨g0, 0, none⟩) NN cp) (bl zs qs nw X Y qw k), .cells D169 #[.int .i64 nw, .int .i64 nh, .int .i64 mx, .slice (some ⟨g0, 0, none⟩) NN cp] 26, .cells (B + 1 + 1) #[.int .i64 nw, .int .i64 nh, .int .i64 mx, .slice (some ⟨g0, 0, none⟩) NN cp] 26, .cells (B + 1) #[.int .i64 qw, .int .i64 qh, .int .i64 qm, .slice a' n' c'] 26, .cells B #[.int .i64 nw, .int .i64 nh, .int .i64 mx, .slice a n c] 26] [] ((((u189.setCell ⟨B + 1 + 1, 0, none⟩ (.int .i64 nw)).setCell ⟨B + 1 + 1, 1, none⟩ (.int .i64 nh)).setCell ⟨B + 1 + 1, 2, none⟩ (.int .i64 mx)).setCell ⟨B + 1 + 1, 3, none⟩ (.slice (some ⟨g0, 0, none⟩) NN cp)) from (H190.out.set4 2 rfl (.int .i64 nw) (.int .i64 nh) (.int .i64 mx) (.slice (some ⟨g0, 0, none⟩) NN cp)))
                      have HOK := hid (show blOk nw nh mx zs qw qh qm qs X Y = true from blOk_iff.2 ⟨HV.out, HVQ.out, by omega, HALL.out⟩)
                      have HCI := hid (show ∀ z, blIf nw nh mx zs qw qh qm qs X Y z = z from fun z => by unfold blIf; rw [if_pos HOK.out])
                      have HCL := hid (show blList nw nh mx zs qw qh qm qs X Y = bl zs qs nw X Y qw k from by unfold blList; rw [if_pos HOK.out, HKL.out]; rfl)
                      have q212 := H211.out.cell 2 rfl 0 rfl
                      have q213 := H211.out.cell 2 rfl 1 rfl
                      have q214 := H211.out.cell 2 rfl 2 rfl
                      have q215 := H211.out.cell 2 rfl 3 rfl
                      refine bodyPost_ret (v := .tuple #[.agg #[.int .i64 nw, .int .i64 nh, .int .i64 mx, .slice (some ⟨g0, 0, none⟩) NN cp], .bool true]) ?_ rfl ⟨_, by rw [HCI.out, HCI.out, HCI.out, HOK.out], by rw [HCL.out, hB]; exact H211.out.own 0 rfl, by first | exact H211.out.below | exact H211.out.below'⟩
                      simp [results, Try.results50, go_sem, q212, q213, q214, q215]
    | false =>
      have z216 := H14.out.cell 0 rfl 0 rfl
      have z217 := H14.out.free 0 rfl 0
      have z218 := H14.out.cell 0 rfl 1 rfl
      have z219 := H14.out.free 0 rfl 1
      have z220 := H14.out.cell 0 rfl 2 rfl
      have z221 := H14.out.free 0 rfl 2
      have z222 := H14.out.cell 0 rfl 3 rfl
      have z223 := H14.out.free 0 rfl 3
      go_wp2_with fail
      clear z216 z217 z218 z219 z220 z221 z222 z223
      have H224 := hid (show St B W [.cells (B + 1 + 1) #[.int .i64 0, .int .i64 0, .int .i64 0, .slice none 0 0] 26, .cells (B + 1) #[.int .i64 u, .int .i64 v, .int .i64 qm, .slice a' n' c'] 26, .cells B #[.int .i64 w, .int .i64 h, .int .i64 mx, .slice a n c] 26] [] ((((w13.setCell ⟨B + 1 + 1, 0, none⟩ (.int .i64 0)).setCell ⟨B + 1 + 1, 1, none⟩ (.int .i64 0)).setCell ⟨B + 1 + 1, 2, none⟩ (.int .i64 0)).setCell ⟨B + 1 + 1, 3, none⟩ (.slice none 0 0)) from (H14.out.set4 0 rfl (.int .i64 0) (.int .i64 0) (.int .i64 0) (.slice none 0 0)))
      have HNO := hid (show blOk w h mx zs u v qm qs x y = false from blOk_no (fun hb => by have := hb.2.1; rw [HVQ.out] at this; cases this))
      have q225 := H224.out.cell 0 rfl 0 rfl
      have q226 := H224.out.cell 0 rfl 1 rfl
      have q227 := H224.out.cell 0 rfl 2 rfl
      have q228 := H224.out.cell 0 rfl 3 rfl
      refine bodyPost_ret (v := .tuple #[.agg #[.int .i64 0, .int .i64 0, .int .i64 0, .slice none 0 0], .bool false]) ?_ rfl (blit_no HNO.out (by first | exact H224.out.below | exact H224.out.below'))
      simp [results, Try.results50, go_sem, q225, q226, q227, q228]
  | false =>
    have z229 := H8.out.cell 0 rfl 0 rfl
    have z230 := H8.out.free 0 rfl 0
    have z231 := H8.out.cell 0 rfl 1 rfl
    have z232 := H8.out.free 0 rfl 1
    have z233 := H8.out.cell 0 rfl 2 rfl
    have z234 := H8.out.free 0 rfl 2
    have z235 := H8.out.cell 0 rfl 3 rfl
    have z236 := H8.out.free 0 rfl 3
    go_wp2_with fail
    clear z229 z230 z231 z232 z233 z234 z235 z236
    have H237 := hid (show St B W [.cells (B + 1 + 1) #[.int .i64 0, .int .i64 0, .int .i64 0, .slice none 0 0] 26, .cells (B + 1) #[.int .i64 u, .int .i64 v, .int .i64 qm, .slice a' n' c'] 26, .cells B #[.int .i64 w, .int .i64 h, .int .i64 mx, .slice a n c] 26] [] ((((w7.setCell ⟨B + 1 + 1, 0, none⟩ (.int .i64 0)).setCell ⟨B + 1 + 1, 1, none⟩ (.int .i64 0)).setCell ⟨B + 1 + 1, 2, none⟩ (.int .i64 0)).setCell ⟨B + 1 + 1, 3, none⟩ (.slice none 0 0)) from (H8.out.set4 0 rfl (.int .i64 0) (.int .i64 0) (.int .i64 0) (.slice none 0 0)))
    have HNO := hid (show blOk w h mx zs u v qm qs x y = false from blOk_no (fun hb => by have := hb.1; rw [HV.out] at this; cases this))
    have q238 := H237.out.cell 0 rfl 0 rfl
    have q239 := H237.out.cell 0 rfl 1 rfl
    have q240 := H237.out.cell 0 rfl 2 rfl
    have q241 := H237.out.cell 0 rfl 3 rfl
    refine bodyPost_ret (v := .tuple #[.agg #[.int .i64 0, .int .i64 0, .int .i64 0, .slice none 0 0], .bool false]) ?_ rfl (blit_no HNO.out (by first | exact H237.out.below | exact H237.out.below'))
    simp [results, Try.results50, go_sem, q238, q239, q240, q241]
end

section
open Go.RowKit
attribute [local go_sem ↓] Go.wp_at_zero Go.wp_at_succ
set_option linter.unusedVariables false
set_option linter.unusedSimpArgs false

set_option maxRecDepth 100000 in
set_option maxHeartbeats 6400000 in
theorem qblit_any (w h mx : Int) (a : Option Addr) (n c : Nat) (zs : List Int) (u v qm : Int) (a' : Option Addr) (n' c' : Nat) (qs : List Int) (x y : Int) (W : World) (hs : Slc W a n c zs) (hq : Slc W a' n' c' qs) :
    Calls Try.prog 62 #[.agg #[.int .i64 w, .int .i64 h, .int .i64 mx, .slice a n c], .agg #[.int .i64 u, .int .i64 v, .int .i64 qm, .slice a' n' c'], .int .i64 x, .int .i64 y] W (BlitPost w h mx zs u v qm qs x y W) := by
  obtain ⟨B, hB⟩ : ∃ B, W.heap.size = B := ⟨_, rfl⟩
  have HI0 := hid (St.init hB)
  have HS := hid hs
  have HL := hid hs.len
  have HQ := hid hq
  have HQL := hid hq.len
  have hqc : n' ≤ c' := hq.nc
  have hqcc : (c' : Int) ≤ 9223372036854775807 := by have := hq.cap; omega
  clear hs hq
  go_enter Try.func62, Try.ntmps62
  go_upto_region 1 with fail
  have H242 := hid (show St B W [.cells (B + 1 + 1) #[.int .i64 0, .int .i64 0, .int .i64 0, .slice none 0 0] 26, .cells (B + 1) #[.int .i64 u, .int .i64 v, .int .i64 qm, .slice a' n' c'] 26, .cells B #[.int .i64 w, .int .i64 h, .int .i64 mx, .slice a n c] 26] [] (((W.alloc (.cells #[.int .i64 w, .int .i64 h, .int .i64 mx, .slice a n c] 26)).alloc (.cells #[.int .i64 u, .int .i64 v, .int .i64 qm, .slice a' n' c'] 26)).alloc (.cells #[.int .i64 0, .int .i64 0, .int .i64 0, .slice none 0 0] 26)) from (((HI0.out.alloc #[.int .i64 w, .int .i64 h, .int .i64 mx, .slice a n c] 26 hB).alloc #[.int .i64 u, .int .i64 v, .int .i64 qm, .slice a' n' c'] 26 (by first | exact hB | simp [hB])).alloc #[.int .i64 0, .int .i64 0, .int .i64 0, .slice none 0 0] 26 (by first | exact hB | simp [hB])))
  first | refine gen_code H242.out ?_ | refine gen_list H242.out ?_ | refine gen_calls H242.out ?_
  intro w243 hG
  clear H242
  have H242 := hid hG
  clear hG
  have z244 := H242.out.cell 2 rfl 0 rfl
  have z245 := H242.out.cell 2 rfl 1 rfl
  have z246 := H242.out.cell 2 rfl 2 rfl
  have z247 := H242.out.cell 2 rfl 3 rfl
  go_wp2_with fail
  clear z244 z245 z246 z247
  refine (qpvalid_any _ _ _ _ _ _ _ _ (by have := HS.out.nc; have := HS.out.cap; omega) (H242.out.old HS.out).row).mono ?_
  rintro e w248 ⟨rfl, hb⟩
  have H249 := hid (H242.out.call hb)
  clear hb
  obtain ⟨bv, hbv⟩ : ∃ b, pValid w h mx zs = b := ⟨_, rfl⟩
  rw [hbv]
  have HV := hid hbv
  clear hbv
  cases bv with
  | true =>
    have z250 := H249.out.cell 1 rfl 0 rfl
    have z251 := H249.out.cell 1 rfl 1 rfl
    have z252 := H249.out.cell 1 rfl 2 rfl
    have z253 := H249.out.cell 1 rfl 3 rfl
    go_wp2_with fail
    clear z250 z251 z252 z253
    refine (qpvalid_any _ _ _ _ _ _ _ _ (by have := HQ.out.nc; have := HQ.out.cap; omega) (H249.out.old HQ.out).row).mono ?_
    rintro e w254 ⟨rfl, hb⟩
    have H255 := hid (H249.out.call hb)
    clear hb
    obtain ⟨bq, hbq⟩ : ∃ b, pValid u v qm qs = b := ⟨_, rfl⟩
    rw [hbq]
    have HVQ := hid hbq
    clear hbq
    cases bq with
    | true =>
      obtain ⟨p1, p2, p3, p4, p5, p6, p7⟩ := pOk_iff.1 (pValid_iff.1 HV.out).1
      obtain ⟨q1, q2, q3, q4, q5, q6, q7⟩ := pOk_iff.1 (pValid_iff.1 HVQ.out).1
      by_cases c256 : (x : Int) < 0
      · skip
        have z257 := H255.out.cell 0 rfl 0 rfl
        have z258 := H255.out.free 0 rfl 0
        have z259 := H255.out.cell 0 rfl 1 rfl
        have z260 := H255.out.free 0 rfl 1
        have z261 := H255.out.cell 0 rfl 2 rfl
        have z262 := H255.out.free 0 rfl 2
        have z263 := H255.out.cell 0 rfl 3 rfl
        have z264 := H255.out.free 0 rfl 3
        go_wp2_with fail
        clear z257 z258 z259 z260 z261 z262 z263 z264
        have H265 := hid (show St B W [.cells (B + 1 + 1) #[.int .i64 0, .int .i64 0, .int .i64 0, .slice none 0 0] 26, .cells (B + 1) #[.int .i64 u, .int .i64 v, .int .i64 qm, .slice a' n' c'] 26, .cells B #[.int .i64 w, .int .i64 h, .int .i64 mx, .slice a n c] 26] [] ((((w254.setCell ⟨B + 1 + 1, 0, none⟩ (.int .i64 0)).setCell ⟨B + 1 + 1, 1, none⟩ (.int .i64 0)).setCell ⟨B + 1 + 1, 2, none⟩ (.int .i64 0)).setCell ⟨B + 1 + 1, 3, none⟩ (.slice none 0 0)) from (H255.out.set4 0 rfl (.int .i64 0) (.int .i64 0) (.int .i64 0) (.slice none 0 0)))
        have HNO := hid (show blOk w h mx zs u v qm qs x y = false from blOk_no (fun hb => by have := hb.2.2.1; omega))
        have q266 := H265.out.cell 0 rfl 0 rfl
        have q267 := H265.out.cell 0 rfl 1 rfl
        have q268 := H265.out.cell 0 rfl 2 rfl
        have q269 := H265.out.cell 0 rfl 3 rfl
        refine bodyPost_ret (v := .tuple #[.agg #[.int .i64 0, .int .i64 0, .int .i64 0, .slice none 0 0], .bool false]) ?_ rfl (blit_no HNO.out (by first | exact H265.out.below | exact H265.out.below'))
        simp [results, Try.results62, go_sem, q266, q267, q268, q269]
      · skip
        by_cases c270 : (y : Int) < 0
        · skip
          have z271 := H255.out.cell 0 rfl 0 rfl
          have z272 := H255.out.free 0 rfl 0
          have z273 := H255.out.cell 0 rfl 1 rfl
          have z274 := H255.out.free 0 rfl 1
          have z275 := H255.out.cell 0 rfl 2 rfl
          have z276 := H255.out.free 0 rfl 2
          have z277 := H255.out.cell 0 rfl 3 rfl
          have z278 := H255.out.free 0 rfl 3
          go_wp2_with fail
          clear z271 z272 z273 z274 z275 z276 z277 z278
          have H279 := hid (show St B W [.cells (B + 1 + 1) #[.int .i64 0, .int .i64 0, .int .i64 0, .slice none 0 0] 26, .cells (B + 1) #[.int .i64 u, .int .i64 v, .int .i64 qm, .slice a' n' c'] 26, .cells B #[.int .i64 w, .int .i64 h, .int .i64 mx, .slice a n c] 26] [] ((((w254.setCell ⟨B + 1 + 1, 0, none⟩ (.int .i64 0)).setCell ⟨B + 1 + 1, 1, none⟩ (.int .i64 0)).setCell ⟨B + 1 + 1, 2, none⟩ (.int .i64 0)).setCell ⟨B + 1 + 1, 3, none⟩ (.slice none 0 0)) from (H255.out.set4 0 rfl (.int .i64 0) (.int .i64 0) (.int .i64 0) (.slice none 0 0)))
          have HNO := hid (show blOk w h mx zs u v qm qs x y = false from blOk_no (fun hb => by have := hb.2.2.1; omega))
          have q280 := H279.out.cell 0 rfl 0 rfl
          have q281 := H279.out.cell 0 rfl 1 rfl
          have q282 := H279.out.cell 0 rfl 2 rfl
          have q283 := H279.out.cell 0 rfl 3 rfl
          refine bodyPost_ret (v := .tuple #[.agg #[.int .i64 0, .int .i64 0, .int .i64 0, .slice none 0 0], .bool false]) ?_ rfl (blit_no HNO.out (by first | exact H279.out.below | exact H279.out.below'))
          simp [results, Try.results62, go_sem, q280, q281, q282, q283]
        · skip
          by_cases c284 : (w - u : Int) < x
          · skip
            have z285 := H255.out.cell 2 rfl 0 rfl
            have z286 := H255.out.cell 2 rfl 1 rfl
            have z287 := H255.out.cell 2 rfl 2 rfl
            have z288 := H255.out.cell 2 rfl 3 rfl
            have z289 := H255.out.cell 1 rfl 0 rfl
            have z290 := H255.out.cell 1 rfl 1 rfl
            have z291 := H255.out.cell 1 rfl 2 rfl
            have z292 := H255.out.cell 1 rfl 3 rfl
            have z293 := H255.out.cell 0 rfl 0 rfl
            have z294 := H255.out.free 0 rfl 0
            have z295 := H255.out.cell 0 rfl 1 rfl
            have z296 := H255.out.free 0 rfl 1
            have z297 := H255.out.cell 0 rfl 2 rfl
            have z298 := H255.out.free 0 rfl 2
            have z299 := H255.out.cell 0 rfl 3 rfl
            have z300 := H255.out.free 0 rfl 3
            go_wp2_with fail
            clear z285 z286 z287 z288 z289 z290 z291 z292 z293 z294 z295 z296 z297 z298 z299 z300
            have H301 := hid (show St B W [.cells (B + 1 + 1) #[.int .i64 0, .int .i64 0, .int .i64 0, .slice none 0 0] 26, .cells (B + 1) #[.int .i64 u, .int .i64 v, .int .i64 qm, .slice a' n' c'] 26, .cells B #[.int .i64 w, .int .i64 h, .int .i64 mx, .slice a n c] 26] [] ((((w254.setCell ⟨B + 1 + 1, 0, none⟩ (.int .i64 0)).setCell ⟨B + 1 + 1, 1, none⟩ (.int .i64 0)).setCell ⟨B + 1 + 1, 2, none⟩ (.int .i64 0)).setCell ⟨B + 1 + 1, 3, none⟩ (.slice none 0 0)) from (H255.out.set4 0 rfl (.int .i64 0) (.int .i64 0) (.int .i64 0) (.slice none 0 0)))
            have HNO := hid (show blOk w h mx zs u v qm qs x y = false from blOk_no (fun hb => by have := hb.2.2.1; omega))
            have q302 := H301.out.cell 0 rfl 0 rfl
            have q303 := H301.out.cell 0 rfl 1 rfl
            have q304 := H301.out.cell 0 rfl 2 rfl
            have q305 := H301.out.cell 0 rfl 3 rfl
            refine bodyPost_ret (v := .tuple #[.agg #[.int .i64 0, .int .i64 0, .int .i64 0, .slice none 0 0], .bool false]) ?_ rfl (blit_no HNO.out (by first | exact H301.out.below | exact H301.out.below'))
            simp [results, Try.results62, go_sem, q302, q303, q304, q305]
          · skip
            by_cases c306 : (h - v : Int) < y
            · skip
              have z307 := H255.out.cell 2 rfl 0 rfl
              have z308 := H255.out.cell 2 rfl 1 rfl
              have z309 := H255.out.cell 2 rfl 2 rfl
              have z310 := H255.out.cell 2 rfl 3 rfl
              have z311 := H255.out.cell 1 rfl 0 rfl
              have z312 := H255.out.cell 1 rfl 1 rfl
              have z313 := H255.out.cell 1 rfl 2 rfl
              have z314 := H255.out.cell 1 rfl 3 rfl
              have z315 := H255.out.cell 0 rfl 0 rfl
              have z316 := H255.out.free 0 rfl 0
              have z317 := H255.out.cell 0 rfl 1 rfl
              have z318 := H255.out.free 0 rfl 1
              have z319 := H255.out.cell 0 rfl 2 rfl
              have z320 := H255.out.free 0 rfl 2
              have z321 := H255.out.cell 0 rfl 3 rfl
              have z322 := H255.out.free 0 rfl 3
              go_wp2_with fail
              clear z307 z308 z309 z310 z311 z312 z313 z314 z315 z316 z317 z318 z319 z320 z321 z322
              have H323 := hid (show St B W [.cells (B + 1 + 1) #[.int .i64 0, .int .i64 0, .int .i64 0, .slice none 0 0] 26, .cells (B + 1) #[.int .i64 u, .int .i64 v, .int .i64 qm, .slice a' n' c'] 26, .cells B #[.int .i64 w, .int .i64 h, .int .i64 mx, .slice a n c] 26] [] ((((w254.setCell ⟨B + 1 + 1, 0, none⟩ (.int .i64 0)).setCell ⟨B + 1 + 1, 1, none⟩ (.int .i64 0)).setCell ⟨B + 1 + 1, 2, none⟩ (.int .i64 0)).setCell ⟨B + 1 + 1, 3, none⟩ (.slice none 0 0)) from (H255.out.set4 0 rfl (.int .i64 0) (.int .i64 0) (.int .i64 0) (.slice none 0 0)))
              have HNO := hid (show blOk w h mx zs u v qm qs x y = false from blOk_no (fun hb => by have := hb.2.2.1; omega))
              have q324 := H323.out.cell 0 rfl 0 rfl
              have q325 := H323.out.cell 0 rfl 1 rfl
              have q326 := H323.out.cell 0 rfl 2 rfl
              have q327 := H323.out.cell 0 rfl 3 rfl
              refine bodyPost_ret (v := .tuple #[.agg #[.int .i64 0, .int .i64 0, .int .i64 0, .slice none 0 0], .bool false]) ?_ rfl (blit_no HNO.out (by first | exact H323.out.below | exact H323.out.below'))
              simp [results, Try.results62, go_sem, q324, q325, q326, q327]
            · skip
              obtain ⟨nw, hnw⟩ : ∃ m : Nat, w = m := ⟨w.toNat, by omega⟩
              obtain ⟨nh, hnh⟩ : ∃ m : Nat, h = m := ⟨h.toNat, by omega⟩
              obtain ⟨qw, hqw⟩ : ∃ m : Nat, u = m := ⟨u.toNat, by omega⟩
              obtain ⟨qh, hqh⟩ : ∃ m : Nat, v = m := ⟨v.toNat, by omega⟩
              obtain ⟨X, hX⟩ : ∃ m : Nat, x = m := ⟨x.toNat, by omega⟩
              obtain ⟨Y, hY⟩ : ∃ m : Nat, y = m := ⟨y.toNat, by omega⟩
              obtain ⟨fx, fy, sx, sy, tw, th, gx, gy⟩ : X + qw ≤ nw ∧ Y + qh ≤ nh ∧ 1 ≤ qw ∧ 1 ≤ qh ∧ nw ≤ 128 ∧ nh ≤ 128 ∧ X ≤ 128 ∧ Y ≤ 128 := by omega
              have hzl : zs.length = nh * nw := by have h1 := (pValid_iff.1 HV.out).2.1; rw [hnw, hnh, Int.mul_comm] at h1; exact_mod_cast h1
              have hql : qs.length = qh * qw := by have h1 := (pValid_iff.1 HVQ.out).2.1; rw [hqw, hqh, Int.mul_comm] at h1; exact_mod_cast h1
              have HZL := hid hzl
              have HQQ := hid hql
              have hn1 : n = nh * nw := by rw [← HL.out]; exact hzl
              have hn2 : n' = qh * qw := by rw [← HQL.out]; exact hql
              obtain ⟨NN, hNN⟩ : ∃ N : Nat, nh * nw = N := ⟨_, rfl⟩
              obtain ⟨MM, hMM⟩ : ∃ N : Nat, qh * qw = N := ⟨_, rfl⟩
              have m1 : 1 ≤ MM := by rw [← hMM]; exact Nat.mul_pos (by omega) (by omega)
              have m2 : 1 ≤ NN := by rw [← hNN]; exact Nat.mul_pos (by omega) (by omega)
              have m3 : NN ≤ 4096 := by have h1 := (pValid_iff.1 HV.out).2.1; rw [hzl, hNN] at h1; omega
              have m4 : MM ≤ 4096 := by have h1 := (pValid_iff.1 HVQ.out).2.1; rw [hql, hMM] at h1; omega
              have HNN := hid hNN
              have HMM := hid hMM
              obtain ⟨k1, k2, k3, k4⟩ : n ≤ NN ∧ NN ≤ n ∧ n' ≤ MM ∧ MM ≤ n' := by omega
              have HWW := hid (And.intro hnw (And.intro hnh (And.intro hqw (And.intro hqh (And.intro hX hY)))))
              clear hzl hql hn1 hn2 hNN hMM
              subst hnw hnh hqw hqh hX hY
              have z328 := H255.out.cell 2 rfl 0 rfl
              have z329 := H255.out.cell 2 rfl 1 rfl
              have z330 := H255.out.cell 2 rfl 2 rfl
              have z331 := H255.out.cell 2 rfl 3 rfl
              have z332 := H255.out.cell 1 rfl 0 rfl
              have z333 := H255.out.cell 1 rfl 1 rfl
              have z334 := H255.out.cell 1 rfl 2 rfl
              have z335 := H255.out.cell 1 rfl 3 rfl
              go_wp2_with fail
              clear z328 z329 z330 z331 z332 z333 z334 z335
              refine (qcopy_any _ _ _ _ _ _ zs _ (H255.out.old HS.out) (by omega) (by omega)).mono ?_
              rintro e w336 ⟨v337, rfl, ho, hb⟩
              have H338 := hid (H255.out.grow hb ho)
              obtain ⟨g0, cp, rfl⟩ := ho.pos (by rw [HZL.out, HNN.out]; omega)
              rw [HZL.out, HNN.out] at H338 ⊢
              clear ho hb
              obtain ⟨D339, hD339⟩ : ∃ D, w336.heap.size = D := ⟨_, rfl⟩
              go_upto_region 4 with fail
              have H340 := hid (show St B W [.cells D339 #[.int .i64 nw, .int .i64 nh, .int .i64 mx, .slice (some ⟨g0, 0, none⟩) NN cp] 26, .own (.slice (some ⟨g0, 0, none⟩) NN cp) zs, .cells (B + 1 + 1) #[.int .i64 0, .int .i64 0, .int .i64 0, .slice none 0 0] 26, .cells (B + 1) #[.int .i64 qw, .int .i64 qh, .int .i64 qm, .slice a' n' c'] 26, .cells B #[.int .i64 nw, .int .i64 nh, .int .i64 mx, .slice a n c] 26] [] (w336.alloc (.cells #[.int .i64 nw, .int .i64 nh, .int .i64 mx, .slice (some ⟨g0, 0, none⟩) NN cp] 26)) from (H338.out.alloc #[.int .i64 nw, .int .i64 nh, .int .i64 mx, .slice (some ⟨g0, 0, none⟩) NN cp] 26 hD339))
              first | refine gen_code H340.out ?_ | refine gen_list H340.out ?_ | refine gen_calls H340.out ?_
              intro w341 hG
              clear H340
              have H340 := hid hG
              clear hG
              clear hD339
              go_wp2_with fail
              go_loopw [11] (fun i wr => ∃ k : Nat, k ≤ qh ∧ i = .int .i64 k ∧ (∀ b, b < k * qw → qs.getD b 0 ≤ mx) ∧ St B W [.own (.slice (some ⟨g0, 0, none⟩) NN cp) (bl zs qs nw X Y qw k), .cells D339 #[.int .i64 nw, .int .i64 nh, .int .i64 mx, .slice (some ⟨g0, 0, none⟩) NN cp] 26, .cells (B + 1 + 1) #[.int .i64 0, .int .i64 0, .int .i64 0, .slice none 0 0] 26, .cells (B + 1) #[.int .i64 qw, .int .i64 qh, .int .i64 qm, .slice a' n' c'] 26, .cells B #[.int .i64 nw, .int .i64 nh, .int .i64 mx, .slice a n c] 26] [] wr) (fun i _ => qh - (intOf i).toNat)
              case atStart => exact ⟨0, by omega, rfl, fun b hb => by omega, H340.out.pick [1, 0, 2, 3, 4] rfl (by decide)⟩
              case round =>
                obtain ⟨k, hk, rfl, ha, hst⟩ := hrel
                obtain ⟨u342, rfl⟩ : ∃ u342 : World, u342 = wr := ⟨_, rfl⟩
                have H343 := hid hst
                clear hst
                have HA := hid ha
                clear ha
                by_cases hkn : k < qh
                · skip
                  have hkn' : (k : Int) < qh := by omega
                  obtain ⟨KO, hKO⟩ : ∃ m : Nat, (Y + k) * nw + X = m := ⟨_, rfl⟩
                  have HKO := hid hKO
                  obtain ⟨KQ, hKQ⟩ : ∃ m : Nat, k * qw = m := ⟨_, rfl⟩
                  have HKQ := hid hKQ
                  obtain ⟨PA, hPA⟩ : ∃ m : Nat, (Y + k) * nw = m := ⟨_, rfl⟩
                  have hp1 : ((k : Int) + (Y : Int)) * (nw : Int) = (PA : Int) := by rw [← hPA, Int.add_comm]; simp
                  have hp2 : (k : Int) * (qw : Int) = (KQ : Int) := by rw [← hKQ]; simp
                  have hf1 := row_fits fx fy hkn
                  rw [hKO, HNN.out] at hf1
                  have hf2 : KQ + qw ≤ MM := by
                    have e1 : (k + 1) * qw ≤ qh * qw := Nat.mul_le_mul_right _ (by omega)
                    rw [HMM.out, Nat.add_mul, Nat.one_mul, hKQ] at e1
                    omega
                  rw [hPA] at hKO
                  obtain ⟨hp4, hp5⟩ : PA + X ≤ KO ∧ KO ≤ PA + X := by omega
                  have HBL := hid (show (bl zs qs nw X Y qw k).length = NN from by rw [bl_len HZL.out fx fy (by omega), HZL.out, HNN.out])
                  rw [hKQ] at HA
                  clear hPA hKQ hKO
                  have pa5 : PA ≤ 4096 := by omega
                  have z344 := H343.out.cell 3 rfl 0 rfl
                  have z345 := H343.out.cell 3 rfl 1 rfl
                  have z346 := H343.out.cell 3 rfl 2 rfl
                  have z347 := H343.out.cell 3 rfl 3 rfl
                  go_wp2_with fail
                  clear z344 z345 z346 z347
                  go_loopw [12] (fun i wr => ∃ j : Nat, j ≤ qw ∧ i = .int .i64 j ∧ (∀ b, b < KQ + j → qs.getD b 0 ≤ mx) ∧ St B W [.own (.slice (some ⟨g0, 0, none⟩) NN cp) (splice (bl zs qs nw X Y qw k) KO (bRow qs qw k j)), .cells D339 #[.int .i64 nw, .int .i64 nh, .int .i64 mx, .slice (some ⟨g0, 0, none⟩) NN cp] 26, .cells (B + 1 + 1) #[.int .i64 0, .int .i64 0, .int .i64 0, .slice none 0 0] 26, .cells (B + 1) #[.int .i64 qw, .int .i64 qh, .int .i64 qm, .slice a' n' c'] 26, .cells B #[.int .i64 nw, .int .i64 nh, .int .i64 mx, .slice a n c] 26] [] wr) (fun i _ => qw - (intOf i).toNat)
                  case atStart => exact ⟨0, by omega, rfl, HA.out, by rw [show bRow qs qw k 0 = [] from rfl, splice_nil]; exact H343.out⟩
                  case round =>
                    obtain ⟨j, hj, rfl, ha, hst⟩ := hrel
                    obtain ⟨u348, rfl⟩ : ∃ u348 : World, u348 = wr := ⟨_, rfl⟩
                    have H349 := hid hst
                    clear hst
                    have HB := hid ha
                    clear ha
                    by_cases hjn : j < qw
                    · skip
                      have hjn' : (j : Int) < qw := by omega
                      obtain ⟨pbk, po, hpa⟩ := row_at (H349.out.old HQ.out).row (by omega)
                      have cz := row_cell (by rw [← hpa]; exact (H349.out.old HQ.out).row) (j := KQ + j) (by omega)
                      have hzm := getD_mem' (zs := qs) (j := KQ + j) (by rw [HQQ.out, HMM.out]; omega)
                      have HSL : (splice (bl zs qs nw X Y qw k) KO (bRow qs qw k j)).length = NN := by rw [length_splice _ _ _ (by rw [bRow_len, HBL.out]; omega), HBL.out]
                      obtain ⟨s1, s2⟩ := H349.out.get 0 rfl (j := KO + j) (by rw [HSL]; omega)
                      have HNX := hid (show (splice (bl zs qs nw X Y qw k) KO (bRow qs qw k j)).set (KO + j) (qs.getD (KQ + j) 0) = splice (bl zs qs nw X Y qw k) KO (bRow qs qw k (j + 1)) from by
                        have := splice_set (L := bl zs qs nw X Y qw k) (off := KO) (cs := bRow qs qw k j) (v := qs.getD (KQ + j) 0) (by rw [bRow_len, HBL.out]; omega)
                        rw [bRow_len] at this
                        rw [this, bRow_next, HKQ.out])
                      have HB2 := hid (show qs.getD (KQ + j) 0 ≤ mx → ∀ b, b < KQ + (j + 1) → qs.getD b 0 ≤ mx from fun hg b hb => by
                        rcases Nat.lt_or_ge b (KQ + j) with h' | h'
                        · exact HB.out b h'
                        · obtain rfl : b = KQ + j := by omega
                          exact hg)
                      have HZM := hid hzm
                      obtain ⟨pz, hpz⟩ : ∃ z, qs.getD (KQ + j) 0 = z := ⟨_, rfl⟩
                      rw [hpz] at cz HNX HB2 HZM
                      clear hpz hzm HSL
                      subst hpa
                      have w1 : IntKind.i64.wrap (KQ : Int) = KQ := IntWalk.i64_in _ (by omega)
                      have v4 : (KQ : Int) + (j : Int) < n' := by omega
                      by_cases hgm : mx < pz
                      · skip
                        have hgm' : mx < pz := by omega
                        have z350 := H349.out.cell 3 rfl 0 rfl
                        have z351 := H349.out.cell 3 rfl 1 rfl
                        have z352 := H349.out.cell 3 rfl 2 rfl
                        have z353 := H349.out.cell 3 rfl 3 rfl
                        have z354 := H349.out.cell 4 rfl 0 rfl
                        have z355 := H349.out.cell 4 rfl 1 rfl
                        have z356 := H349.out.cell 4 rfl 2 rfl
                        have z357 := H349.out.cell 4 rfl 3 rfl
                        have z358 := H349.out.cell 2 rfl 0 rfl
                        have z359 := H349.out.free 2 rfl 0
                        have z360 := H349.out.cell 2 rfl 1 rfl
                        have z361 := H349.out.free 2 rfl 1
                        have z362 := H349.out.cell 2 rfl 2 rfl
                        have z363 := H349.out.free 2 rfl 2
                        have z364 := H349.out.cell 2 rfl 3 rfl
                        have z365 := H349.out.free 2 rfl 3
                        go_wp2_with fail
                        clear z350 z351 z352 z353 z354 z355 z356 z357 z358 z359 z360 z361 z362 z363 z364 z365
                        have H366 := hid (show St B W [.own (.slice (some ⟨g0, 0, none⟩) NN cp) (splice (bl zs qs nw X Y qw k) KO (bRow qs qw k j)), .cells D339 #[.int .i64 nw, .int .i64 nh, .int .i64 mx, .slice (some ⟨g0, 0, none⟩) NN cp] 26, .cells (B + 1 + 1) #[.int .i64 0, .int .i64 0, .int .i64 0, .slice none 0 0] 26, .cells (B + 1) #[.int .i64 qw, .int .i64 qh, .int .i64 qm, .slice (some ⟨pbk, po, none⟩) n' c'] 26, .cells B #[.int .i64 nw, .int .i64 nh, .int .i64 mx, .slice a n c] 26] [] ((((u348.setCell ⟨B + 1 + 1, 0, none⟩ (.int .i64 0)).setCell ⟨B + 1 + 1, 1, none⟩ (.int .i64 0)).setCell ⟨B + 1 + 1, 2, none⟩ (.int .i64 0)).setCell ⟨B + 1 + 1, 3, none⟩ (.slice none 0 0)) from (H349.out.set4 2 rfl (.int .i64 0) (.int .i64 0) (.int .i64 0) (.slice none 0 0)))
                        have HNO := hid (show blOk nw nh mx zs qw qh qm qs X Y = false from blOk_no (fun hb => by have := hb.2.2.2 _ HZM.out; omega))
                        have q367 := H366.out.cell 2 rfl 0 rfl
                        have q368 := H366.out.cell 2 rfl 1 rfl
                        have q369 := H366.out.cell 2 rfl 2 rfl
                        have q370 := H366.out.cell 2 rfl 3 rfl
                        refine bodyPost_ret (v := .tuple #[.agg #[.int .i64 0, .int .i64 0, .int .i64 0, .slice none 0 0], .bool false]) ?_ rfl (blit_no HNO.out (by first | exact H366.out.below | exact H366.out.below'))
                        simp [results, Try.results62, go_sem, q367, q368, q369, q370]
                      · skip
                        have hgm' : ¬ (mx < pz) := by omega
                        have HB1 := hid (HB2.out (by omega))
                        have w7 : (KO : Int) + (j : Int) < NN := by omega
                        have hko : (PA : Int) + (j : Int) + (X : Int) = (KO : Int) + j := by omega
                        have z371 := H349.out.cell 3 rfl 0 rfl
                        have z372 := H349.out.cell 3 rfl 1 rfl
                        have z373 := H349.out.cell 3 rfl 2 rfl
                        have z374 := H349.out.cell 3 rfl 3 rfl
                        have z375 := H349.out.cell 4 rfl 0 rfl
                        have z376 := H349.out.cell 4 rfl 1 rfl
                        have z377 := H349.out.cell 4 rfl 2 rfl
                        have z378 := H349.out.cell 4 rfl 3 rfl
                        have z379 := H349.out.cell 1 rfl 0 rfl
                        have z380 := H349.out.cell 1 rfl 1 rfl
                        have z381 := H349.out.cell 1 rfl 2 rfl
                        have z382 := H349.out.cell 1 rfl 3 rfl
                        go_upto_region 9 with fail
                        clear z371 z372 z373 z374 z375 z376 z377 z378 z379 z380 z381 z382
                        have H383 := hid (show St B W [.own (.slice (some ⟨g0, 0, none⟩) NN cp) ((splice (bl zs qs nw X Y qw k) KO (bRow qs qw k j)).set (KO + j) pz), .cells D339 #[.int .i64 nw, .int .i64 nh, .int .i64 mx, .slice (some ⟨g0, 0, none⟩) NN cp] 26, .cells (B + 1 + 1) #[.int .i64 0, .int .i64 0, .int .i64 0, .slice none 0 0] 26, .cells (B + 1) #[.int .i64 qw, .int .i64 qh, .int .i64 qm, .slice (some ⟨pbk, po, none⟩) n' c'] 26, .cells B #[.int .i64 nw, .int .i64 nh, .int .i64 mx, .slice a n c] 26] [] (u348.setCell ⟨g0, (KO + j), none⟩ (.int .i64 pz)) from (H349.out.store 0 rfl (KO + j) pz))
                        first | refine gen_code H383.out ?_ | refine gen_list H383.out ?_ | refine gen_calls H383.out ?_
                        intro w384 hG
                        clear H383
                        have H383 := hid hG
                        clear hG
                        go_wp2_with fail
                        go_roundw
                        case rel => exact ⟨j + 1, by omega, by go_num, HB1.out, by rw [← HNX.out]; exact H383.out⟩
                        case measure => first | (simp [intOf]; omega) | (simp [intOf]; done)
                    · skip
                      have hjn' : ¬ ((j : Int) < qw) := by omega
                      have HJ := hid (show j = qw by omega)
                      have HA2 := hid (show ∀ b, b < (k + 1) * qw → qs.getD b 0 ≤ mx from fun b hb => HB.out b (by rw [Nat.add_mul, Nat.one_mul, HKQ.out] at hb; have := HJ.out; omega))
                      have z385 := H349.out.cell 3 rfl 0 rfl
                      have z386 := H349.out.cell 3 rfl 1 rfl
                      have z387 := H349.out.cell 3 rfl 2 rfl
                      have z388 := H349.out.cell 3 rfl 3 rfl
                      go_wp2_with fail
                      clear z385 z386 z387 z388
                      go_roundw
                      case rel => exact ⟨k + 1, by omega, by go_num, HA2.out, by have e := HJ.out; subst e; unfold bl; rw [HKO.out]; exact H349.out⟩
                      case measure => first | (simp [intOf]; omega) | (simp [intOf]; done)
                · skip
                  have hkn' : ¬ ((k : Int) < qh) := by omega
                  have HKL := hid (show k = qh by omega)
                  have HALL := hid (show ∀ z ∈ qs, z ≤ mx from fun z hz => by obtain ⟨i, hi, rfl⟩ := mem_getD' hz; exact HA.out i (by rw [HKL.out, ← HQQ.out]; exact hi))
                  have z389 := H343.out.cell 3 rfl 0 rfl
                  have z390 := H343.out.cell 3 rfl 1 rfl
                  have z391 := H343.out.cell 3 rfl 2 rfl
                  have z392 := H343.out.cell 3 rfl 3 rfl
                  have z393 := H343.out.cell 1 rfl 0 rfl
                  have z394 := H343.out.cell 1 rfl 1 rfl
                  have z395 := H343.out.cell 1 rfl 2 rfl
                  have z396 := H343.out.cell 1 rfl 3 rfl
                  have z397 := H343.out.cell 2 rfl 0 rfl
                  have z398 := H343.out.free 2 rfl 0
                  have z399 := H343.out.cell 2 rfl 1 rfl
                  have z400 := H343.out.free 2 rfl 1
                  have z401 := H343.out.cell 2 rfl 2 rfl
                  have z402 := H343.out.free 2 rfl 2
                  have z403 := H343.out.cell 2 rfl 3 rfl
                  have z404 := H343.out.free 2 rfl 3
                  go_wp2_with fail
                  clear z389 z390 z391 z392 z393 z394 z395 z396 z397 z398 z399 z400 z401 z402 z403 z404
                  have H405 := hid (show St B W [.own (.slice (some ⟨g0, 0, none⟩) NN cp) (bl zs qs nw X Y qw k), .cells D339 #[.int .i64 nw, .int .i64 nh, .int .i64 mx, .slice (some ⟨g0, 0, none⟩) NN cp] 26, .cells (B + 1 + 1) #[.int .i64 nw, .int .i64 nh, .int .i64 mx, .slice (some ⟨g0, 0, none⟩) NN cp] 26, .cells (B + 1) #[.int .i64 qw, .int .i64 qh, .int .i64 qm, .slice a' n' c'] 26, .cells B #[.int .i64 nw, .int .i64 nh, .int .i64 mx, .slice a n c] 26] [] ((((u342.setCell ⟨B + 1 + 1, 0, none⟩ (.int .i64 nw)).setCell ⟨B + 1 + 1, 1, none⟩ (.int .i64 nh)).setCell ⟨B + 1 + 1, 2, none⟩ (.int .i64 mx)).setCell ⟨B + 1 + 1, 3, none⟩ (.slice (some ⟨g0, 0, none⟩) NN cp)) from (H343.out.set4 2 rfl (.int .i64 nw) (.int .i64 nh) (.int .i64 mx) (.slice (some ⟨g0, 0, none⟩) NN cp)))
                  have HOK := hid (show blOk nw nh mx zs qw qh qm qs X Y = true from blOk_iff.2 ⟨HV.out, HVQ.out, by omega, HALL.out⟩)
                  have HCI := hid (show ∀ z, blIf nw nh mx zs qw qh qm qs X Y z = z from fun z => by unfold blIf; rw [if_pos HOK.out])
                  have HCL := hid (show blList nw nh mx zs qw qh qm qs X Y = bl zs qs nw X Y qw k from by unfold blList; rw [if_pos HOK.out, HKL.out]; rfl)
                  have q406 := H405.out.cell 2 rfl 0 rfl
                  have q407 := H405.out.cell 2 rfl 1 rfl
                  have q408 := H405.out.cell 2 rfl 2 rfl
                  have q409 := H405.out.cell 2 rfl 3 rfl
                  refine bodyPost_ret (v := .tuple #[.agg #[.int .i64 nw, .int .i64 nh, .int .i64 mx, .slice (some ⟨g0, 0, none⟩) NN cp], .bool true]) ?_ rfl ⟨_, by rw [HCI.out, HCI.out, HCI.out, HOK.out], by rw [HCL.out, hB]; exact H405.out.own 0 rfl, by first | exact H405.out.below | exact H405.out.below'⟩
                  simp [results, Try.results62, go_sem, q406, q407, q408, q409]
    | false =>
      have z410 := H255.out.cell 0 rfl 0 rfl
      have z411 := H255.out.free 0 rfl 0
      have z412 := H255.out.cell 0 rfl 1 rfl
      have z413 := H255.out.free 0 rfl 1
      have z414 := H255.out.cell 0 rfl 2 rfl
      have z415 := H255.out.free 0 rfl 2
      have z416 := H255.out.cell 0 rfl 3 rfl
      have z417 := H255.out.free 0 rfl 3
      go_wp2_with fail
      clear z410 z411 z412 z413 z414 z415 z416 z417
      have H418 := hid (show St B W [.cells (B + 1 + 1) #[.int .i64 0, .int .i64 0, .int .i64 0, .slice none 0 0] 26, .cells (B + 1) #[.int .i64 u, .int .i64 v, .int .i64 qm, .slice a' n' c'] 26, .cells B #[.int .i64 w, .int .i64 h, .int .i64 mx, .slice a n c] 26] [] ((((w254.setCell ⟨B + 1 + 1, 0, none⟩ (.int .i64 0)).setCell ⟨B + 1 + 1, 1, none⟩ (.int .i64 0)).setCell ⟨B + 1 + 1, 2, none⟩ (.int .i64 0)).setCell ⟨B + 1 + 1, 3, none⟩ (.slice none 0 0)) from (H255.out.set4 0 rfl (.int .i64 0) (.int .i64 0) (.int .i64 0) (.slice none 0 0)))
      have HNO := hid (show blOk w h mx zs u v qm qs x y = false from blOk_no (fun hb => by have := hb.2.1; rw [HVQ.out] at this; cases this))
      have q419 := H418.out.cell 0 rfl 0 rfl
      have q420 := H418.out.cell 0 rfl 1 rfl
      have q421 := H418.out.cell 0 rfl 2 rfl
      have q422 := H418.out.cell 0 rfl 3 rfl
      refine bodyPost_ret (v := .tuple #[.agg #[.int .i64 0, .int .i64 0, .int .i64 0, .slice none 0 0], .bool false]) ?_ rfl (blit_no HNO.out (by first | exact H418.out.below | exact H418.out.below'))
      simp [results, Try.results62, go_sem, q419, q420, q421, q422]
  | false =>
    have z423 := H249.out.cell 0 rfl 0 rfl
    have z424 := H249.out.free 0 rfl 0
    have z425 := H249.out.cell 0 rfl 1 rfl
    have z426 := H249.out.free 0 rfl 1
    have z427 := H249.out.cell 0 rfl 2 rfl
    have z428 := H249.out.free 0 rfl 2
    have z429 := H249.out.cell 0 rfl 3 rfl
    have z430 := H249.out.free 0 rfl 3
    go_wp2_with fail
    clear z423 z424 z425 z426 z427 z428 z429 z430
    have H431 := hid (show St B W [.cells (B + 1 + 1) #[.int .i64 0, .int .i64 0, .int .i64 0, .slice none 0 0] 26, .cells (B + 1) #[.int .i64 u, .int .i64 v, .int .i64 qm, .slice a' n' c'] 26, .cells B #[.int .i64 w, .int .i64 h, .int .i64 mx, .slice a n c] 26] [] ((((w248.setCell ⟨B + 1 + 1, 0, none⟩ (.int .i64 0)).setCell ⟨B + 1 + 1, 1, none⟩ (.int .i64 0)).setCell ⟨B + 1 + 1, 2, none⟩ (.int .i64 0)).setCell ⟨B + 1 + 1, 3, none⟩ (.slice none 0 0)) from (H249.out.set4 0 rfl (.int .i64 0) (.int .i64 0) (.int .i64 0) (.slice none 0 0)))
    have HNO := hid (show blOk w h mx zs u v qm qs x y = false from blOk_no (fun hb => by have := hb.1; rw [HV.out] at this; cases this))
    have q432 := H431.out.cell 0 rfl 0 rfl
    have q433 := H431.out.cell 0 rfl 1 rfl
    have q434 := H431.out.cell 0 rfl 2 rfl
    have q435 := H431.out.cell 0 rfl 3 rfl
    refine bodyPost_ret (v := .tuple #[.agg #[.int .i64 0, .int .i64 0, .int .i64 0, .slice none 0 0], .bool false]) ?_ rfl (blit_no HNO.out (by first | exact H431.out.below | exact H431.out.below'))
    simp [results, Try.results62, go_sem, q432, q433, q434, q435]
end

section
open Go.RowKit
set_option linter.unusedVariables false

theorem crop_ok {w h mx : Int} {zs : List Int} {r0 r1 r2 r3 : Int} (hv : pValid w h mx zs = true) (hin : 0 ≤ r0 ∧ r0 < r2 ∧ r2 ≤ w ∧ 0 ≤ r1 ∧ r1 < r3 ∧ r3 ≤ h) : cOk w h mx zs r0 r1 r2 r3 = true := by
  obtain ⟨p1, p2, p3, p4, _, _, _⟩ := pOk_iff.1 (pValid_iff.1 hv).1
  unfold cOk
  rw [hv, (inside_iff p1 p2 p3 p4).2 hin]; rfl
theorem cAll_len (w : Int) (zs : List Int) (r0 r1 r2 r3 : Int) : (cAll w zs r0 r1 r2 r3).length = (r3 - r1).toNat * (r2 - r0).toNat := by unfold cAll; rw [gridL_len]; rfl
theorem crop_valid {w h mx : Int} {zs : List Int} {r0 r1 r2 r3 : Int} (hv : pValid w h mx zs = true) (hin : 0 ≤ r0 ∧ r0 < r2 ∧ r2 ≤ w ∧ 0 ≤ r1 ∧ r1 < r3 ∧ r3 ≤ h) : pValid (r2 - r0) (r3 - r1) mx (cAll w zs r0 r1 r2 r3) = true := by
  obtain ⟨p1, p2, p3, p4, p5, p6, p7⟩ := pOk_iff.1 (pValid_iff.1 hv).1
  have e1 := Int.mul_le_mul (a := r2 - r0) (c := w) (b := r3 - r1) (d := h) (by omega) (by omega) (by omega) (by omega)
  obtain ⟨a, ha⟩ : ∃ a : Nat, r2 - r0 = a := ⟨(r2 - r0).toNat, by omega⟩
  obtain ⟨b, hb⟩ : ∃ b : Nat, r3 - r1 = b := ⟨(r3 - r1).toNat, by omega⟩
  refine pValid_iff.2 ⟨pOk_iff.2 (by omega), ?_, ?_⟩
  · rw [cAll_len, ha, hb, Int.mul_comm]; simp
  · unfold cAll
    exact (gridL_all _ _ _).2 fun a _ b _ => tPix_bd hv r0 r1 a b
theorem blit_ok {w h mx : Int} {zs : List Int} {u v : Int} {qs : List Int} {x y : Int} (hv : pValid w h mx zs = true) (hq : pValid u v mx qs = true) (hin : 0 ≤ x ∧ x ≤ w - u ∧ 0 ≤ y ∧ y ≤ h - v) : blOk w h mx zs u v mx qs x y = true :=
  blOk_iff.2 ⟨hv, hq, hin, fun z hz => ((pValid_iff.1 hq).2.2 z hz).2⟩
theorem valid_len {w h mx : Int} {zs : List Int} (hv : pValid w h mx zs = true) : 1 ≤ zs.length ∧ zs.length ≤ 4096 := by
  obtain ⟨p1, p2, p3, p4, p5, _, _⟩ := pOk_iff.1 (pValid_iff.1 hv).1
  have e := (pValid_iff.1 hv).2.1
  have e1 := Int.mul_le_mul (a := 1) (c := w) (b := 1) (d := h) p1 p3 (by omega) (by omega)
  omega
theorem splice_getD (L cs : List Int) (off i : Nat) (h : off + cs.length ≤ L.length) : (splice L off cs).getD i 0 = if off ≤ i ∧ i < off + cs.length then cs.getD (i - off) 0 else L.getD i 0 := by
  unfold splice
  have e : (L.take off).length = off := by rw [List.length_take]; omega
  rw [List.getD_eq_getElem?_getD, List.getElem?_append, e]
  by_cases h1 : i < off
  · rw [if_pos h1, if_neg (by omega), List.getElem?_take_of_lt h1, List.getD_eq_getElem?_getD]
  · rw [if_neg h1, List.getElem?_append]
    by_cases h2 : i - off < cs.length
    · rw [if_pos h2, if_pos (by omega), List.getD_eq_getElem?_getD]
    · rw [if_neg h2, if_neg (by omega), List.getElem?_drop, List.getD_eq_getElem?_getD]
      congr 2; omega
theorem bRow_getD (qs : List Int) (qw k b : Nat) (hb : b < qw) : (bRow qs qw k qw).getD b 0 = qs.getD (k * qw + b) 0 := by
  simp [bRow, List.getD_eq_getElem?_getD, hb]
/-- A pixel behind a blit. -/
theorem bl_at {zs qs : List Int} {nh nw X Y qw qh : Nat} (hl : zs.length = nh * nw) (hx : X + qw ≤ nw) (hy : Y + qh ≤ nh) {r c : Nat} (hc : c < nw) :
    ∀ {k : Nat}, k ≤ qh → (bl zs qs nw X Y qw k).getD (r * nw + c) 0 = if X ≤ c ∧ c < X + qw ∧ Y ≤ r ∧ r < Y + k then qs.getD ((r - Y) * qw + (c - X)) 0 else zs.getD (r * nw + c) 0
  | 0, _ => by rw [if_neg (by omega)]; rfl
  | k + 1, hk => by
    have ih := bl_at (qs := qs) hl hx hy (r := r) hc (k := k) (by omega)
    have hfit := row_fits (nh := nh) hx hy (k := k) (by omega)
    show (splice _ _ _).getD _ 0 = _
    rw [splice_getD _ _ _ _ (by rw [bRow_len, bl_len hl hx hy (by omega), hl]; exact hfit), bRow_len, ih]
    rcases Nat.lt_trichotomy r (Y + k) with h | h | h
    · have e1 : (r + 1) * nw ≤ (Y + k) * nw := Nat.mul_le_mul_right _ (by omega)
      rw [Nat.add_mul, Nat.one_mul] at e1
      rw [if_neg (by omega)]
      by_cases h2 : X ≤ c ∧ c < X + qw ∧ Y ≤ r
      · rw [if_pos (by omega), if_pos (by omega)]
      · rw [if_neg (by omega), if_neg (by omega)]
    · subst h
      by_cases h2 : X ≤ c ∧ c < X + qw
      · rw [if_pos (by omega), if_pos (by omega), show (Y + k) * nw + c - ((Y + k) * nw + X) = c - X by omega, bRow_getD _ _ _ _ (by omega), show Y + k - Y = k by omega]
      · rw [if_neg (by omega), if_neg (by omega), if_neg (by omega)]
    · have e1 : (Y + k + 1) * nw ≤ r * nw := Nat.mul_le_mul_right _ (by omega)
      rw [Nat.add_mul, Nat.one_mul] at e1
      rw [if_neg (by omega), if_neg (by omega), if_neg (by omega)]
theorem tPix_nat (zs : List Int) (nw X Y a b : Nat) : tPix (nw : Int) zs (X : Int) (Y : Int) a b = zs.getD ((Y + a) * nw + (X + b)) 0 := by
  unfold tPix
  congr 1
  have : ((Y : Int) + (a : Int)) * (nw : Int) = (((Y + a) * nw : Nat) : Int) := by simp
  rw [this]
  omega
/-- Cropping what was blitted gives it back. -/
theorem crop_blit {zs qs : List Int} {nh nw X Y qw qh : Nat} (hl : zs.length = nh * nw) (hq : qs.length = qh * qw) (hw : 0 < qw) (hx : X + qw ≤ nw) (hy : Y + qh ≤ nh) : gridL (tPix (nw : Int) (bl zs qs nw X Y qw qh) (X : Int) (Y : Int)) qw qh 0 = qs := by
  refine eq_of_getD (by rw [gridL_len, hq]; rfl) fun i hi => ?_
  rw [gridL_len] at hi
  have hk : i / qw < qh := (Nat.div_lt_iff_lt_mul hw).2 (by omega)
  have hj := Nat.mod_lt i hw
  have e := Nat.div_add_mod i qw
  rw [Nat.mul_comm] at e
  obtain ⟨a, ha⟩ : ∃ a, i / qw = a := ⟨_, rfl⟩
  obtain ⟨b, hb⟩ : ∃ b, i % qw = b := ⟨_, rfl⟩
  rw [ha, hb] at e
  rw [ha] at hk
  rw [hb] at hj
  rw [← e, gridL_get _ qw qh 0 a b hj (.inl hk), tPix_nat, bl_at hl hx hy (by omega) (Nat.le_refl _), if_pos (by omega), show Y + a - Y = a by omega, show X + b - X = b by omega]
/-- Blitting a crop at its place changes nothing. -/
theorem blit_crop {zs : List Int} {nh nw X Y qw qh : Nat} (hl : zs.length = nh * nw) (hw : 0 < nw) (hx : X + qw ≤ nw) (hy : Y + qh ≤ nh) : bl zs (gridL (tPix (nw : Int) zs (X : Int) (Y : Int)) qw qh 0) nw X Y qw qh = zs := by
  refine eq_of_getD (bl_len hl hx hy (Nat.le_refl _)) fun i hi => ?_
  have hj := Nat.mod_lt i hw
  have e := Nat.div_add_mod i nw
  rw [Nat.mul_comm] at e
  obtain ⟨r, hr⟩ : ∃ a, i / nw = a := ⟨_, rfl⟩
  obtain ⟨c, hc⟩ : ∃ b, i % nw = b := ⟨_, rfl⟩
  rw [hr, hc] at e
  rw [hc] at hj
  rw [← e, bl_at hl hx hy hj (Nat.le_refl _)]
  by_cases h : X ≤ c ∧ c < X + qw ∧ Y ≤ r ∧ r < Y + qh
  · rw [if_pos h, gridL_get _ qw qh 0 (r - Y) (c - X) (by omega) (.inl (by omega)), tPix_nat, show Y + (r - Y) = r by omega, show X + (c - X) = c by omega]
  · rw [if_neg h]
/-- The same of whole planes. -/
theorem dims {w h mx : Int} {zs : List Int} {r0 r1 r2 r3 : Int} (hv : pValid w h mx zs = true) (hin : 0 ≤ r0 ∧ r0 < r2 ∧ r2 ≤ w ∧ 0 ≤ r1 ∧ r1 < r3 ∧ r3 ≤ h) :
    ∃ nw nh X Y qw qh : Nat, w = nw ∧ h = nh ∧ r0 = X ∧ r1 = Y ∧ r2 - r0 = qw ∧ r3 - r1 = qh ∧ zs.length = nh * nw ∧ 0 < nw ∧ 0 < qw ∧ X + qw ≤ nw ∧ Y + qh ≤ nh := by
  obtain ⟨p1, p2, p3, p4, p5, _, _⟩ := pOk_iff.1 (pValid_iff.1 hv).1
  have e := (pValid_iff.1 hv).2.1
  refine ⟨w.toNat, h.toNat, r0.toNat, r1.toNat, (r2 - r0).toNat, (r3 - r1).toNat, by omega, by omega, by omega, by omega, by omega, by omega, ?_, by omega, by omega, by omega, by omega⟩
  obtain ⟨nw, hnw⟩ : ∃ m : Nat, w = m := ⟨w.toNat, by omega⟩
  obtain ⟨nh, hnh⟩ : ∃ m : Nat, h = m := ⟨h.toNat, by omega⟩
  subst hnw hnh
  rw [Int.mul_comm] at e
  exact_mod_cast e
theorem cAll_nat {zs : List Int} {nw X Y qw qh : Nat} {w r0 r1 r2 r3 : Int} (e1 : w = nw) (e3 : r0 = X) (e4 : r1 = Y) (e5 : r2 - r0 = qw) (e6 : r3 - r1 = qh) : cAll w zs r0 r1 r2 r3 = gridL (tPix (nw : Int) zs (X : Int) (Y : Int)) qw qh 0 := by
  unfold cAll
  rw [e5, e6, e1, e3, e4]; rfl
theorem blit_crop' {w h mx : Int} {zs : List Int} {r0 r1 r2 r3 : Int} (hv : pValid w h mx zs = true) (hin : 0 ≤ r0 ∧ r0 < r2 ∧ r2 ≤ w ∧ 0 ≤ r1 ∧ r1 < r3 ∧ r3 ≤ h) : bl zs (cAll w zs r0 r1 r2 r3) w.toNat r0.toNat r1.toNat (r2 - r0).toNat (r3 - r1).toNat = zs := by
  obtain ⟨nw, nh, X, Y, qw, qh, e1, e2, e3, e4, e5, e6, hl, h1, h2, hx, hy⟩ := dims hv hin
  rw [cAll_nat e1 e3 e4 e5 e6, e5, e6, e1, e3, e4]
  exact blit_crop hl h1 hx hy
theorem qlen {u v mx : Int} {qs : List Int} {qw qh : Nat} (hq : pValid u v mx qs = true) (e5 : u = qw) (e6 : v = qh) : qs.length = qh * qw := by
  have e := (pValid_iff.1 hq).2.1
  rw [e5, e6, Int.mul_comm] at e
  exact_mod_cast e
theorem crop_blit' {w h mx : Int} {zs qs : List Int} {r0 r1 r2 r3 : Int} (hv : pValid w h mx zs = true) (hin : 0 ≤ r0 ∧ r0 < r2 ∧ r2 ≤ w ∧ 0 ≤ r1 ∧ r1 < r3 ∧ r3 ≤ h) (hq : pValid (r2 - r0) (r3 - r1) mx qs = true) :
    cAll w (bl zs qs w.toNat r0.toNat r1.toNat (r2 - r0).toNat (r3 - r1).toNat) r0 r1 r2 r3 = qs := by
  obtain ⟨nw, nh, X, Y, qw, qh, e1, e2, e3, e4, e5, e6, hl, h1, h2, hx, hy⟩ := dims hv hin
  rw [cAll_nat e1 e3 e4 e5 e6, e5, e6, e1, e3, e4]
  exact crop_blit hl (qlen hq e5 e6) h2 hx hy
theorem blit_valid' {w h mx : Int} {zs qs : List Int} {r0 r1 r2 r3 : Int} (hv : pValid w h mx zs = true) (hin : 0 ≤ r0 ∧ r0 < r2 ∧ r2 ≤ w ∧ 0 ≤ r1 ∧ r1 < r3 ∧ r3 ≤ h) (hq : pValid (r2 - r0) (r3 - r1) mx qs = true) :
    pValid w h mx (bl zs qs w.toNat r0.toNat r1.toNat (r2 - r0).toNat (r3 - r1).toNat) = true := by
  obtain ⟨nw, nh, X, Y, qw, qh, e1, e2, e3, e4, e5, e6, hl, h1, h2, hx, hy⟩ := dims hv hin
  have hql := qlen hq e5 e6
  have hlen := bl_len (qs := qs) hl hx hy (Nat.le_refl qh)
  rw [e5, e6, e1, e3, e4]
  refine pValid_iff.2 ⟨by rw [← e1]; exact (pValid_iff.1 hv).1, ?_, fun v hv' => ?_⟩
  · simp only [Int.toNat_natCast]
    rw [hlen, ← e1]; exact (pValid_iff.1 hv).2.1
  · simp only [Int.toNat_natCast] at hv'
    obtain ⟨i, hi, rfl⟩ := mem_getD' hv'
    rw [hlen, hl] at hi
    have hj := Nat.mod_lt i h1
    have e := Nat.div_add_mod i nw
    rw [Nat.mul_comm] at e
    have hk : i / nw < nh := (Nat.div_lt_iff_lt_mul h1).2 (by omega)
    obtain ⟨r, hr⟩ : ∃ a, i / nw = a := ⟨_, rfl⟩
    obtain ⟨c, hc⟩ : ∃ b, i % nw = b := ⟨_, rfl⟩
    rw [hr, hc] at e
    rw [hc] at hj
    rw [← e, bl_at hl hx hy hj (Nat.le_refl _)]
    split
    · rename_i hin2
      refine (pValid_iff.1 hq).2.2 _ (getD_mem' ?_)
      have : (r - Y + 1) * qw ≤ qh * qw := Nat.mul_le_mul_right _ (by omega)
      rw [Nat.add_mul, Nat.one_mul] at this
      omega
    · exact (pValid_iff.1 hv).2.2 _ (getD_mem' (by rw [e, hl]; omega))
theorem bl_out' {w h mx : Int} {zs qs : List Int} {r0 r1 r2 r3 : Int} (hv : pValid w h mx zs = true) (hin : 0 ≤ r0 ∧ r0 < r2 ∧ r2 ≤ w ∧ 0 ≤ r1 ∧ r1 < r3 ∧ r3 ≤ h) {n : Nat} (hn : n < zs.length)
    (ho : ¬ (r0 ≤ (n : Int) % w ∧ (n : Int) % w < r2 ∧ r1 ≤ (n : Int) / w ∧ (n : Int) / w < r3)) : (bl zs qs w.toNat r0.toNat r1.toNat (r2 - r0).toNat (r3 - r1).toNat).getD n 0 = zs.getD n 0 := by
  obtain ⟨nw, nh, X, Y, qw, qh, e1, e2, e3, e4, e5, e6, hl, h1, h2, hx, hy⟩ := dims hv hin
  have hj := Nat.mod_lt n h1
  have e := Nat.div_add_mod n nw
  rw [Nat.mul_comm] at e
  have c1 : (n : Int) % w = ((n % nw : Nat) : Int) := by rw [e1]; simp
  have c2 : (n : Int) / w = ((n / nw : Nat) : Int) := by rw [e1]; simp
  rw [c1, c2] at ho
  obtain ⟨r, hr⟩ : ∃ a, n / nw = a := ⟨_, rfl⟩
  obtain ⟨c, hc⟩ : ∃ b, n % nw = b := ⟨_, rfl⟩
  rw [hr, hc] at ho e
  rw [hc] at hj
  rw [e5, e6, e1, e3, e4]
  simp only [Int.toNat_natCast]
  rw [← e, bl_at hl hx hy hj (Nat.le_refl _), if_neg (by omega)]
end
end Go.Proofs.Ytoojiabdgaflgaa
