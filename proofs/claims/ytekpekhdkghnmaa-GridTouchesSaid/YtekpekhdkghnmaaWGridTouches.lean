/-
  The walk of GridTouches: each tile that Touching names has a point in common with the rectangle, they ascend, and the tile of each point of the rectangle is named.
-/
import Derived.Test.YtekpekhdkghnmaaAgrees
import Derived.Test.YtekpekhdkghnmaaPartPlain
import Derived.Test.YtekpekhdkghnmaaTapeRect
import Derived.Test.YtekpekhdkghnmaaBorder
import Derived.Test.YtekpekhdkghnmaaFrame
import Derived.Deep.QuietTactic
import Derived.BigQuiet
namespace Go.Proofs.Ytekpekhdkghnmaa
open Go.RowKit
set_option linter.unusedVariables false
set_option linter.unusedSimpArgs false

theorem cell_keep {w w' : World} {b o : Nat} {v : Value} (hb : Below w.heap.size w w') (h : w.cell? ⟨b, o, none⟩ = some v) : w'.cell? ⟨b, o, none⟩ = some v := by
  have hl := lt_of_cell h
  have e := hb.block b hl
  simp only [World.cell?] at h ⊢
  rw [e]; exact h

/-- A tape at the block B, and nothing below it has changed. -/
structure Taped (B : Nat) (W w : World) : Prop where
  tape : TapeAt w B
  since : Since B W w
theorem Taped.next {B : Nat} {W w w' : World} (h : Taped B W w) (ht : TapeAt w' B) (hg : w.grownBy w' (some B)) : Taped B W w' := ⟨ht, h.since.grown hg (by omega)⟩

/-- A box with a rectangle at C, and a row of integers. -/
structure Listd (B C : Nat) (a : Option Addr) (n : Nat) (zs : List Int) (r0 r1 r2 r3 : Int) (W w : World) : Prop where
  box : w.heap[C]? = some (.cells #[.int .i64 r0, .int .i64 r1, .int .i64 r2, .int .i64 r3] 45 (0, 0))
  row : Row w .i64 a n zs
  since : Since B W w
theorem Listd.call {B C : Nat} {a : Option Addr} {n : Nat} {zs : List Int} {r0 r1 r2 r3 : Int} {W w w' : World} (h : Listd B C a n zs r0 r1 r2 r3 W w) (hb : Below w.heap.size w w') : Listd B C a n zs r0 r1 r2 r3 W w' :=
  ⟨kept hb h.box, h.row.below hb, h.since.call hb⟩
theorem Listd.alloc {B C : Nat} {a : Option Addr} {n : Nat} {zs : List Int} {r0 r1 r2 r3 : Int} {W w : World} (h : Listd B C a n zs r0 r1 r2 r3 W w) (o : Obj) : Listd B C a n zs r0 r1 r2 r3 W (w.alloc o) := h.call (below_self _ _)
theorem Listd.drewN {B C : Nat} {a : Option Addr} {n : Nat} {zs : List Int} {r0 r1 r2 r3 : Int} {W w : World} (h : Listd B C a n zs r0 r1 r2 r3 W w) (m : Nat) : Listd B C a n zs r0 r1 r2 r3 W (w.drewN m) := h.call (below_drewN (Below.refl _ _) _)

theorem row_at {w : World} {a : Option Addr} {n : Nat} {zs : List Int} (h : Row w .i64 a n zs) (hn : 0 < n) : ∃ b o, a = some ⟨b, o, none⟩ := by
  rcases h.2 with hz | ⟨b, o, e, _⟩
  · omega
  · exact ⟨b, o, e⟩
theorem row_cell {w : World} {b o n : Nat} {zs : List Int} (h : Row w .i64 (some ⟨b, o, none⟩) n zs) {k : Int} (h0 : 0 ≤ k) (hk : k < n) : w.cell? ⟨b, o + k.toNat, none⟩ = some (.int .i64 (zs.getD k.toNat 0)) := by
  rcases h.2 with hz | ⟨b', o', e, h⟩
  · omega
  · cases e; exact h _ (by omega)

theorem getD_lt {zs : List Int} (h : zs.Pairwise (· < ·)) {i j : Nat} (hij : i < j) (hj : j < zs.length) : zs.getD i 0 < zs.getD j 0 := by
  have hi : i < zs.length := by omega
  rw [List.getD_eq_getElem?_getD, List.getD_eq_getElem?_getD, List.getElem?_eq_getElem hj, List.getElem?_eq_getElem hi]
  exact List.pairwise_iff_getElem.1 h i j hi hj hij
theorem getD_mem {zs : List Int} {j : Nat} (hj : j < zs.length) : zs.getD j 0 ∈ zs := by
  rw [List.getD_eq_getElem?_getD, List.getElem?_eq_getElem hj]; exact List.getElem_mem hj
theorem mem_getD {zs : List Int} {z : Int} (h : z ∈ zs) : ∃ j, j < zs.length ∧ zs.getD j 0 = z := by
  obtain ⟨j, hj, e⟩ := List.getElem_of_mem h
  exact ⟨j, hj, by rw [List.getD_eq_getElem?_getD, List.getElem?_eq_getElem hj]; exact e⟩

/-- Among the first k members is o. -/
def Named (zs : List Int) (o k : Int) (b : Bool) : Prop := b = true ↔ ∃ j : Nat, (j : Int) < k ∧ zs.getD j 0 = o
theorem Named.start (zs : List Int) (o : Int) : Named zs o 0 false := ⟨fun h => by simp at h, fun ⟨j, h, _⟩ => by omega⟩
theorem Named.hit {zs : List Int} {o k : Int} (hk : 0 ≤ k) (h : Named zs o k true) : Named zs o (k + 1) true := by
  obtain ⟨j, h1, h2⟩ := h.1 rfl
  exact ⟨fun _ => ⟨j, by omega, h2⟩, fun _ => rfl⟩
theorem Named.step {zs : List Int} {o k : Int} (hk : 0 ≤ k) (h : Named zs o k false) : Named zs o (k + 1) (zs.getD k.toNat 0 == o) := by
  constructor
  · intro e
    exact ⟨k.toNat, by omega, by simpa using e⟩
  · rintro ⟨j, h1, h2⟩
    by_cases e : (j : Int) = k
    · subst e; simpa using h2
    · exact absurd (h.2 ⟨j, by omega, h2⟩) (by simp)
theorem Named.done {zs : List Int} {o n : Int} {b : Bool} (hn : n = zs.length) (h : Named zs o n b) (ho : o ∈ zs) : b = true := by
  obtain ⟨j, h1, h2⟩ := mem_getD ho
  exact h.2 ⟨j, by omega, h2⟩

/-- The tile of a point that lies in r has that point in common with r. -/
theorem touch_of_contains {w h tw th x y r0 r1 r2 r3 : Int} (hg : gOk w h tw th = true) (x0 : 0 ≤ x) (x1 : x < w) (y0 : 0 ≤ y) (y1 : y < h) (hc : rContains r0 r1 r2 r3 x y = true) :
    gTok w h tw th (gOf w h tw th x y) = true ∧ tMeet w h tw th (gOf w h tw th x y) r0 r1 r2 r3 = true := by
  have ok : gOfOk w h tw th x y = true := gOfOk_iff.2 ⟨hg, x0, x1, y0, y1⟩
  obtain ⟨o1, o2⟩ := of_lt ok
  have ht : gTok w h tw th (gOf w h tw th x y) = true := gTok_iff.2 ⟨hg, o1, o2⟩
  refine ⟨ht, ?_⟩
  have hc' := (contains_iff ht x0 x1 y0 y1).2 rfl
  unfold tMeet
  rw [rMeet_iff]
  simp only [rContains, Bool.and_eq_true, decide_eq_true_eq] at hc hc'
  exact ⟨hc'.1, hc.1, by omega, by omega⟩

theorem isect_full {a0 a1 a2 a3 b0 b1 b2 b3 : Int} (h : rMeet a0 a1 a2 a3 b0 b1 b2 b3 = true) : rEmpty (rX0 a0 a1 a2 a3 b0 b1 b2 b3) (rY0 a0 a1 a2 a3 b0 b1 b2 b3) (rX1 a0 a1 a2 a3 b0 b1 b2 b3) (rY1 a0 a1 a2 a3 b0 b1 b2 b3) = false := by
  have hm := (rMeet_iff.1 h).2.2
  rw [← Bool.not_eq_true, rEmpty_iff]
  simp only [rX0, rY0, rX1, rY1, h, if_true]
  omega

/-- Two boxes and two cells that a call leaves alone. -/
theorem two_keep {B b0 b1 p1 q1 p2 q2 n : Nat} {a : Option Addr} {l : List Int} {x00 x01 x02 x03 x10 x11 x12 x13 z1 z2 : Int} {w0 w w' : World} (hb : Below w.heap.size w w')
    (h : w.heap[b0]? = some (.cells #[.int .i64 x00, .int .i64 x01, .int .i64 x02, .int .i64 x03] 45 (0, 0)) ∧ w.heap[b1]? = some (.cells #[.int .i64 x10, .int .i64 x11, .int .i64 x12, .int .i64 x13] 45 (0, 0)) ∧ w.cell? ⟨b0, 0, none⟩ = some (.int .i64 x00) ∧ w.cell? ⟨b0, 1, none⟩ = some (.int .i64 x01) ∧ w.cell? ⟨b0, 2, none⟩ = some (.int .i64 x02) ∧ w.cell? ⟨b0, 3, none⟩ = some (.int .i64 x03) ∧ w.cell? ⟨b1, 0, none⟩ = some (.int .i64 x10) ∧ w.cell? ⟨b1, 1, none⟩ = some (.int .i64 x11) ∧ w.cell? ⟨b1, 2, none⟩ = some (.int .i64 x12) ∧ w.cell? ⟨b1, 3, none⟩ = some (.int .i64 x13) ∧ w.cell? ⟨p1, q1, none⟩ = some (.int .i64 z1) ∧ w.cell? ⟨p2, q2, none⟩ = some (.int .i64 z2) ∧ Row w .i64 a n l ∧ Below B w0 w ∧ B ≤ w.heap.size) :
    w'.heap[b0]? = some (.cells #[.int .i64 x00, .int .i64 x01, .int .i64 x02, .int .i64 x03] 45 (0, 0)) ∧ w'.heap[b1]? = some (.cells #[.int .i64 x10, .int .i64 x11, .int .i64 x12, .int .i64 x13] 45 (0, 0)) ∧ w'.cell? ⟨b0, 0, none⟩ = some (.int .i64 x00) ∧ w'.cell? ⟨b0, 1, none⟩ = some (.int .i64 x01) ∧ w'.cell? ⟨b0, 2, none⟩ = some (.int .i64 x02) ∧ w'.cell? ⟨b0, 3, none⟩ = some (.int .i64 x03) ∧ w'.cell? ⟨b1, 0, none⟩ = some (.int .i64 x10) ∧ w'.cell? ⟨b1, 1, none⟩ = some (.int .i64 x11) ∧ w'.cell? ⟨b1, 2, none⟩ = some (.int .i64 x12) ∧ w'.cell? ⟨b1, 3, none⟩ = some (.int .i64 x13) ∧ w'.cell? ⟨p1, q1, none⟩ = some (.int .i64 z1) ∧ w'.cell? ⟨p2, q2, none⟩ = some (.int .i64 z2) ∧ Row w' .i64 a n l ∧ Below B w0 w' ∧ B ≤ w'.heap.size := by
  obtain ⟨h0, h1, _, _, _, _, _, _, _, _, c1, c2, hr, hs, hB⟩ := h
  exact ⟨kept hb h0, kept hb h1, cell_of (kept hb h0) rfl, cell_of (kept hb h0) rfl, cell_of (kept hb h0) rfl, cell_of (kept hb h0) rfl, cell_of (kept hb h1) rfl, cell_of (kept hb h1) rfl, cell_of (kept hb h1) rfl, cell_of (kept hb h1) rfl, cell_keep hb c1, cell_keep hb c2, hr.below hb, (Since.call ⟨hs, hB⟩ hb).below, (Since.call ⟨hs, hB⟩ hb).size⟩

attribute [local go_sem ↓] Go.wp_at_zero Go.wp_at_succ

set_option maxRecDepth 100000 in
set_option maxHeartbeats 3200000 in
theorem walk_GridTouches (a : Option Addr) (n c : Nat) (zs : List Int) (x y : Int) (W : World) (hr : RowIn .i64 W a n c zs) (_ : I64 x) (_ : I64 y) :
    Calls Try.prog 11 #[.slice a n c, .int .i64 x, .int .i64 y] W fun e w' => e = .returned (.bool true) ∧ Below W.heap.size W w' := by
  have HR : Hid (RowIn .i64 W a n c zs) := hr
  clear hr
  obtain ⟨B, hB⟩ : ∃ B, W.heap.size = B := ⟨_, rfl⟩
  go_enter Try.func11, Try.ntmps11
  go_wp2_with fail
  refine (new_any a n c zs _ HR.out.len HR.out.row).mono ?_
  rintro e w0 ⟨rfl, ht, hb, hs⟩
  rw [hB] at ht hb hs ⊢
  have H0 : Taped B W w0 := ⟨ht, ⟨hb, by omega⟩⟩
  clear ht hb hs
  go_wp2_with fail
  refine (next_any _ _ _ (by omega) H0.tape).mono ?_
  rintro e w1 ⟨z1, rfl, g1, g2, ht, hg, hs⟩
  have H1 := H0.next ht hg
  clear H0 ht hg hs
  go_wp2_with fail
  refine (next_any _ _ _ (by omega) H1.tape).mono ?_
  rintro e w2 ⟨z2, rfl, g3, g4, ht, hg, hs⟩
  have H2 := H1.next ht hg
  clear H1 ht hg hs
  go_wp2_with fail
  refine (next_any _ _ _ (by omega) H2.tape).mono ?_
  rintro e w3 ⟨z3, rfl, g5, g6, ht, hg, hs⟩
  have H3 := H2.next ht hg
  clear H2 ht hg hs
  go_wp2_with fail
  refine (next_any _ _ _ (by omega) H3.tape).mono ?_
  rintro e w4 ⟨z4, rfl, g7, g8, ht, hg, hs⟩
  have H4 := H3.next ht hg
  clear H3 ht hg hs
  go_wp2_with fail
  refine (tapeRect_any _ _ H4.tape).mono ?_
  rintro e w5 ⟨r0, r1, r2, r3, rfl, hrun⟩
  have H5 := hid (H4.next hrun.tape hrun.grown).since
  clear H4 hrun
  obtain ⟨w, ew, w_1, w_2⟩ : ∃ w, 1 + z1 = w ∧ 1 ≤ w ∧ w ≤ 9 := ⟨_, rfl, by omega, by omega⟩
  obtain ⟨h, eh, h_1, h_2⟩ : ∃ h, 1 + z2 = h ∧ 1 ≤ h ∧ h ≤ 9 := ⟨_, rfl, by omega, by omega⟩
  obtain ⟨tw, etw, tw_1, tw_2⟩ : ∃ tw, 1 + z3 = tw ∧ 1 ≤ tw ∧ tw ≤ 9 := ⟨_, rfl, by omega, by omega⟩
  obtain ⟨th, eth, th_1, th_2⟩ : ∃ th, 1 + z4 = th ∧ 1 ≤ th ∧ th ≤ 9 := ⟨_, rfl, by omega, by omega⟩
  rw [ew, eh, etw, eth]
  clear ew eh etw eth
  have HG := hid (gOk_iff.2 (show 1 ≤ w ∧ w ≤ 128 ∧ 1 ≤ h ∧ h ≤ 128 ∧ 1 ≤ tw ∧ tw ≤ 64 ∧ 1 ≤ th ∧ th ≤ 64 by omega))
  obtain ⟨C, hC⟩ : ∃ C, w5.heap.size = C := ⟨_, rfl⟩
  go_wp2_with fail
  refine (touching_any _ _ _ _ _ _ _ _ _).mono ?_
  rintro e w6 ⟨a1, n1, c1, l, rfl, hr1, ht1, hb, hn1⟩
  have H6 := hid (Listd.mk (r0 := r0) (r1 := r1) (r2 := r2) (r3 := r3) (kept hb (alloc_at _ hC)) hr1 ((H5.out.alloc _).call hb))
  have HT := hid ht1
  clear hr1 ht1 hb hC
  go_wp2_with (first
    | (go_at_call 12; refine (mod_any _ _ _ (by omega) (by omega)).mono ?_; rintro e w' ⟨rfl, rfl⟩))
  have u1 := Int.emod_nonneg x (b := w) (by omega)
  have u2 := Int.emod_lt_of_pos x (b := w) (by omega)
  have v1 := Int.emod_nonneg y (b := h) (by omega)
  have v2 := Int.emod_lt_of_pos y (b := h) (by omega)
  obtain ⟨u, hu⟩ : ∃ u, x % w = u := ⟨_, rfl⟩
  obtain ⟨v, hv⟩ : ∃ v, y % h = v := ⟨_, rfl⟩
  rw [hu] at u1 u2 ⊢
  rw [hv] at v1 v2 ⊢
  clear hu hv
  have OK := hid (gOfOk_iff.2 ⟨HG.out, u1, u2, v1, v2⟩)
  refine (of_any _ _ _ _ _ _ _).mono ?_
  rintro e w7 ⟨rfl, m, rfl⟩
  rw [OK.out]
  have H7 := hid (H6.out.drewN m)
  have HC := hid (fun hc => (HT.out.mem _).2 (touch_of_contains (r0 := r0) (r1 := r1) (r2 := r2) (r3 := r3) HG.out u1 u2 v1 v2 hc))
  generalize gOf w h tw th u v = o at *
  go_wp2_with fail
  go_loopw [18, 19] (fun b j wr => ∃ (k : Int) (nm : Bool), 0 ≤ k ∧ k ≤ n1 ∧ b = .bool nm ∧ j = .int .i64 k ∧ Named l o k nm ∧ Listd B C a1 n1 l r0 r1 r2 r3 W wr) (fun _ j _ => n1 - (intOf j).toNat)
  case atStart => exact ⟨0, false, by omega, by omega, rfl, rfl, Named.start _ _, H7.out⟩
  case round =>
    obtain ⟨k, nm, k0, k1, rfl, rfl, hnm, hh⟩ := hrel
    obtain ⟨w8, rfl⟩ : ∃ w1 : World, w1 = wr := ⟨_, rfl⟩
    have HN := hid hnm
    have HL := hid hh
    clear hnm hh
    by_cases hk : k < n1
    · obtain ⟨b, o', rfl⟩ := row_at HL.out.row (by omega)
      have cz := row_cell HL.out.row k0 hk
      have hlt : k.toNat < l.length := by have := HL.out.row.1; omega
      obtain ⟨ht, hm⟩ := (HT.out.mem _).1 (getD_mem hlt)
      obtain ⟨n_0, n_1, n_2⟩ := gTok_iff.1 ht
      obtain ⟨_, gn2, _, gn4, _⟩ := gN_bd HG.out
      have pb : gNx w h tw th * gNy w h tw th ≤ 128 * 128 := Int.mul_le_mul gn2 gn4 (by omega) (by omega)
      have HT1 := hid ht
      have HM := hid hm
      have HS := hid (fun hk0 : 0 < k => getD_lt HT.out.sorted (show (k - 1).toNat < k.toNat by omega) hlt)
      have HN' := hid (fun h : Named l o k false => Named.step k0 h)
      clear ht hm hlt
      generalize l.getD k.toNat 0 = z at *
      have zb : -9223372036854775808 ≤ z ∧ z ≤ 9223372036854775807 := by omega
      clear pb gn2 gn4
      go_wp2_with fail
      refine (tile_any _ _ _ _ _ _ zb).mono ?_
      rintro e w9 ⟨rfl, hb⟩
      rw [HT1.out]
      have L9 := hid (HL.out.call hb)
      have cz9 := cell_keep hb cz
      clear hb cz
      have HM' : Hid (rMeet (gT0 w h tw th z) (gT1 w h tw th z) (gT2 w h tw th z) (gT3 w h tw th z) r0 r1 r2 r3 = true) := HM.out
      generalize gT0 w h tw th z = t0 at *
      generalize gT1 w h tw th z = t1 at *
      generalize gT2 w h tw th z = t2 at *
      generalize gT3 w h tw th z = t3 at *
      obtain ⟨D, hD⟩ : ∃ D, w9.heap.size = D := ⟨_, rfl⟩
      have L10 := hid (L9.out.alloc (.cells #[.int .i64 t0, .int .i64 t1, .int .i64 t2, .int .i64 t3] 45))
      have bD := alloc_at (.cells #[.int .i64 t0, .int .i64 t1, .int .i64 t2, .int .i64 t3] 45) hD
      by_cases hk0 : 0 < k
      · obtain ⟨q, f1, f2, f3, hq⟩ : ∃ q, IntKind.i64.wrap (k - 1) = q ∧ 0 ≤ q ∧ q < n1 ∧ q = k - 1 := ⟨k - 1, IntWalk.i64_in _ (by omega), by omega, by omega, rfl⟩
        have cy : w9.cell? ⟨b, o' + (k - 1).toNat, none⟩ = some (.int .i64 (l.getD (k - 1).toNat 0)) := row_cell L9.out.row (by omega) (by omega)
        have zz := HS.out hk0
        rw [← hq] at cy zz
        clear hq
        generalize l.getD q.toNat 0 = z' at *
        have S0 := two_keep (w' := ((w9.alloc (.cells #[.int .i64 t0, .int .i64 t1, .int .i64 t2, .int .i64 t3] 45)).drew)) (below_drewN (Below.refl _ _) 1) ⟨L10.out.box, bD, cell_of L10.out.box rfl, cell_of L10.out.box rfl, cell_of L10.out.box rfl, cell_of L10.out.box rfl, cell_of bD rfl, cell_of bD rfl, cell_of bD rfl, cell_of bD rfl, cell_keep (below_self _ _) cz9, cell_keep (below_self _ _) cy, L10.out.row, L10.out.since.below, L10.out.since.size⟩
        have HS0 := hid S0
        clear S0 bD
        go_wp2_with fail
        go_region_held3 (fun w' => w'.heap[C]? = some (.cells #[.int .i64 r0, .int .i64 r1, .int .i64 r2, .int .i64 r3] 45 (0, 0)) ∧ w'.heap[D]? = some (.cells #[.int .i64 t0, .int .i64 t1, .int .i64 t2, .int .i64 t3] 45 (0, 0)) ∧ w'.cell? ⟨C, 0, none⟩ = some (.int .i64 r0) ∧ w'.cell? ⟨C, 1, none⟩ = some (.int .i64 r1) ∧ w'.cell? ⟨C, 2, none⟩ = some (.int .i64 r2) ∧ w'.cell? ⟨C, 3, none⟩ = some (.int .i64 r3) ∧ w'.cell? ⟨D, 0, none⟩ = some (.int .i64 t0) ∧ w'.cell? ⟨D, 1, none⟩ = some (.int .i64 t1) ∧ w'.cell? ⟨D, 2, none⟩ = some (.int .i64 t2) ∧ w'.cell? ⟨D, 3, none⟩ = some (.int .i64 t3) ∧ w'.cell? ⟨b, o' + k.toNat, none⟩ = some (.int .i64 z) ∧ w'.cell? ⟨b, o' + q.toNat, none⟩ = some (.int .i64 z') ∧ Row w' .i64 (some ⟨b, o', none⟩) n1 l ∧ Below B W w' ∧ B ≤ w'.heap.size) (first | exact HS0.out | (refine two_keep hbs ?_; assumption)) (first | (go_at_call 34; refine (qisect_any _ _ _ _ _ _ _ _ _).mono ?_; rintro e w' ⟨rfl, hbs⟩) | (go_at_call 33; refine (qempty_any _ _ _ _ _).mono ?_; rw [isect_full HM'.out]; rintro e w' ⟨rfl, hbs⟩))
        rename_i hz
        have HZ := hid (Listd.mk (r0 := r0) (r1 := r1) (r2 := r2) (r3 := r3) hz.1 hz.2.2.2.2.2.2.2.2.2.2.2.2.1 ⟨hz.2.2.2.2.2.2.2.2.2.2.2.2.2.1, hz.2.2.2.2.2.2.2.2.2.2.2.2.2.2⟩)
        have czz := hz.2.2.2.2.2.2.2.2.2.2.1
        clear hz cz9 cy f1 f2 f3
        cases nm with
        | true =>
          go_wp2_with fail
          first
            | exact ⟨⟨k + 1, true, by omega, by omega, by rfl, by go_num, HN.out.hit k0, HZ.out⟩, by simp [intOf]; omega⟩
            | (go_roundw; (case rel => exact ⟨k + 1, true, by omega, by omega, by rfl, by go_num, HN.out.hit k0, HZ.out⟩); (case measure => simp [intOf]; omega))
        | false =>
          go_wp2_with fail
          first
            | exact ⟨⟨k + 1, z == o, by omega, by omega, by rfl, by go_num, HN'.out HN.out, HZ.out⟩, by simp [intOf]; omega⟩
            | (go_roundw; (case rel => exact ⟨k + 1, z == o, by omega, by omega, by rfl, by go_num, HN'.out HN.out, HZ.out⟩); (case measure => simp [intOf]; omega))
      · have hk1 : k ≤ 0 := by omega
        have hk2 : (decide (0 < k)) = false := by simp; omega
        have S0 := two_keep (w' := ((w9.alloc (.cells #[.int .i64 t0, .int .i64 t1, .int .i64 t2, .int .i64 t3] 45)).drew)) (below_drewN (Below.refl _ _) 1) ⟨L10.out.box, bD, cell_of L10.out.box rfl, cell_of L10.out.box rfl, cell_of L10.out.box rfl, cell_of L10.out.box rfl, cell_of bD rfl, cell_of bD rfl, cell_of bD rfl, cell_of bD rfl, cell_keep (below_self _ _) cz9, cell_keep (below_self _ _) cz9, L10.out.row, L10.out.since.below, L10.out.since.size⟩
        have HS0 := hid S0
        clear S0 bD
        go_wp2_with fail
        refine wp_region_held_drew (S := (fun w' => w'.heap[C]? = some (.cells #[.int .i64 r0, .int .i64 r1, .int .i64 r2, .int .i64 r3] 45 (0, 0)) ∧ w'.heap[D]? = some (.cells #[.int .i64 t0, .int .i64 t1, .int .i64 t2, .int .i64 t3] 45 (0, 0)) ∧ w'.cell? ⟨C, 0, none⟩ = some (.int .i64 r0) ∧ w'.cell? ⟨C, 1, none⟩ = some (.int .i64 r1) ∧ w'.cell? ⟨C, 2, none⟩ = some (.int .i64 r2) ∧ w'.cell? ⟨C, 3, none⟩ = some (.int .i64 r3) ∧ w'.cell? ⟨D, 0, none⟩ = some (.int .i64 t0) ∧ w'.cell? ⟨D, 1, none⟩ = some (.int .i64 t1) ∧ w'.cell? ⟨D, 2, none⟩ = some (.int .i64 t2) ∧ w'.cell? ⟨D, 3, none⟩ = some (.int .i64 t3) ∧ w'.cell? ⟨b, o' + k.toNat, none⟩ = some (.int .i64 z) ∧ w'.cell? ⟨b, o' + k.toNat, none⟩ = some (.int .i64 z) ∧ Row w' .i64 (some ⟨b, o', none⟩) n1 l ∧ Below B W w' ∧ B ≤ w'.heap.size)) (by kernel_rfl) HS0.out (fun hHeld => ?_)
        refine wpAnyH_take (i := 0) (oi := _) (v := ?_) rfl (by kernel_rfl) (by kernel_rfl) (by kernel_rfl) (fun _ _ _ h => h) (Or.inl ⟨by rfl, ?_⟩) (by assumption) ?_
        rotate_left
        focus (intro w hSw; (try dsimp only at hSw); go_simp; (try with_reducible rfl))
        try simp only [Act.put, List.getElem_toArray, List.getElem_cons_zero, List.getElem_cons_succ, List.setIfInBounds_toArray, List.set_cons_zero, List.set_cons_succ]
        refine wpAnyH_take (i := 1) (oi := _) (v := ?_) rfl (by kernel_rfl) (by kernel_rfl) (by kernel_rfl) (fun _ _ _ h => h) (Or.inl ⟨by rfl, ?_⟩) (by assumption) ?_
        rotate_left
        focus (intro w hSw; (try dsimp only at hSw); go_simp; (try with_reducible rfl))
        try simp only [Act.put, List.getElem_toArray, List.getElem_cons_zero, List.getElem_cons_succ, List.setIfInBounds_toArray, List.set_cons_zero, List.set_cons_succ]
        refine wpAnyH_take (i := 2) (oi := _) (v := ?_) rfl (by kernel_rfl) (by kernel_rfl) (by kernel_rfl) (fun _ _ _ h => h) (Or.inl ⟨by rfl, ?_⟩) (by assumption) ?_
        rotate_left
        focus (intro w hSw; (try dsimp only at hSw); go_simp; (try with_reducible rfl))
        try simp only [Act.put, List.getElem_toArray, List.getElem_cons_zero, List.getElem_cons_succ, List.setIfInBounds_toArray, List.set_cons_zero, List.set_cons_succ]
        refine wpAnyH_take (i := 3) (oi := _) (v := ?_) rfl (by kernel_rfl) (by kernel_rfl) (by kernel_rfl) (fun _ _ _ h => h) (Or.inl ⟨by rfl, ?_⟩) (by assumption) ?_
        rotate_left
        focus (intro w hSw; (try dsimp only at hSw); go_simp; (try with_reducible rfl))
        try simp only [Act.put, List.getElem_toArray, List.getElem_cons_zero, List.getElem_cons_succ, List.setIfInBounds_toArray, List.set_cons_zero, List.set_cons_succ]
        refine wpAnyH_take (i := 4) (oi := _) (v := ?_) rfl (by kernel_rfl) (by kernel_rfl) (by kernel_rfl) (fun _ _ _ h => h) (Or.inl ⟨by rfl, ?_⟩) (by assumption) ?_
        rotate_left
        focus (intro w hSw; (try dsimp only at hSw); go_simp; (try with_reducible rfl))
        try simp only [Act.put, List.getElem_toArray, List.getElem_cons_zero, List.getElem_cons_succ, List.setIfInBounds_toArray, List.set_cons_zero, List.set_cons_succ]
        refine wpAnyH_ready (rs := [5]) (by kernel_rfl) (by simp) (AllReadyH.cons (o := _) rfl (fun K hK => ?_) AllReadyH.nil)
        go_simp
        go_at_call 34; refine (qisect_any _ _ _ _ _ _ _ _ _).mono ?_; rintro e w' ⟨rfl, hbs⟩
        refine hK.out _ _ ?_ (fun hHeld2 => ?_)
        focus ((try dsimp only); (refine two_keep hbs ?_; assumption))
        clear hK K
        try simp only [Act.put, List.getElem_toArray, List.getElem_cons_zero, List.getElem_cons_succ, List.setIfInBounds_toArray, List.set_cons_zero, List.set_cons_succ]
        refine wpAnyH_ready (rs := [6]) (by kernel_rfl) (by simp) (AllReadyH.cons (o := _) rfl (fun K hK => ?_) AllReadyH.nil)
        go_simp
        go_at_call 33; refine (qempty_any _ _ _ _ _).mono ?_; rw [isect_full HM'.out]; rintro e w' ⟨rfl, hbs⟩
        refine hK.out _ _ ?_ (fun hHeld2 => ?_)
        focus ((try dsimp only); (refine two_keep hbs ?_; assumption))
        clear hK K
        try simp only [Act.put, List.getElem_toArray, List.getElem_cons_zero, List.getElem_cons_succ, List.setIfInBounds_toArray, List.set_cons_zero, List.set_cons_succ]
        refine wpAnyH_take (i := 7) (oi := _) (v := ?_) rfl (by kernel_rfl) (by kernel_rfl) (by kernel_rfl) (fun _ _ _ h => h) (Or.inl ⟨by rfl, ?_⟩) (by assumption) ?_
        rotate_left
        focus (intro w hSw; (try dsimp only at hSw); go_simp; (try with_reducible rfl))
        try simp only [Act.put, List.getElem_toArray, List.getElem_cons_zero, List.getElem_cons_succ, List.setIfInBounds_toArray, List.set_cons_zero, List.set_cons_succ]
        refine wpAnyH_take (i := 8) (oi := _) (v := ?_) rfl (by kernel_rfl) (by kernel_rfl) (by kernel_rfl) (fun _ _ _ h => h) (Or.inl ⟨by rfl, ?_⟩) (by assumption) ?_
        rotate_left
        focus (intro w hSw; (try dsimp only at hSw); go_simp; (try with_reducible rfl))
        try simp only [Act.put, List.getElem_toArray, List.getElem_cons_zero, List.getElem_cons_succ, List.setIfInBounds_toArray, List.set_cons_zero, List.set_cons_succ]
        refine wpAnyH_take (i := 9) (oi := _) (v := ?_) rfl (by kernel_rfl) (by kernel_rfl) (by kernel_rfl) (fun _ _ _ h => h) (Or.inl ⟨by rfl, ?_⟩) (by assumption) ?_
        rotate_left
        focus (intro w hSw; (try dsimp only at hSw); go_simp; (try with_reducible rfl))
        try simp only [Act.put, List.getElem_toArray, List.getElem_cons_zero, List.getElem_cons_succ, List.setIfInBounds_toArray, List.set_cons_zero, List.set_cons_succ]
        refine wpAnyH_take (i := 10) (oi := _) (v := ?_) rfl (by kernel_rfl) (by kernel_rfl) (by kernel_rfl) (fun _ _ _ h => h) (Or.inl ⟨by rfl, ?_⟩) (by assumption) ?_
        rotate_left
        focus (intro w hSw; (try dsimp only at hSw); go_simp; (try with_reducible rfl))
        try simp only [Act.put, List.getElem_toArray, List.getElem_cons_zero, List.getElem_cons_succ, List.setIfInBounds_toArray, List.set_cons_zero, List.set_cons_succ]
        refine wpAnyH_take (i := 11) (oi := _) (v := ?_) rfl (by kernel_rfl) (by kernel_rfl) (by kernel_rfl) (fun _ _ _ h => h) (Or.inl ⟨by rfl, ?_⟩) (by assumption) ?_
        rotate_left
        focus (intro w hSw; (try dsimp only at hSw); go_simp; (try with_reducible rfl))
        try simp only [Act.put, List.getElem_toArray, List.getElem_cons_zero, List.getElem_cons_succ, List.setIfInBounds_toArray, List.set_cons_zero, List.set_cons_succ]
        refine wpAnyH_take (i := 12) (oi := _) (v := _) rfl (by kernel_rfl) (by kernel_rfl) (by kernel_rfl) (fun _ _ _ h => h) (Or.inr ⟨by rfl, rfl⟩) (by assumption) ?_
        try simp only [Act.put, List.getElem_toArray, List.getElem_cons_zero, List.getElem_cons_succ, List.setIfInBounds_toArray, List.set_cons_zero, List.set_cons_succ]
        refine wpAnyH_take (i := 13) (oi := _) (v := _) rfl (by kernel_rfl) (by kernel_rfl) (by kernel_rfl) (fun _ _ _ h => h) (Or.inr ⟨by rfl, rfl⟩) (by assumption) ?_
        try simp only [Act.put, List.getElem_toArray, List.getElem_cons_zero, List.getElem_cons_succ, List.setIfInBounds_toArray, List.set_cons_zero, List.set_cons_succ]
        refine wpAnyH_take (i := 14) (oi := _) (v := _) rfl (by kernel_rfl) (by kernel_rfl) (by kernel_rfl) (fun _ _ _ h => h) (Or.inr ⟨by rfl, rfl⟩) (by assumption) ?_
        try simp only [Act.put, List.getElem_toArray, List.getElem_cons_zero, List.getElem_cons_succ, List.setIfInBounds_toArray, List.set_cons_zero, List.set_cons_succ]
        refine wpAnyH_take (i := 15) (oi := _) (v := _) rfl (by kernel_rfl) (by kernel_rfl) (by kernel_rfl) (fun _ _ _ h => h) (Or.inr ⟨by rfl, rfl⟩) (by assumption) ?_
        try simp only [Act.put, List.getElem_toArray, List.getElem_cons_zero, List.getElem_cons_succ, List.setIfInBounds_toArray, List.set_cons_zero, List.set_cons_succ]
        refine wpAnyH_take (i := 16) (oi := _) (v := _) rfl (by kernel_rfl) (by kernel_rfl) (by kernel_rfl) (fun _ _ _ h => h) (Or.inr ⟨by rfl, rfl⟩) (by assumption) ?_
        try simp only [Act.put, List.getElem_toArray, List.getElem_cons_zero, List.getElem_cons_succ, List.setIfInBounds_toArray, List.set_cons_zero, List.set_cons_succ]
        refine wpAnyH_take (i := 17) (oi := _) (v := _) rfl (by kernel_rfl) (by kernel_rfl) (by kernel_rfl) (fun _ _ _ h => h) (Or.inr ⟨by rfl, rfl⟩) (by assumption) ?_
        try simp only [Act.put, List.getElem_toArray, List.getElem_cons_zero, List.getElem_cons_succ, List.setIfInBounds_toArray, List.set_cons_zero, List.set_cons_succ]
        refine wpAnyH_take (i := 18) (oi := _) (v := _) rfl (by kernel_rfl) (by kernel_rfl) (by kernel_rfl) (fun _ _ _ h => h) (Or.inr ⟨by rfl, rfl⟩) (by assumption) ?_
        try simp only [Act.put, List.getElem_toArray, List.getElem_cons_zero, List.getElem_cons_succ, List.setIfInBounds_toArray, List.set_cons_zero, List.set_cons_succ]
        refine wpAnyH_take (i := 19) (oi := _) (v := _) rfl (by kernel_rfl) (by kernel_rfl) (by kernel_rfl) (fun _ _ _ h => h) (Or.inr ⟨by rfl, rfl⟩) (by assumption) ?_
        try simp only [Act.put, List.getElem_toArray, List.getElem_cons_zero, List.getElem_cons_succ, List.setIfInBounds_toArray, List.set_cons_zero, List.set_cons_succ]
        refine wpAnyH_take (i := 20) (oi := _) (v := _) rfl (by kernel_rfl) (by kernel_rfl) (by kernel_rfl) (fun _ _ _ h => h) (Or.inr ⟨by rfl, rfl⟩) (by assumption) ?_
        try simp only [Act.put, List.getElem_toArray, List.getElem_cons_zero, List.getElem_cons_succ, List.setIfInBounds_toArray, List.set_cons_zero, List.set_cons_succ]
        refine wpAnyH_take (i := 21) (oi := _) (v := _) rfl (by kernel_rfl) (by kernel_rfl) (by kernel_rfl) (fun _ _ _ h => h) (Or.inr ⟨by rfl, rfl⟩) (by assumption) ?_
        try simp only [Act.put, List.getElem_toArray, List.getElem_cons_zero, List.getElem_cons_succ, List.setIfInBounds_toArray, List.set_cons_zero, List.set_cons_succ]
        refine wpAnyH_take (i := 22) (oi := _) (v := ?_) rfl (by kernel_rfl) (by kernel_rfl) (by kernel_rfl) (fun _ _ _ h => h) (Or.inl ⟨by rfl, ?_⟩) (by assumption) ?_
        rotate_left
        focus (intro w hSw; (try dsimp only at hSw); go_simp; (try with_reducible rfl))
        try simp only [Act.put, List.getElem_toArray, List.getElem_cons_zero, List.getElem_cons_succ, List.setIfInBounds_toArray, List.set_cons_zero, List.set_cons_succ]
        refine wpAnyH_take (i := 23) (oi := _) (v := ?_) rfl (by kernel_rfl) (by kernel_rfl) (by kernel_rfl) (fun _ _ _ h => h) (Or.inl ⟨by rfl, ?_⟩) (by assumption) ?_
        rotate_left
        focus (intro w hSw; (try dsimp only at hSw); go_simp; (try with_reducible rfl))
        try simp only [Act.put, List.getElem_toArray, List.getElem_cons_zero, List.getElem_cons_succ, List.setIfInBounds_toArray, List.set_cons_zero, List.set_cons_succ]
        refine wpAnyH_done (by kernel_rfl) ?_ _
        have hz := hHeld2
        have HZ := hid (Listd.mk (r0 := r0) (r1 := r1) (r2 := r2) (r3 := r3) hz.1 hz.2.2.2.2.2.2.2.2.2.2.2.2.1 ⟨hz.2.2.2.2.2.2.2.2.2.2.2.2.2.1, hz.2.2.2.2.2.2.2.2.2.2.2.2.2.2⟩)
        have czz := hz.2.2.2.2.2.2.2.2.2.2.1
        clear hz cz9
        cases nm with
        | true =>
          go_wp2_with fail
          first
            | exact ⟨⟨k + 1, true, by omega, by omega, by rfl, by go_num, HN.out.hit k0, HZ.out⟩, by simp [intOf]; omega⟩
            | (go_roundw; (case rel => exact ⟨k + 1, true, by omega, by omega, by rfl, by go_num, HN.out.hit k0, HZ.out⟩); (case measure => simp [intOf]; omega))
        | false =>
          go_wp2_with fail
          first
            | exact ⟨⟨k + 1, z == o, by omega, by omega, by rfl, by go_num, HN'.out HN.out, HZ.out⟩, by simp [intOf]; omega⟩
            | (go_roundw; (case rel => exact ⟨k + 1, z == o, by omega, by omega, by rfl, by go_num, HN'.out HN.out, HZ.out⟩); (case measure => simp [intOf]; omega))
    · have cc : rContains r0 r1 r2 r3 u v = true → nm = true := fun hc => HN.out.done (by have := HL.out.row.1; omega) (HC.out hc)
      have bc0 : w8.cell? ⟨C, 0, none⟩ = some (.int .i64 r0) := cell_of HL.out.box rfl
      have bc1 : w8.cell? ⟨C, 1, none⟩ = some (.int .i64 r1) := cell_of HL.out.box rfl
      have bc2 : w8.cell? ⟨C, 2, none⟩ = some (.int .i64 r2) := cell_of HL.out.box rfl
      have bc3 : w8.cell? ⟨C, 3, none⟩ = some (.int .i64 r3) := cell_of HL.out.box rfl
      cases nm with
      | true =>
        go_wp2_with (first | (go_at_call 25; refine (sane5 _).mono ?_; rintro e w' ⟨rfl, hb⟩))
        go_ret
        exact ⟨rfl, by first | exact (HL.out.call hb).since.all hB | exact (HL.out.call hb).since.below⟩
      | false =>
        have HCC := hid (show rContains r0 r1 r2 r3 u v = false by rw [← Bool.not_eq_true]; intro h; exact absurd (cc h) (by simp))
        clear cc
        go_wp2_with fail
        refine (qcontains_any _ _ _ _ _ _ _).mono ?_
        rw [HCC.out]
        rintro e w9 ⟨rfl, hb⟩
        have L9 := hid (HL.out.call hb)
        clear hb bc0 bc1 bc2 bc3
        go_wp2_with (first | (go_at_call 25; refine (sane5 _).mono ?_; rintro e w' ⟨rfl, hb⟩))
        go_ret
        exact ⟨rfl, by first | exact (L9.out.call hb).since.all hB | exact (L9.out.call hb).since.below⟩
end Go.Proofs.Ytekpekhdkghnmaa
