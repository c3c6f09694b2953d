/-
  The walk of IntegralGrows: tiles that are computed one after another from their neighbours give the integral plane.
-/
import Derived.Test.YtoojiabdgaflgaaSane13
import Derived.Test.YtoojiabdgaflgaaKC
import Derived.Test.YtoojiabdgaflgaaIntSum
import Derived.Test.YtoojiabdgaflgaaKJ
import Derived.Test.YtoojiabdgaflgaaGridP
import Derived.Test.YtoojiabdgaflgaaKB
namespace Go.Proofs.Ytoojiabdgaflgaa
open Go.RowKit
section

set_option linter.unusedVariables false

/-- The pixels behind the first i tiles. -/
def gL (w : Int) (zs : List Int) (nh nw cols tw th i : Nat) : List Int := (List.range (nh * nw)).map fun n => if n / nw / th * cols + n % nw / tw < i then (wList w zs nh nw).getD n 0 else 0
theorem gL_len (w : Int) (zs : List Int) (nh nw cols tw th i : Nat) : (gL w zs nh nw cols tw th i).length = nh * nw := by simp [gL]
theorem idx_lt {nh nw r c : Nat} (hr : r < nh) (hc : c < nw) : r * nw + c < nh * nw := by
  have : (r + 1) * nw ≤ nh * nw := Nat.mul_le_mul_right _ (by omega)
  rw [Nat.add_mul, Nat.one_mul] at this
  omega
theorem idx_div {nw r c : Nat} (hc : c < nw) : (r * nw + c) / nw = r ∧ (r * nw + c) % nw = c := by
  constructor
  · rw [Nat.mul_comm, Nat.mul_add_div (by omega), Nat.div_eq_of_lt hc]; rfl
  · rw [Nat.mul_comm, Nat.mul_add_mod, Nat.mod_eq_of_lt hc]
theorem gL_at (w : Int) (zs : List Int) {nh nw : Nat} (cols tw th i : Nat) {r c : Nat} (hr : r < nh) (hc : c < nw) :
    (gL w zs nh nw cols tw th i).getD (r * nw + c) 0 = if r / th * cols + c / tw < i then rowsS w zs 0 0 (r + 1) (c + 1) else 0 := by
  have hlt := idx_lt hr hc
  obtain ⟨e1, e2⟩ := idx_div (r := r) hc
  unfold gL
  rw [List.getD_eq_getElem?_getD, List.getElem?_map, List.getElem?_range hlt]
  simp only [Option.map_some, Option.getD_some, e1, e2]
  rw [wList_get hr hc]
theorem gL_zero (w : Int) (zs : List Int) (nh nw cols tw th : Nat) : gL w zs nh nw cols tw th 0 = List.replicate (nh * nw) 0 := by
  refine List.ext_getElem (by simp [gL]) fun i h1 h2 => ?_
  simp [gL]
theorem gL_all {w : Int} {zs : List Int} {nh nw cols rows tw th : Nat} (htw : 0 < tw) (hth : 0 < th) (hc : nw ≤ cols * tw) (hr : nh ≤ rows * th) : gL w zs nh nw cols tw th (cols * rows) = wList w zs nh nw := by
  refine eq_of_getD (by rw [gL_len, wList_len]) fun i hi => ?_
  rw [gL_len] at hi
  have hw : 0 < nw := by rcases Nat.eq_zero_or_pos nw with h' | h'; subst h'; simp at hi; exact h'
  have hk : i / nw < nh := (Nat.div_lt_iff_lt_mul hw).2 hi
  have hj := Nat.mod_lt i hw
  have e := Nat.div_add_mod i nw
  rw [Nat.mul_comm] at e
  obtain ⟨r, er⟩ : ∃ a, i / nw = a := ⟨_, rfl⟩
  obtain ⟨c, ec⟩ : ∃ b, i % nw = b := ⟨_, rfl⟩
  rw [er, ec] at e
  rw [er] at hk
  rw [ec] at hj
  rw [← e, gL_at w zs cols tw th _ hk hj, wList_get hk hj]
  have h1 : r / th < rows := (Nat.div_lt_iff_lt_mul hth).2 (by omega)
  have h2 : c / tw < cols := (Nat.div_lt_iff_lt_mul htw).2 (by omega)
  have h3 : r / th * cols + c / tw < cols * rows := by
    have : (r / th + 1) * cols ≤ rows * cols := Nat.mul_le_mul_right _ (by omega)
    rw [Nat.add_mul, Nat.one_mul, Nat.mul_comm rows] at this
    omega
  rw [if_pos h3]
/-- Where a tile lies: its row of tiles a, its column of tiles b. -/
structure TileAt (nh nw cols tw th i a b X Y qw qh : Nat) : Prop where
  htw : 0 < tw
  hth : 0 < th
  hb : b < cols
  hi : i = a * cols + b
  hX : X = b * tw
  hY : Y = a * th
  hqw : X + qw = min (X + tw) nw
  hqh : Y + qh = min (Y + th) nh
  hx : X < nw
  hy : Y < nh
theorem div_is {r a t : Nat} (ht : 0 < t) : r / t = a ↔ a * t ≤ r ∧ r < a * t + t := by
  constructor
  · intro h
    have e := Nat.div_add_mod r t
    have m := Nat.mod_lt r ht
    rw [h, Nat.mul_comm] at e
    omega
  · rintro ⟨h1, h2⟩
    have : r / t < a + 1 := (Nat.div_lt_iff_lt_mul ht).2 (by rw [Nat.add_mul, Nat.one_mul]; exact h2)
    have : a ≤ r / t := (Nat.le_div_iff_mul_le ht).2 h1
    omega
/-- Laying a tile with its pixels over what was there. -/
theorem gL_next {w : Int} {zs : List Int} {nh nw cols tw th i a b X Y qw qh : Nat} (t : TileAt nh nw cols tw th i a b X Y qw qh) (hcols : nw ≤ cols * tw) :
    bl (gL w zs nh nw cols tw th i) (gridL (fun k j => rowsS w zs 0 0 (Y + k + 1) (X + j + 1)) qw qh 0) nw X Y qw qh = gL w zs nh nw cols tw th (i + 1) := by
  obtain ⟨htw, hth, hb, hi, hX, hY, hqw, hqh, hx, hy⟩ := t
  have h1 : X + qw ≤ nw := by omega
  have h2 : Y + qh ≤ nh := by omega
  refine eq_of_getD (by rw [bl_len (gL_len ..) h1 h2 (Nat.le_refl _), gL_len, gL_len]) fun n hn => ?_
  rw [bl_len (gL_len ..) h1 h2 (Nat.le_refl _), gL_len] at hn
  have hw : 0 < nw := by omega
  have hk : n / nw < nh := (Nat.div_lt_iff_lt_mul hw).2 hn
  have hj := Nat.mod_lt n hw
  have e := Nat.div_add_mod n nw
  rw [Nat.mul_comm] at e
  obtain ⟨r, er⟩ : ∃ a, n / nw = a := ⟨_, rfl⟩
  obtain ⟨c, ec⟩ : ∃ b, n % nw = b := ⟨_, rfl⟩
  rw [er, ec] at e
  rw [er] at hk
  rw [ec] at hj
  rw [← e, bl_at (gL_len ..) h1 h2 hj (Nat.le_refl _), gL_at w zs cols tw th _ hk hj, gL_at w zs cols tw th _ hk hj]
  have hc2 : c / tw < cols := (Nat.div_lt_iff_lt_mul htw).2 (by omega)
  have d1 := div_is (r := r) (a := a) hth
  have d2 := div_is (r := c) (a := b) htw
  by_cases hin : X ≤ c ∧ c < X + qw ∧ Y ≤ r ∧ r < Y + qh
  · have q1 : r / th = a := d1.2 (by omega)
    have q2 : c / tw = b := d2.2 (by omega)
    rw [if_pos hin, if_pos (by rw [q1, q2]; omega), gridL_get _ qw qh 0 (r - Y) (c - X) (by omega) (.inl (by omega)), show Y + (r - Y) + 1 = r + 1 by omega, show X + (c - X) + 1 = c + 1 by omega]
  · rw [if_neg hin]
    have hne : ¬ (r / th = a ∧ c / tw = b) := fun hh => hin (by
      have := d1.1 hh.1
      have := d2.1 hh.2
      omega)
    have key : r / th * cols + c / tw < i ↔ r / th * cols + c / tw < i + 1 := by
      constructor
      · omega
      · intro hlt
        rcases Nat.lt_or_ge (r / th * cols + c / tw) i with h | h
        · exact h
        · exfalso
          have he : r / th * cols + c / tw = a * cols + b := by omega
          have f1 : r / th = a := by
            have := congrArg (· / cols) he
            simp only [Nat.mul_comm _ cols, Nat.mul_add_div (show 0 < cols by omega), Nat.div_eq_of_lt hc2, Nat.div_eq_of_lt hb] at this
            omega
          rw [f1] at he
          exact hne ⟨f1, by omega⟩
    by_cases h : r / th * cols + c / tw < i
    · rw [if_pos h, if_pos (key.1 h)]
    · rw [if_neg h, if_neg (fun h' => h (key.2 h'))]
/-- The neighbours of a tile are there already. -/
theorem gL_left {w : Int} {zs : List Int} {nh nw cols tw th i a b X Y qw qh : Nat} (hnw : w = nw) (t : TileAt nh nw cols tw th i a b X Y qw qh) {r c : Nat} (hr : r ≤ Y + qh) (hc : c ≤ X + qw) (ho : r ≤ Y ∨ c ≤ X) :
    qAt w (gL w zs nh nw cols tw th i) ((c : Int) - 1) ((r : Int) - 1) = rowsS w zs 0 0 r c := by
  obtain ⟨htw, hth, hb, hi, hX, hY, hqw, hqh, hx, hy⟩ := t
  unfold qAt
  rcases Nat.eq_zero_or_pos c with h0 | hc0
  · subst h0; rw [if_pos (by omega), rowsS_zero]
  rcases Nat.eq_zero_or_pos r with h0 | hr0
  · subst h0; rw [if_pos (by omega)]; rfl
  rw [if_neg (by omega)]
  obtain ⟨r', rfl⟩ : ∃ m, r = m + 1 := ⟨r - 1, by omega⟩
  obtain ⟨c', rfl⟩ : ∃ m, c = m + 1 := ⟨c - 1, by omega⟩
  have e : ((((r' + 1 : Nat) : Int) - 1) * w + (((c' + 1 : Nat) : Int) - 1)).toNat = r' * nw + c' := by
    subst hnw
    have e1 : ((r' + 1 : Nat) : Int) - 1 = r' := by omega
    have e2 : ((c' + 1 : Nat) : Int) - 1 = c' := by omega
    have e3 : (r' : Int) * (nw : Int) = ((r' * nw : Nat) : Int) := by simp
    rw [e1, e2, e3]
    omega
  rw [e, gL_at w zs cols tw th i (by omega) (by omega)]
  have d1 := (div_is (r := r') (a := r' / th) hth).1 rfl
  have d2 := (div_is (r := c') (a := c' / tw) htw).1 rfl
  have f1 : r' / th ≤ a := by
    have : r' / th < a + 1 := (Nat.div_lt_iff_lt_mul hth).2 (by rw [Nat.add_mul, Nat.one_mul]; omega)
    omega
  have f2 : c' / tw ≤ b := by
    have : c' / tw < b + 1 := (Nat.div_lt_iff_lt_mul htw).2 (by rw [Nat.add_mul, Nat.one_mul]; omega)
    omega
  rw [if_pos ?_]
  rcases Nat.lt_or_ge (r' / th) a with h | h
  · have : (r' / th + 1) * cols ≤ a * cols := Nat.mul_le_mul_right _ (by omega)
    rw [Nat.add_mul, Nat.one_mul] at this
    omega
  · have h4 : r' / th = a := by omega
    rcases Nat.lt_or_ge (c' / tw) b with h' | h'
    · rw [h4]; omega
    · exfalso
      have h5 : c' / tw = b := by omega
      rw [h4] at d1
      rw [h5] at d2
      omega
end
section

set_option linter.unusedVariables false

/-- The numbers of tiles. -/
theorem grow_count {w h tw th : Int} {nh nw ntw nth : Nat} (hnh : h = nh) (hnw : w = nw) (htw : tw = ntw) (hth : th = nth) (hg : gOk w h tw th = true) :
    ∃ cols rows : Nat, gNx w h tw th = cols ∧ gNy w h tw th = rows ∧ 1 ≤ cols ∧ 1 ≤ rows ∧ cols ≤ 128 ∧ rows ≤ 128 ∧ nw ≤ cols * ntw ∧ nh ≤ rows * nth := by
  obtain ⟨g1, g2, g3, g4, g5, g6, g7, g8⟩ := gN_bd hg
  obtain ⟨cols, hc⟩ : ∃ c : Nat, gNx w h tw th = c := ⟨(gNx w h tw th).toNat, by omega⟩
  obtain ⟨rows, hr⟩ : ∃ c : Nat, gNy w h tw th = c := ⟨(gNy w h tw th).toNat, by omega⟩
  rw [hc] at g1 g2 g5 g6
  rw [hr] at g3 g4 g7 g8
  refine ⟨cols, rows, hc, hr, by omega, by omega, by omega, by omega, ?_, ?_⟩
  · have : ((nw : Nat) : Int) ≤ ((cols * ntw : Nat) : Int) := by rw [Int.natCast_mul, ← htw, ← hnw]; exact g6
    omega
  · have : ((nh : Nat) : Int) ≤ ((rows * nth : Nat) : Int) := by rw [Int.natCast_mul, ← hth, ← hnh]; exact g8
    omega
/-- The tile of a number. -/
theorem grow_at {w h tw th : Int} {nh nw ntw nth cols rows i : Nat} (hnh : h = nh) (hnw : w = nw) (htw : tw = ntw) (hth : th = nth) (hg : gOk w h tw th = true) (hc : gNx w h tw th = cols) (hr : gNy w h tw th = rows) (hi : i < cols * rows) :
    ∃ a b X Y qw qh : Nat, TileAt nh nw cols ntw nth i a b X Y qw qh ∧ 1 ≤ qw ∧ 1 ≤ qh ∧ X + qw ≤ nw ∧ Y + qh ≤ nh ∧ gT0 w h tw th i = X ∧ gT1 w h tw th i = Y ∧ gT2 w h tw th i = ((X + qw : Nat) : Int) ∧ gT3 w h tw th i = ((Y + qh : Nat) : Int) := by
  have hii : ((i : Nat) : Int) < (cols : Int) * (rows : Int) := by rw [← Int.natCast_mul]; omega
  have ht : gTok w h tw th i = true := gTok_iff.2 ⟨hg, by omega, by rw [hc, hr]; exact hii⟩
  obtain ⟨c1, c2, c3, c4, c5, c6, c7, c8⟩ := tile_bd ht
  obtain ⟨o1, o2, o3, o4, o5, o6, o7, o8⟩ := gOk_iff.1 hg
  have e0 : gT0 w h tw th i = (i : Int) % gNx w h tw th * tw := by unfold gT0; rw [if_pos ht]
  have e1 : gT1 w h tw th i = (i : Int) / gNx w h tw th * th := by unfold gT1; rw [if_pos ht]
  have e2 : gT2 w h tw th i = min ((i : Int) % gNx w h tw th * tw + tw) w := by unfold gT2; rw [if_pos ht]
  have e3 : gT3 w h tw th i = min ((i : Int) / gNx w h tw th * th + th) h := by unfold gT3; rw [if_pos ht]
  rw [hc] at c1 c2 c3 c4 c5 c6 c7 c8 e0 e1 e2 e3
  rw [hr] at c4
  have f0 : (i : Int) % (cols : Int) * tw = ((i % cols * ntw : Nat) : Int) := by rw [htw]; simp
  have f1 : (i : Int) / (cols : Int) * th = ((i / cols * nth : Nat) : Int) := by rw [hth]; simp
  rw [f0] at c5 c6 e0 e2
  rw [f1] at c7 c8 e1 e3
  have hd := Nat.div_add_mod i cols
  rw [Nat.mul_comm] at hd
  have hm : i % cols < cols := by omega
  obtain ⟨X, hX⟩ : ∃ X, i % cols * ntw = X := ⟨_, rfl⟩
  obtain ⟨Y, hY⟩ : ∃ Y, i / cols * nth = Y := ⟨_, rfl⟩
  rw [hX] at c5 c6 e0 e2
  rw [hY] at c7 c8 e1 e3
  refine ⟨i / cols, i % cols, X, Y, min (X + ntw) nw - X, min (Y + nth) nh - Y, ⟨by omega, by omega, hm, by omega, hX.symm, hY.symm, by omega, by omega, by omega, by omega⟩, by omega, by omega, by omega, by omega, e0, e1, by omega, by omega⟩
end
section

set_option linter.unusedVariables false
set_option linter.unusedSimpArgs false


set_option maxRecDepth 100000 in
theorem lawat_any (w h mx x y : Int) (a : Option Addr) (n c : Nat) (zs : List Int) (W : World) (hs : Slc W a n c zs) (hn : (n : Int) = w * h) (h1 : 1 ≤ w) (h2 : w ≤ 128) (h3 : h ≤ 128) (hp : w * h ≤ 4096) (x0 : -1 ≤ x) (x1 : x < w) (y0 : -1 ≤ y) (y1 : y < h) :
    Calls Try.prog 64 #[.agg #[.int .i64 w, .int .i64 h, .int .i64 mx, .slice a n c], .int .i64 x, .int .i64 y] W fun e w' => e = .returned (.int .i64 (qAt w zs x y)) ∧ Below W.heap.size W w' := by
  have HB := hid (below_self W (.cells #[.int .i64 w, .int .i64 h, .int .i64 mx, .slice a n c] 26))
  by_cases hc : x < 0 ∨ y < 0
  · rw [qAt_no hc]
    rcases hc with hc | hc
    all_goals
      go_enter Try.func64, Try.ntmps64
      go_wp2_with fail
      all_goals first
        | (go_ret; exact ⟨rfl, HB.out⟩)
        | (exfalso; omega)
  · rw [qAt_yes hc]
    have x0' : 0 ≤ x := by omega
    have y0' : 0 ≤ y := by omega
    obtain ⟨p0, p1, p2, p3⟩ := pix_at h1 h2 h3 x0' x1 y0' y1
    obtain ⟨P, hP, q1, P0⟩ : ∃ P, y * w = P ∧ IntKind.i64.wrap (y * w) = P ∧ 0 ≤ P := ⟨_, rfl, IntWalk.i64_in _ (by omega), p0⟩
    rw [hP] at p1 p2 p3 ⊢
    obtain ⟨b', o, rfl⟩ := row_at hs.row (by omega)
    have cz := row_cell (hs.alloc (.cells #[.int .i64 w, .int .i64 h, .int .i64 mx, .slice (some ⟨b', o, none⟩) n c] 26)).row (j := (P + x).toNat) (by omega)
    have hlt : P + x < n := by omega
    have hnc := hs.nc
    have hcap := hs.cap
    generalize zs.getD (P + x).toNat 0 = z at *
    clear hs hP hc hn p3 x0 y0
    go_enter Try.func64, Try.ntmps64
    go_wp2_with fail
    go_ret
    exact ⟨rfl, HB.out⟩

theorem gridL_congr {f g : Nat → Nat → Int} {wd ht : Nat} (h : ∀ k j, k < ht → j < wd → f k j = g k j) : gridL f wd ht 0 = gridL g wd ht 0 := by
  refine eq_of_getD (by rw [gridL_len, gridL_len]) fun i hi => ?_
  rw [gridL_len] at hi
  have hw : 0 < wd := by rcases Nat.eq_zero_or_pos wd with h' | h'; subst h'; simp at hi; exact h'
  have hk : i / wd < ht := (Nat.div_lt_iff_lt_mul hw).2 (by omega)
  have hj := Nat.mod_lt i hw
  have e := Nat.div_add_mod i wd
  rw [Nat.mul_comm] at e
  rw [← e, gridL_get f wd ht 0 _ _ hj (.inl hk), gridL_get g wd ht 0 _ _ hj (.inl hk)]
  exact h _ _ hk hj
def lfL (w : Int) (zs : List Int) (X Y k : Nat) : List Int := (List.range k).map fun k => rowsS w zs 0 0 (Y + k + 1) X
def tpL (w : Int) (zs : List Int) (X Y j : Nat) : List Int := (List.range j).map fun j => rowsS w zs 0 0 Y (X + j + 1)
def tgL (w : Int) (zs : List Int) (X Y qw qh : Nat) : List Int := gridL (fun k j => rowsS w zs 0 0 (Y + k + 1) (X + j + 1)) qw qh 0
theorem lfL_next (w : Int) (zs : List Int) (X Y k : Nat) : lfL w zs X Y (k + 1) = lfL w zs X Y k ++ [rowsS w zs 0 0 (Y + k + 1) X] := by simp [lfL, List.range_succ]
theorem tpL_next (w : Int) (zs : List Int) (X Y k : Nat) : tpL w zs X Y (k + 1) = tpL w zs X Y k ++ [rowsS w zs 0 0 Y (X + k + 1)] := by simp [tpL, List.range_succ]
theorem lfL_len (w : Int) (zs : List Int) (X Y k : Nat) : (lfL w zs X Y k).length = k := by simp [lfL]
theorem tpL_len (w : Int) (zs : List Int) (X Y k : Nat) : (tpL w zs X Y k).length = k := by simp [tpL]
section
variable {w h mx : Int} {zs : List Int} {nh nw X Y qw qh : Nat} {r0 r1 r2 r3 : Int}
theorem grow_all (e0 : r0 = X) (e1 : r1 = Y) : tAll w zs r0 r1 (lfL w zs X Y qh) (tpL w zs X Y qw) (rowsS w zs 0 0 Y X) = tgL w zs X Y qw qh := by
  unfold tAll tgL
  rw [lfL_len, tpL_len]
  refine gridL_congr fun k j hk hj => ?_
  unfold tVal
  have h1 : (lfL w zs X Y qh).getD k 0 = rowsS w zs 0 0 (Y + k + 1) X := by simp [lfL, List.getD_eq_getElem?_getD, hk]
  have h2 : (tpL w zs X Y qw).getD j 0 = rowsS w zs 0 0 Y (X + j + 1) := by simp [tpL, List.getD_eq_getElem?_getD, hj]
  have h3 := rowsS_rect w zs Y X (k + 1) (j + 1)
  rw [h1, h2, tSum_rowsS, e0, e1, ← h3]
  simp only [← Nat.add_assoc]
  omega
theorem grow_code (hv : pValid w h mx zs = true) (hi : iOk w h mx = true) (hnh : h = nh) (hnw : w = nw) (hx : X + qw ≤ nw) (hy : Y + qh ≤ nh) (hq1 : 1 ≤ qw) (hq2 : 1 ≤ qh) (e0 : r0 = X) (e1 : r1 = Y) (e2 : r2 = ((X + qw : Nat) : Int)) (e3 : r3 = ((Y + qh : Nat) : Int)) :
    tCode w h mx zs r0 r1 r2 r3 (lfL w zs X Y qh) (tpL w zs X Y qw) (rowsS w zs 0 0 Y X) = 0 := by
  obtain ⟨p1, p2, p3, p4, p5, p6, p7⟩ := pOk_iff.1 (pValid_iff.1 hv).1
  have hin := (inside_iff (w := w) (h := h) (r0 := r0) (r1 := r1) (r2 := r2) (r3 := r3) p1 p2 p3 p4).2 (by omega)
  have hR : ∀ k j : Nat, k ≤ nh → j ≤ nw → 0 ≤ rowsS w zs 0 0 k j ∧ rowsS w zs 0 0 k j ≤ w * h * mx := fun k j hk hj => whole_in hv (by omega) (by omega)
  have a1 : allIn (w * h * mx) [rowsS w zs 0 0 Y X] = true := allIn_iff.2 fun v hv' => by
    rw [List.mem_singleton] at hv'; subst hv'; exact hR _ _ (by omega) (by omega)
  have a2 : allIn (w * h * mx) (lfL w zs X Y qh) = true := allIn_iff.2 fun v hv' => by
    simp only [lfL, List.mem_map, List.mem_range] at hv'
    obtain ⟨k, hk, rfl⟩ := hv'
    exact hR _ _ (by omega) (by omega)
  have a3 : allIn (w * h * mx) (tpL w zs X Y qw) = true := allIn_iff.2 fun v hv' => by
    simp only [tpL, List.mem_map, List.mem_range] at hv'
    obtain ⟨k, hk, rfl⟩ := hv'
    exact hR _ _ (by omega) (by omega)
  have a4 : allIn (w * h * mx) (tAll w zs r0 r1 (lfL w zs X Y qh) (tpL w zs X Y qw) (rowsS w zs 0 0 Y X)) = true := by
    rw [grow_all e0 e1, allIn_iff]
    exact (gridL_all _ qw qh).2 fun a ha b hb => hR _ _ (by omega) (by omega)
  unfold tCode
  rw [if_neg (by rw [hv]; simp), if_neg (by rw [hi]; simp), if_neg (by rw [hin]; simp), if_neg (by rw [lfL_len, tpL_len]; omega), if_neg (by rw [a1, a2, a3]; simp), if_neg (by rw [a4]; simp)]
theorem tgL_valid (hv : pValid w h mx zs = true) (hi : iOk w h mx = true) (hnh : h = nh) (hnw : w = nw) (hx : X + qw ≤ nw) (hy : Y + qh ≤ nh) (hq1 : 1 ≤ qw) (hq2 : 1 ≤ qh) : pValid qw qh (w * h * mx) (tgL w zs X Y qw qh) = true := by
  have hW := wList_valid hv hi hnh hnw
  obtain ⟨p1, p2, p3, p4, p5, p6, p7⟩ := pOk_iff.1 (pValid_iff.1 hW).1
  have e := Int.mul_le_mul (a := (qw : Int)) (c := w) (b := (qh : Int)) (d := h) (by omega) (by omega) (by omega) (by omega)
  refine pValid_iff.2 ⟨pOk_iff.2 ⟨by omega, by omega, by omega, by omega, by omega, p6, p7⟩, ?_, ?_⟩
  · unfold tgL; rw [gridL_len, Int.mul_comm]; simp
  · exact (gridL_all _ qw qh).2 fun a ha b hb => whole_in hv (by omega) (by omega)
theorem gL_valid (hv : pValid w h mx zs = true) (hi : iOk w h mx = true) (hnh : h = nh) (hnw : w = nw) (cols tw th i : Nat) : pValid w h (w * h * mx) (gL w zs nh nw cols tw th i) = true := by
  have hW := wList_valid hv hi hnh hnw
  obtain ⟨p1, p2, p3, p4, p5, p6, p7⟩ := pOk_iff.1 (pValid_iff.1 hW).1
  refine pValid_iff.2 ⟨(pValid_iff.1 hW).1, by rw [gL_len, hnh, hnw, Int.mul_comm]; simp, fun v hv' => ?_⟩
  simp only [gL, List.mem_map, List.mem_range] at hv'
  obtain ⟨n, hn, rfl⟩ := hv'
  split
  · exact (pValid_iff.1 hW).2.2 _ (getD_mem' (by rw [wList_len]; exact hn))
  · omega
/-- The tile of a step. -/
theorem grow_tile (hv : pValid w h mx zs = true) (hi : iOk w h mx = true) (hnh : h = nh) (hnw : w = nw) (hx : X + qw ≤ nw) (hy : Y + qh ≤ nh) (hq1 : 1 ≤ qw) (hq2 : 1 ≤ qh) (e0 : r0 = X) (e1 : r1 = Y) (e2 : r2 = ((X + qw : Nat) : Int)) (e3 : r3 = ((Y + qh : Nat) : Int))
    (a : Option Addr) (n c : Nat) (al : Option Addr) (nl cl : Nat) (at' : Option Addr) (nt ct : Nat) (W : World) (hs : Slc W a n c zs) (hl : Slc W al nl cl (lfL w zs X Y qh)) (ht : Slc W at' nt ct (tpL w zs X Y qw)) :
    Calls Try.prog 44 #[.agg #[.int .i64 w, .int .i64 h, .int .i64 mx, .slice a n c], .agg #[.int .i64 r0, .int .i64 r1, .int .i64 r2, .int .i64 r3], .slice al nl cl, .slice at' nt ct, .int .i64 (rowsS w zs 0 0 Y X)] W fun e w' =>
      ∃ v, e = .returned (.tuple #[.agg #[.int .i64 qw, .int .i64 qh, .int .i64 (w * h * mx), v], .int .i64 0]) ∧ Own W.heap.size w' v (tgL w zs X Y qw qh) ∧ Below W.heap.size W w' := by
  refine (itile_any w h mx a n c zs r0 r1 r2 r3 al nl cl (lfL w zs X Y qh) at' nt ct (tpL w zs X Y qw) (rowsS w zs 0 0 Y X) W hs hl ht).mono ?_
  rintro e w' ⟨v, rfl, ho, hb⟩
  have hc := grow_code hv hi hnh hnw hx hy hq1 hq2 e0 e1 e2 e3
  have hti : ∀ x, tIf w h mx zs r0 r1 r2 r3 (lfL w zs X Y qh) (tpL w zs X Y qw) (rowsS w zs 0 0 Y X) x = x := fun x => by unfold tIf; rw [if_pos hc]
  have hl2 : tList w h mx zs r0 r1 r2 r3 (lfL w zs X Y qh) (tpL w zs X Y qw) (rowsS w zs 0 0 Y X) = tgL w zs X Y qw qh := by unfold tList; rw [if_pos hc, grow_all e0 e1]
  rw [hl2] at ho
  refine ⟨v, ?_, ho, hb⟩
  rw [hti, hti, hti, hc, show r2 - r0 = (qw : Int) by omega, show r3 - r1 = (qh : Int) by omega]
/-- The blit of a step. -/
theorem grow_blit {cols tw th i ra rb : Nat} (hv : pValid w h mx zs = true) (hi : iOk w h mx = true) (hnh : h = nh) (hnw : w = nw) (t : TileAt nh nw cols tw th i ra rb X Y qw qh) (hcols : nw ≤ cols * tw) (hq1 : 1 ≤ qw) (hq2 : 1 ≤ qh)
    (a : Option Addr) (n c : Nat) (a' : Option Addr) (n' c' : Nat) (W : World) (hs : Slc W a n c (gL w zs nh nw cols tw th i)) (hq : Slc W a' n' c' (tgL w zs X Y qw qh)) :
    Calls Try.prog 50 #[.agg #[.int .i64 w, .int .i64 h, .int .i64 (w * h * mx), .slice a n c], .agg #[.int .i64 qw, .int .i64 qh, .int .i64 (w * h * mx), .slice a' n' c'], .int .i64 X, .int .i64 Y] W fun e w' =>
      ∃ v, e = .returned (.tuple #[.agg #[.int .i64 w, .int .i64 h, .int .i64 (w * h * mx), v], .bool true]) ∧ Own W.heap.size w' v (gL w zs nh nw cols tw th (i + 1)) ∧ Below W.heap.size W w' := by
  have hx : X + qw ≤ nw := by have := t.hqw; omega
  have hy : Y + qh ≤ nh := by have := t.hqh; omega
  refine (pblit_any _ _ _ _ _ _ _ _ _ _ _ _ _ _ _ _ W hs hq).mono ?_
  rintro e w' ⟨v, rfl, ho, hb⟩
  have hk := blit_ok (x := (X : Int)) (y := (Y : Int)) (gL_valid hv hi hnh hnw cols tw th i) (tgL_valid hv hi hnh hnw hx hy hq1 hq2) (by omega)
  have hbi : ∀ z, blIf w h (w * h * mx) (gL w zs nh nw cols tw th i) qw qh (w * h * mx) (tgL w zs X Y qw qh) X Y z = z := fun z => by unfold blIf; rw [if_pos hk]
  have hbl : blList w h (w * h * mx) (gL w zs nh nw cols tw th i) qw qh (w * h * mx) (tgL w zs X Y qw qh) X Y = gL w zs nh nw cols tw th (i + 1) := by
    unfold blList
    rw [if_pos hk, hnw]
    simp only [Int.toNat_natCast]
    rw [← hnw]
    exact gL_next t hcols
  rw [hbl] at ho
  exact ⟨v, by rw [hbi, hbi, hbi, hk], ho, hb⟩
end
end
attribute [local go_sem ↓] Go.wp_at_zero Go.wp_at_succ
set_option linter.unusedVariables false
set_option linter.unusedSimpArgs false

set_option maxRecDepth 100000 in
set_option maxHeartbeats 12800000 in
theorem walk_IntegralGrows (a : Option Addr) (n c : Nat) (zs : List Int) (W : World) (hr : RowIn .i64 W a n c zs) :
    Calls Try.prog 17 #[.slice a n c] W fun e w' => e = .returned (.bool true) ∧ Below W.heap.size W w' := by
  obtain ⟨B, hB⟩ : ∃ B, W.heap.size = B := ⟨_, rfl⟩
  have HI0 := hid (St.init hB)
  have HN := hid (nearRow hr hB)
  have HR := hid hr
  clear hr
  go_enter Try.func17, Try.ntmps17
  go_wp2_with fail
  obtain ⟨K1, hK1⟩ : ∃ D, W.heap.size = D := ⟨_, rfl⟩
  refine (newB_any B _ _ _ _ _ HR.out.len (HI0.out.oldRow HR.out.row) HN.out HI0.out.size).mono ?_
  rintro e w2 ⟨rfl, ht, hb, hs⟩
  rw [hK1] at ht ⊢
  have H3 := hid (HI0.out.newTape ht hb hK1)
  clear ht hb hs hK1
  go_wp2_with fail
  refine (plane_any B K1 _ (H3.out.tapeAt 0 rfl)).mono ?_
  rintro e w5 ⟨pw4, ph4, pw41, pw42, ph41, ph42, pm4, pv4, ps4, rfl, hv, hm, ho, ht, hg⟩
  have H6 := hid (H3.out.add (H3.out.next 0 rfl ht hg) ho)
  have HVps4 := hid hv
  have HMps4 := hid hm
  obtain ⟨pv4a, pv4c, rfl, _⟩ := ho.slc
  clear hv hm ho ht hg
  go_wp2_with fail
  refine (nextB_any B K1 _ _ (by omega) (H6.out.tapeAt 1 rfl)).mono ?_
  rintro e w8 ⟨x7, rfl, x7a, x7b, htn, hgn, hsn⟩
  have H9 := hid (H6.out.next 1 rfl htn hgn)
  clear htn hgn hsn
  go_wp2_with fail
  refine (nextB_any B K1 _ _ (by omega) (H9.out.tapeAt 1 rfl)).mono ?_
  rintro e w11 ⟨x10, rfl, x10a, x10b, htn, hgn, hsn⟩
  have H12 := hid (H9.out.next 1 rfl htn hgn)
  clear htn hgn hsn
  obtain ⟨D13, hD13⟩ : ∃ D, w11.heap.size = D := ⟨_, rfl⟩
  go_upto_region 3 with fail
  have H14 := hid (show St B W [.cells D13 #[.int .i64 pw4, .int .i64 ph4, .int .i64 pm4, .slice pv4a ps4.length pv4c] 26, .own (.slice pv4a ps4.length pv4c) ps4, .tape K1] [] (w11.alloc (.cells #[.int .i64 pw4, .int .i64 ph4, .int .i64 pm4, .slice pv4a ps4.length pv4c] 26)) from (H12.out.alloc #[.int .i64 pw4, .int .i64 ph4, .int .i64 pm4, .slice pv4a ps4.length pv4c] 26 hD13))
  first | refine gen_code H14.out ?_ | refine gen_list H14.out ?_ | refine gen_calls H14.out ?_
  intro w15 hG
  clear H14
  have H14 := hid hG
  clear hG
  clear hD13
  have z16 := H14.out.cell 0 rfl 0 rfl
  have z17 := H14.out.cell 0 rfl 1 rfl
  have z18 := H14.out.cell 0 rfl 2 rfl
  have z19 := H14.out.cell 0 rfl 3 rfl
  go_wp2_with fail
  clear z16 z17 z18 z19
  have HIO := hid (iOk_small pw41 pw42 ph41 ph42 (pOk_iff.1 (pValid_iff.1 HVps4.out).1).2.2.2.2.2.1 HMps4.out).1
  obtain ⟨hio, pq1, pq2, ar1, ar2⟩ := iOk_small pw41 pw42 ph41 ph42 (pOk_iff.1 (pValid_iff.1 HVps4.out).1).2.2.2.2.2.1 HMps4.out
  obtain ⟨nh, hnh⟩ : ∃ m : Nat, ph4 = m := ⟨ph4.toNat, by omega⟩
  obtain ⟨nw, hnw⟩ : ∃ m : Nat, pw4 = m := ⟨pw4.toNat, by omega⟩
  have HVQ := hid (wList_valid HVps4.out hio hnh hnw)
  have HNH := hid hnh
  have HNW := hid hnw
  obtain ⟨nh1, nh2, nw1, nw2⟩ : ph4 ≤ nh ∧ (nh : Int) ≤ ph4 ∧ pw4 ≤ nw ∧ (nw : Int) ≤ pw4 := by omega
  refine (iwhole_ok _ _ _ _ _ _ ps4 _ (H14.out.slc 1 rfl) HVps4.out hio nh nw hnh hnw).mono ?_
  rintro e w20 ⟨vq, rfl, ho, hb⟩
  have H21 := hid (H14.out.grow hb ho)
  obtain ⟨vqa, vqc, rfl, _⟩ := ho.slc
  obtain ⟨AR, hAR⟩ : ∃ z, pw4 * ph4 * pm4 = z := ⟨_, rfl⟩
  rw [hAR] at ar1 ar2 HVQ ⊢
  have HAR := hid hAR
  obtain ⟨NN, hNN⟩ : ∃ N : Nat, nh * nw = N := ⟨_, rfl⟩
  have HNN := hid hNN
  have hPQ : pw4 * ph4 = (NN : Int) := by rw [← hNN, hnw, hnh, Int.mul_comm]; simp
  have hln : (wList pw4 ps4 nh nw).length = NN := by rw [wList_len, hNN]
  have HPL := hid (show ps4.length = NN from by have := (pValid_iff.1 HVps4.out).2.1; rw [hPQ] at this; omega)
  rw [hln] at H21 ⊢
  have HWL := hid hln
  obtain ⟨nn1, nn2⟩ : 1 ≤ NN ∧ NN ≤ 30 := by omega
  have HPQ := hid hPQ
  clear ho hb hln hNN hAR hnh hnw hio pq1 pq2 hPQ
  have hPQ := HPQ.out
  have w0 : IntKind.i64.wrap (NN : Int) = NN := IntWalk.i64_in _ (by omega)
  obtain ⟨D22, hD22⟩ : ∃ D, w20.heap.size = D := ⟨_, rfl⟩
  go_upto_region 4 with fail
  have H23 := hid (show St B W [.cells D22 #[.int .i64 pw4, .int .i64 ph4, .int .i64 AR, .slice vqa NN vqc] 26, .own (.slice vqa NN vqc) (wList pw4 ps4 nh nw), .cells D13 #[.int .i64 pw4, .int .i64 ph4, .int .i64 pm4, .slice pv4a ps4.length pv4c] 26, .own (.slice pv4a ps4.length pv4c) ps4, .tape K1] [] (w20.alloc (.cells #[.int .i64 pw4, .int .i64 ph4, .int .i64 AR, .slice vqa NN vqc] 26)) from (H21.out.alloc #[.int .i64 pw4, .int .i64 ph4, .int .i64 AR, .slice vqa NN vqc] 26 hD22))
  first | refine gen_code H23.out ?_ | refine gen_list H23.out ?_ | refine gen_calls H23.out ?_
  intro w24 hG
  clear H23
  have H23 := hid hG
  clear hG
  clear hD22
  have H25 := hid H23.out.drew
  refine wp_region_held_drew (S := (fun w' => w'.cell? ⟨D13, 0, none⟩ = some (.int .i64 pw4) ∧ w'.cell? ⟨D13, 1, none⟩ = some (.int .i64 ph4) ∧ w'.cell? ⟨D13, 2, none⟩ = some (.int .i64 pm4) ∧ w'.cell? ⟨D13, 3, none⟩ = some (.slice pv4a ps4.length pv4c) ∧ w'.cell? ⟨D22, 0, none⟩ = some (.int .i64 pw4) ∧ w'.cell? ⟨D22, 1, none⟩ = some (.int .i64 ph4) ∧ w'.cell? ⟨D22, 2, none⟩ = some (.int .i64 AR) ∧ w'.cell? ⟨D22, 3, none⟩ = some (.slice vqa NN vqc))) (by kernel_rfl) ⟨H25.out.cell 2 rfl 0 rfl, H25.out.cell 2 rfl 1 rfl, H25.out.cell 2 rfl 2 rfl, H25.out.cell 2 rfl 3 rfl, H25.out.cell 0 rfl 0 rfl, H25.out.cell 0 rfl 1 rfl, H25.out.cell 0 rfl 2 rfl, H25.out.cell 0 rfl 3 rfl⟩ (fun hHeld => ?_)
  generalize w24.drew = k26 at *
  refine wpAnyH_take (i := 0) (oi := _) (v := ?_) rfl (by kernel_rfl) (by kernel_rfl) (by kernel_rfl) (fun _ _ _ h => h) (Or.inl ⟨by rfl, ?_⟩) (by assumption) ?_
  rotate_left
  focus (intro wS hSw; (try dsimp only at hSw); go_simp; (try with_reducible rfl))
  try simp only [Act.put, List.getElem_toArray, List.getElem_cons_zero, List.getElem_cons_succ, List.setIfInBounds_toArray, List.set_cons_zero, List.set_cons_succ]
  refine wpAnyH_take (i := 1) (oi := _) (v := ?_) rfl (by kernel_rfl) (by kernel_rfl) (by kernel_rfl) (fun _ _ _ h => h) (Or.inl ⟨by rfl, ?_⟩) (by assumption) ?_
  rotate_left
  focus (intro wS hSw; (try dsimp only at hSw); go_simp; (try with_reducible rfl))
  try simp only [Act.put, List.getElem_toArray, List.getElem_cons_zero, List.getElem_cons_succ, List.setIfInBounds_toArray, List.set_cons_zero, List.set_cons_succ]
  refine wpAnyH_take (i := 2) (oi := _) (v := ?_) rfl (by kernel_rfl) (by kernel_rfl) (by kernel_rfl) (fun _ _ _ h => h) (Or.inl ⟨by rfl, ?_⟩) (by assumption) ?_
  rotate_left
  focus (intro wS hSw; (try dsimp only at hSw); go_simp; (try with_reducible rfl))
  try simp only [Act.put, List.getElem_toArray, List.getElem_cons_zero, List.getElem_cons_succ, List.setIfInBounds_toArray, List.set_cons_zero, List.set_cons_succ]
  refine wpAnyH_take (i := 3) (oi := _) (v := ?_) rfl (by kernel_rfl) (by kernel_rfl) (by kernel_rfl) (fun _ _ _ h => h) (Or.inl ⟨by rfl, ?_⟩) (by assumption) ?_
  rotate_left
  focus (intro wS hSw; (try dsimp only at hSw); go_simp; (try with_reducible rfl))
  try simp only [Act.put, List.getElem_toArray, List.getElem_cons_zero, List.getElem_cons_succ, List.setIfInBounds_toArray, List.set_cons_zero, List.set_cons_succ]
  refine wpAnyH_take (i := 4) (oi := _) (v := ?_) rfl (by kernel_rfl) (by kernel_rfl) (by kernel_rfl) (fun _ _ _ h => h) (Or.inl ⟨by rfl, ?_⟩) (by assumption) ?_
  rotate_left
  focus (intro wS hSw; (try dsimp only at hSw); go_simp; (try with_reducible rfl))
  try simp only [Act.put, List.getElem_toArray, List.getElem_cons_zero, List.getElem_cons_succ, List.setIfInBounds_toArray, List.set_cons_zero, List.set_cons_succ]
  refine wpAnyH_take (i := 5) (oi := _) (v := ?_) rfl (by kernel_rfl) (by kernel_rfl) (by kernel_rfl) (fun _ _ _ h => h) (Or.inl ⟨by rfl, ?_⟩) (by assumption) ?_
  rotate_left
  focus (intro wS hSw; (try dsimp only at hSw); go_simp; (try with_reducible rfl))
  try simp only [Act.put, List.getElem_toArray, List.getElem_cons_zero, List.getElem_cons_succ, List.setIfInBounds_toArray, List.set_cons_zero, List.set_cons_succ]
  refine wpAnyH_take (i := 6) (oi := _) (v := ?_) rfl (by kernel_rfl) (by kernel_rfl) (by kernel_rfl) (fun _ _ _ h => h) (Or.inl ⟨by rfl, ?_⟩) (by assumption) ?_
  rotate_left
  focus (intro wS hSw; (try dsimp only at hSw); go_simp; (try with_reducible rfl))
  try simp only [Act.put, List.getElem_toArray, List.getElem_cons_zero, List.getElem_cons_succ, List.setIfInBounds_toArray, List.set_cons_zero, List.set_cons_succ]
  refine wpAnyH_take (i := 7) (oi := _) (v := ?_) rfl (by kernel_rfl) (by kernel_rfl) (by kernel_rfl) (fun _ _ _ h => h) (Or.inl ⟨by rfl, ?_⟩) (by assumption) ?_
  rotate_left
  focus (intro wS hSw; (try dsimp only at hSw); go_simp; (try with_reducible rfl))
  try simp only [Act.put, List.getElem_toArray, List.getElem_cons_zero, List.getElem_cons_succ, List.setIfInBounds_toArray, List.set_cons_zero, List.set_cons_succ]
  refine wpAnyH_take (i := 8) (oi := _) (v := ?_) rfl (by kernel_rfl) (by kernel_rfl) (by kernel_rfl) (fun _ _ _ h => h) (Or.inl ⟨by rfl, ?_⟩) (by assumption) ?_
  rotate_left
  focus (intro wS hSw; (try dsimp only at hSw); go_simp; (try with_reducible rfl))
  try simp only [Act.put, List.getElem_toArray, List.getElem_cons_zero, List.getElem_cons_succ, List.setIfInBounds_toArray, List.set_cons_zero, List.set_cons_succ]
  refine wpAnyH_take (i := 9) (oi := _) (v := ?_) rfl (by kernel_rfl) (by kernel_rfl) (by kernel_rfl) (fun _ _ _ h => h) (Or.inl ⟨by rfl, ?_⟩) (by assumption) ?_
  rotate_left
  focus (intro wS hSw; (try dsimp only at hSw); go_simp; (try with_reducible rfl))
  try simp only [Act.put, List.getElem_toArray, List.getElem_cons_zero, List.getElem_cons_succ, List.setIfInBounds_toArray, List.set_cons_zero, List.set_cons_succ]
  refine wpAnyH_take (i := 10) (oi := _) (v := ?_) rfl (by kernel_rfl) (by kernel_rfl) (by kernel_rfl) (fun _ _ _ h => h) (Or.inl ⟨by rfl, ?_⟩) (by assumption) ?_
  rotate_left
  focus (intro wS hSw; (try dsimp only at hSw); go_simp; (try with_reducible rfl))
  try simp only [Act.put, List.getElem_toArray, List.getElem_cons_zero, List.getElem_cons_succ, List.setIfInBounds_toArray, List.set_cons_zero, List.set_cons_succ]
  refine wpAnyH_ready (rs := [11, 13]) (by kernel_rfl) (by simp) (AllReadyH.cons (o := _) rfl (fun K hK => ?_) (AllReadyH.cons (o := _) rfl (fun K hK => ?_) AllReadyH.nil))
  · skip
    obtain ⟨D27, hD27⟩ : ∃ L, k26.heap.size = L := ⟨_, rfl⟩
    have hBD27 : B ≤ D27 := by have := H25.out.size; omega
    rw [if_pos (by rfl)]
    refine oper_make_int _ _ rfl D27 _ _ NN rfl rfl (by first | rfl | exact HPQ.out) (by first | rfl | exact HPQ.out) (by omega) (by omega) ?_
    intro k28 ho hb
    rw [hD27] at ho ⊢
    have H29 := hid (H25.out.made hD27 ho hb)
    clear ho hb hD27 hBD27
    refine hK.out _ _ ?_ (fun hHeld2 => ?_)
    focus ((try dsimp only); (exact ⟨H29.out.cell 3 rfl 0 rfl, H29.out.cell 3 rfl 1 rfl, H29.out.cell 3 rfl 2 rfl, H29.out.cell 3 rfl 3 rfl, H29.out.cell 1 rfl 0 rfl, H29.out.cell 1 rfl 1 rfl, H29.out.cell 1 rfl 2 rfl, H29.out.cell 1 rfl 3 rfl⟩))
    clear hK K
    try simp only [Act.put, List.getElem_toArray, List.getElem_cons_zero, List.getElem_cons_succ, List.setIfInBounds_toArray, List.set_cons_zero, List.set_cons_succ]
    clear hHeld
    have hHeld := hHeld2
    clear hHeld2
    refine wpAnyH_take (i := 12) (oi := _) (v := ?_) rfl (by kernel_rfl) (by kernel_rfl) (by kernel_rfl) (fun _ _ _ h => h) (Or.inl ⟨by rfl, ?_⟩) (by assumption) ?_
    rotate_left
    focus (intro wS hSw; (try dsimp only at hSw); go_simp; (try with_reducible rfl))
    try simp only [Act.put, List.getElem_toArray, List.getElem_cons_zero, List.getElem_cons_succ, List.setIfInBounds_toArray, List.set_cons_zero, List.set_cons_succ]
    refine wpAnyH_ready (rs := [13]) (by kernel_rfl) (by simp) (AllReadyH.cons (o := _) rfl (fun K hK => ?_) AllReadyH.nil)
    obtain ⟨D30, hD30⟩ : ∃ D, k28.heap.size = D := ⟨_, rfl⟩
    have H31 := hid (show St B W [.cells D30 #[.int .i64 0, .int .i64 0, .int .i64 0, .slice none 0 0] 26, .own (.slice (some ⟨D27, 0, none⟩) NN NN) (List.replicate NN 0), .cells D22 #[.int .i64 pw4, .int .i64 ph4, .int .i64 AR, .slice vqa NN vqc] 26, .own (.slice vqa NN vqc) (wList pw4 ps4 nh nw), .cells D13 #[.int .i64 pw4, .int .i64 ph4, .int .i64 pm4, .slice pv4a ps4.length pv4c] 26, .own (.slice pv4a ps4.length pv4c) ps4, .tape K1] [] (k28.alloc (.cells #[.int .i64 0, .int .i64 0, .int .i64 0, .slice none 0 0] 26)) from (H29.out.alloc #[.int .i64 0, .int .i64 0, .int .i64 0, .slice none 0 0] 26 hD30))
    go_simp
    refine hK.out _ _ ?_ (fun hHeld2 => ?_)
    focus ((try dsimp only); (exact ⟨H31.out.cell 4 rfl 0 rfl, H31.out.cell 4 rfl 1 rfl, H31.out.cell 4 rfl 2 rfl, H31.out.cell 4 rfl 3 rfl, H31.out.cell 2 rfl 0 rfl, H31.out.cell 2 rfl 1 rfl, H31.out.cell 2 rfl 2 rfl, H31.out.cell 2 rfl 3 rfl⟩))
    clear hK K hHeld
    try simp only [Act.put, List.getElem_toArray, List.getElem_cons_zero, List.getElem_cons_succ, List.setIfInBounds_toArray, List.set_cons_zero, List.set_cons_succ]
    clear hD30
    generalize (k28.alloc (.cells #[.int .i64 0, .int .i64 0, .int .i64 0, .slice none 0 0] 26)) = k32 at *
    have hHeld := hHeld2
    clear hHeld2
    refine wpAnyH_ready (rs := [14]) (by kernel_rfl) (by simp) (AllReadyH.cons (o := _) rfl (fun K hK => ?_) AllReadyH.nil)
    have z33 := H31.out.cell 0 rfl 0 rfl
    have z34 := H31.out.free 0 rfl 0
    have z35 := H31.out.cell 0 rfl 1 rfl
    have z36 := H31.out.free 0 rfl 1
    have z37 := H31.out.cell 0 rfl 2 rfl
    have z38 := H31.out.free 0 rfl 2
    have z39 := H31.out.cell 0 rfl 3 rfl
    have z40 := H31.out.free 0 rfl 3
    have H41 := hid (show St B W [.cells D30 #[.int .i64 pw4, .int .i64 ph4, .int .i64 AR, .slice (some ⟨D27, 0, none⟩) NN NN] 26, .own (.slice (some ⟨D27, 0, none⟩) NN NN) (List.replicate NN 0), .cells D22 #[.int .i64 pw4, .int .i64 ph4, .int .i64 AR, .slice vqa NN vqc] 26, .own (.slice vqa NN vqc) (wList pw4 ps4 nh nw), .cells D13 #[.int .i64 pw4, .int .i64 ph4, .int .i64 pm4, .slice pv4a ps4.length pv4c] 26, .own (.slice pv4a ps4.length pv4c) ps4, .tape K1] [] ((((k32.setCell ⟨D30, 0, none⟩ (.int .i64 pw4)).setCell ⟨D30, 1, none⟩ (.int .i64 ph4)).setCell ⟨D30, 2, none⟩ (.int .i64 AR)).setCell ⟨D30, 3, none⟩ (.slice (some ⟨D27, 0, none⟩) NN NN)) from (H31.out.set4 0 rfl (.int .i64 pw4) (.int .i64 ph4) (.int .i64 AR) (.slice (some ⟨D27, 0, none⟩) NN NN)))
    go_simp
    refine hK.out _ _ ?_ (fun hHeld2 => ?_)
    focus ((try dsimp only); (exact ⟨H41.out.cell 4 rfl 0 rfl, H41.out.cell 4 rfl 1 rfl, H41.out.cell 4 rfl 2 rfl, H41.out.cell 4 rfl 3 rfl, H41.out.cell 2 rfl 0 rfl, H41.out.cell 2 rfl 1 rfl, H41.out.cell 2 rfl 2 rfl, H41.out.cell 2 rfl 3 rfl⟩))
    clear hK K hHeld
    try simp only [Act.put, List.getElem_toArray, List.getElem_cons_zero, List.getElem_cons_succ, List.setIfInBounds_toArray, List.set_cons_zero, List.set_cons_succ]
    clear z33 z34 z35 z36 z37 z38 z39 z40
    generalize ((((k32.setCell ⟨D30, 0, none⟩ (.int .i64 pw4)).setCell ⟨D30, 1, none⟩ (.int .i64 ph4)).setCell ⟨D30, 2, none⟩ (.int .i64 AR)).setCell ⟨D30, 3, none⟩ (.slice (some ⟨D27, 0, none⟩) NN NN)) = k42 at *
    have hHeld := hHeld2
    clear hHeld2
    refine wpAnyH_done (by kernel_rfl) ?_ _
    try clear hHeld
    have z43 := H41.out.cell 4 rfl 0 rfl
    have z44 := H41.out.cell 4 rfl 1 rfl
    have z45 := H41.out.cell 4 rfl 2 rfl
    have z46 := H41.out.cell 4 rfl 3 rfl
    go_wp2_with fail
    clear z43 z44 z45 z46
    obtain ⟨ntw, hntw⟩ : ∃ m : Nat, 1 + x7 = m := ⟨(1 + x7).toNat, by omega⟩
    obtain ⟨ntw1, ntw2⟩ : 1 ≤ ntw ∧ ntw ≤ 3 := by omega
    rw [hntw]
    clear hntw
    obtain ⟨nth, hnth⟩ : ∃ m : Nat, 1 + x10 = m := ⟨(1 + x10).toNat, by omega⟩
    obtain ⟨nth1, nth2⟩ : 1 ≤ nth ∧ nth ≤ 3 := by omega
    rw [hnth]
    clear hnth
    refine (count_any _ _ _ _ _).mono ?_
    rintro e w47 ⟨rfl, hsw⟩
    have hsw2 : k42 = w47 := by first | exact hsw | exact hsw.symm
    clear hsw
    subst hsw2
    have HG := hid (show gOk pw4 ph4 ntw nth = true from gOk_iff.2 (by omega))
    obtain ⟨cols, rows, hcols, hrows, co1, ro1, co2, ro2, co3, ro3⟩ := grow_count HNH.out HNW.out rfl rfl HG.out
    rw [hcols, hrows]
    have HCO := hid hcols
    have HRO := hid hrows
    have HCT := hid co3
    have HRT := hid ro3
    have hcr := Nat.mul_le_mul co2 ro2
    obtain ⟨CR, hCR⟩ : ∃ N : Nat, cols * rows = N := ⟨_, rfl⟩
    rw [hCR] at hcr
    have HCR := hid hCR
    have hCI : (cols : Int) * (rows : Int) = CR := by rw [← hCR]; simp
    have w1 : IntKind.i64.wrap (CR : Int) = CR := IntWalk.i64_in _ (by omega)
    clear hCR hcols hrows co3 ro3
    go_wp2_with fail
    go_loopw [12] (fun i wr => ∃ (j : Nat) (ga : Option Addr) (gc : Nat), j ≤ CR ∧ i = .int .i64 j ∧ St B W [.own (.slice ga NN gc) (gL pw4 ps4 nh nw cols ntw nth j), .cells D30 #[.int .i64 pw4, .int .i64 ph4, .int .i64 AR, .slice ga NN gc] 26, .cells D22 #[.int .i64 pw4, .int .i64 ph4, .int .i64 AR, .slice vqa NN vqc] 26, .own (.slice vqa NN vqc) (wList pw4 ps4 nh nw), .cells D13 #[.int .i64 pw4, .int .i64 ph4, .int .i64 pm4, .slice pv4a ps4.length pv4c] 26, .own (.slice pv4a ps4.length pv4c) ps4, .tape K1] [] wr) (fun i _ => CR - (intOf i).toNat)
    case atStart => exact ⟨0, _, _, by omega, rfl, by rw [gL_zero, HNN.out]; exact H41.out.pick [1, 0, 2, 3, 4, 5, 6] rfl (by decide)⟩
    case round =>
      obtain ⟨j, ga, gc, hj, rfl, hst⟩ := hrel
      obtain ⟨u48, rfl⟩ : ∃ u48 : World, u48 = wr := ⟨_, rfl⟩
      have H49 := hid hst
      clear hst
      by_cases c50 : (j : Int) < CR
      · skip
        have z51 := H49.out.cell 4 rfl 0 rfl
        have z52 := H49.out.cell 4 rfl 1 rfl
        have z53 := H49.out.cell 4 rfl 2 rfl
        have z54 := H49.out.cell 4 rfl 3 rfl
        go_wp2_with fail
        clear z51 z52 z53 z54
        refine (tile_any _ _ _ _ _ _ (by omega)).mono ?_
        rintro e w55 ⟨rfl, hb⟩
        have H56 := hid (H49.out.call hb)
        clear hb
        obtain ⟨ra, rb, X, Y, qw, qh, hta, q1, q2, q3, q4, t0, t1, t2, t3⟩ := grow_at HNH.out HNW.out rfl rfl HG.out HCO.out HRO.out (i := j) (by have := HCR.out; omega)
        rw [t0, t1, t2, t3]
        have HTA := hid hta
        clear hta t0 t1 t2 t3
        obtain ⟨XE, hXE⟩ : ∃ z : Nat, X + qw = z := ⟨_, rfl⟩
        obtain ⟨YE, hYE⟩ : ∃ z : Nat, Y + qh = z := ⟨_, rfl⟩
        rw [hXE, hYE]
        obtain ⟨xe1, xe2, ye1, ye2⟩ : X + qw ≤ XE ∧ XE ≤ X + qw ∧ Y + qh ≤ YE ∧ YE ≤ Y + qh := by omega
        clear hXE hYE
        obtain ⟨b57, hb57⟩ : ∃ xx', gTok pw4 ph4 ntw nth j = xx' := ⟨_, rfl⟩
        rw [hb57]
        have HNb57 := hid hb57
        clear hb57
        obtain ⟨D58, hD58⟩ : ∃ D, w55.heap.size = D := ⟨_, rfl⟩
        go_upto_region 10 with fail
        have H59 := hid (show St B W [.cells D58 #[.int .i64 X, .int .i64 Y, .int .i64 XE, .int .i64 YE] 39, .own (.slice ga NN gc) (gL pw4 ps4 nh nw cols ntw nth j), .cells D30 #[.int .i64 pw4, .int .i64 ph4, .int .i64 AR, .slice ga NN gc] 26, .cells D22 #[.int .i64 pw4, .int .i64 ph4, .int .i64 AR, .slice vqa NN vqc] 26, .own (.slice vqa NN vqc) (wList pw4 ps4 nh nw), .cells D13 #[.int .i64 pw4, .int .i64 ph4, .int .i64 pm4, .slice pv4a ps4.length pv4c] 26, .own (.slice pv4a ps4.length pv4c) ps4, .tape K1] [] (w55.alloc (.cells #[.int .i64 X, .int .i64 Y, .int .i64 XE, .int .i64 YE] 39)) from (H56.out.alloc #[.int .i64 X, .int .i64 Y, .int .i64 XE, .int .i64 YE] 39 hD58))
        first | refine gen_code H59.out ?_ | refine gen_list H59.out ?_ | refine gen_calls H59.out ?_
        intro w60 hG
        clear H59
        have H59 := hid hG
        clear hG
        clear hD58
        have z61 := H59.out.cell 0 rfl 0 rfl
        have z62 := H59.out.cell 0 rfl 1 rfl
        have z63 := H59.out.cell 0 rfl 2 rfl
        have z64 := H59.out.cell 0 rfl 3 rfl
        go_wp2_with fail
        clear z61 z62 z63 z64
        have H65 := hid (show St B W [.own (.slice none 0 0) ([]), .cells D58 #[.int .i64 X, .int .i64 Y, .int .i64 XE, .int .i64 YE] 39, .own (.slice ga NN gc) (gL pw4 ps4 nh nw cols ntw nth j), .cells D30 #[.int .i64 pw4, .int .i64 ph4, .int .i64 AR, .slice ga NN gc] 26, .cells D22 #[.int .i64 pw4, .int .i64 ph4, .int .i64 AR, .slice vqa NN vqc] 26, .own (.slice vqa NN vqc) (wList pw4 ps4 nh nw), .cells D13 #[.int .i64 pw4, .int .i64 ph4, .int .i64 pm4, .slice pv4a ps4.length pv4c] 26, .own (.slice pv4a ps4.length pv4c) ps4, .tape K1] [] w60 from H59.out.grow (Below.refl _ _) (Own.nil _ _))
        go_loopw [15, 17] (fun v i wr => ∃ (jy kl : Nat) (ya : Option Addr) (yc : Nat), jy ≤ Y + kl ∧ Y + kl ≤ jy ∧ jy ≤ YE ∧ v = .slice ya ((lfL pw4 ps4 X Y kl).length) yc ∧ i = .int .i64 jy ∧ St B W [.own (.slice ya ((lfL pw4 ps4 X Y kl).length) yc) (lfL pw4 ps4 X Y kl), .cells D58 #[.int .i64 X, .int .i64 Y, .int .i64 XE, .int .i64 YE] 39, .own (.slice ga NN gc) (gL pw4 ps4 nh nw cols ntw nth j), .cells D30 #[.int .i64 pw4, .int .i64 ph4, .int .i64 AR, .slice ga NN gc] 26, .cells D22 #[.int .i64 pw4, .int .i64 ph4, .int .i64 AR, .slice vqa NN vqc] 26, .own (.slice vqa NN vqc) (wList pw4 ps4 nh nw), .cells D13 #[.int .i64 pw4, .int .i64 ph4, .int .i64 pm4, .slice pv4a ps4.length pv4c] 26, .own (.slice pv4a ps4.length pv4c) ps4, .tape K1] [] wr) (fun _ i _ => YE - (intOf i).toNat)
        case atStart => exact ⟨Y, 0, _, _, by omega, by omega, by omega, by rfl, rfl, H65.out⟩
        case round =>
          obtain ⟨jy, kl, ya, yc, hy1, hy2, hy3, rfl, rfl, hst⟩ := hrel
          obtain ⟨u66, rfl⟩ : ∃ u66 : World, u66 = wr := ⟨_, rfl⟩
          have H67 := hid hst
          clear hst
          have hll : (lfL pw4 ps4 X Y kl).length ≤ 200 := by rw [lfL_len]; omega
          by_cases hx88 : (jy : Int) < YE
          · skip
            have z68 := H67.out.cell 1 rfl 0 rfl
            have z69 := H67.out.cell 1 rfl 1 rfl
            have z70 := H67.out.cell 1 rfl 2 rfl
            have z71 := H67.out.cell 1 rfl 3 rfl
            have z72 := H67.out.cell 3 rfl 0 rfl
            have z73 := H67.out.cell 3 rfl 1 rfl
            have z74 := H67.out.cell 3 rfl 2 rfl
            have z75 := H67.out.cell 3 rfl 3 rfl
            go_wp2_with fail
            clear z68 z69 z70 z71 z72 z73 z74 z75
            refine (lawat_any _ _ _ _ _ _ _ _ (gL pw4 ps4 nh nw cols ntw nth j) _ (H67.out.slc 2 rfl) (by have := HPQ.out; omega) (by omega) (by omega) (by omega) (by have := HPQ.out; omega) (by omega) (by omega) (by omega) (by omega)).mono ?_
            rintro e w76 ⟨rfl, hb⟩
            have H77 := hid (H67.out.call hb)
            clear hb
            have hle := gL_left (zs := ps4) HNW.out HTA.out (r := jy + 1) (c := X) (by omega) (by omega) (by omega)
            rw [show (((X : Nat) : Int) - 1) = X - 1 by omega, show (((jy + 1 : Nat) : Int) - 1) = jy by omega] at hle
            rw [hle]
            clear hle
            obtain ⟨z78, hz78⟩ : ∃ z, rowsS pw4 ps4 0 0 (jy + 1) (X) = z := ⟨_, rfl⟩
            rw [hz78]
            have Hz78 := hid hz78
            clear hz78
            obtain ⟨D79, hD79⟩ : ∃ D, w76.heap.size = D := ⟨_, rfl⟩
            have H80 := hid (show St B W [.cells D79 #[.int .i64 z78] 3, .own (.slice ya ((lfL pw4 ps4 X Y kl).length) yc) (lfL pw4 ps4 X Y kl), .cells D58 #[.int .i64 X, .int .i64 Y, .int .i64 XE, .int .i64 YE] 39, .own (.slice ga NN gc) (gL pw4 ps4 nh nw cols ntw nth j), .cells D30 #[.int .i64 pw4, .int .i64 ph4, .int .i64 AR, .slice ga NN gc] 26, .cells D22 #[.int .i64 pw4, .int .i64 ph4, .int .i64 AR, .slice vqa NN vqc] 26, .own (.slice vqa NN vqc) (wList pw4 ps4 nh nw), .cells D13 #[.int .i64 pw4, .int .i64 ph4, .int .i64 pm4, .slice pv4a ps4.length pv4c] 26, .own (.slice pv4a ps4.length pv4c) ps4, .tape K1] [] (w76.alloc (.cells #[.int .i64 z78] 3)) from (H77.out.alloc #[.int .i64 z78] 3 hD79))
            go_upto_region 13 with (at_builtin; refine append_int rfl _ _ rfl B _ (lfL pw4 ps4 X Y kl) z78 D79 1 rfl rfl (H80.out.own 1 rfl) (H80.out.cell 0 rfl 0 rfl) (by omega) H80.out.size ?_; intro v83 w84 ho hg hv; have H81 := hid (H80.out.append 1 rfl ho hg hv); clear ho hg hv)
            clear H80
            obtain ⟨v83a, v83c, hva, _⟩ := (H81.out.own 1 rfl).slc
            subst hva
            have H82 := hid (show St B W [.own (.slice v83a (((lfL pw4 ps4 X Y kl) ++ [z78]).length) v83c) ((lfL pw4 ps4 X Y kl) ++ [z78]), .cells D58 #[.int .i64 X, .int .i64 Y, .int .i64 XE, .int .i64 YE] 39, .own (.slice ga NN gc) (gL pw4 ps4 nh nw cols ntw nth j), .cells D30 #[.int .i64 pw4, .int .i64 ph4, .int .i64 AR, .slice ga NN gc] 26, .cells D22 #[.int .i64 pw4, .int .i64 ph4, .int .i64 AR, .slice vqa NN vqc] 26, .own (.slice vqa NN vqc) (wList pw4 ps4 nh nw), .cells D13 #[.int .i64 pw4, .int .i64 ph4, .int .i64 pm4, .slice pv4a ps4.length pv4c] 26, .own (.slice pv4a ps4.length pv4c) ps4, .tape K1] [] w84 from H81.out.pick [1, 2, 3, 4, 5, 6, 7, 8, 9] rfl (by decide))
            clear hD79
            go_wp2_with fail
            have hnx := lfL_next pw4 ps4 X Y kl
            rw [show Y + kl + 1 = jy + 1 by omega, Hz78.out] at hnx
            rw [← hnx] at H82 ⊢
            clear hnx
            go_roundw
            case rel => exact ⟨jy + 1, kl + 1, _, _, by omega, by omega, by omega, rfl, by go_num, H82.out⟩
            case measure => first | (simp [intOf]; omega) | (simp [intOf]; done)
          · skip
            have HKL := hid (show kl = qh from by omega)
            have z85 := H67.out.cell 1 rfl 0 rfl
            have z86 := H67.out.cell 1 rfl 1 rfl
            have z87 := H67.out.cell 1 rfl 2 rfl
            have z88 := H67.out.cell 1 rfl 3 rfl
            go_wp2_with fail
            clear z85 z86 z87 z88
            have H89 := hid (show St B W [.own (.slice none 0 0) ([]), .own (.slice ya ((lfL pw4 ps4 X Y kl).length) yc) (lfL pw4 ps4 X Y kl), .cells D58 #[.int .i64 X, .int .i64 Y, .int .i64 XE, .int .i64 YE] 39, .own (.slice ga NN gc) (gL pw4 ps4 nh nw cols ntw nth j), .cells D30 #[.int .i64 pw4, .int .i64 ph4, .int .i64 AR, .slice ga NN gc] 26, .cells D22 #[.int .i64 pw4, .int .i64 ph4, .int .i64 AR, .slice vqa NN vqc] 26, .own (.slice vqa NN vqc) (wList pw4 ps4 nh nw), .cells D13 #[.int .i64 pw4, .int .i64 ph4, .int .i64 pm4, .slice pv4a ps4.length pv4c] 26, .own (.slice pv4a ps4.length pv4c) ps4, .tape K1] [] u66 from H67.out.grow (Below.refl _ _) (Own.nil _ _))
            go_loopw [16, 18] (fun v i wr => ∃ (jx kt : Nat) (xa : Option Addr) (xc : Nat), jx ≤ X + kt ∧ X + kt ≤ jx ∧ jx ≤ XE ∧ v = .slice xa ((tpL pw4 ps4 X Y kt).length) xc ∧ i = .int .i64 jx ∧ St B W [.own (.slice xa ((tpL pw4 ps4 X Y kt).length) xc) (tpL pw4 ps4 X Y kt), .own (.slice ya ((lfL pw4 ps4 X Y kl).length) yc) (lfL pw4 ps4 X Y kl), .cells D58 #[.int .i64 X, .int .i64 Y, .int .i64 XE, .int .i64 YE] 39, .own (.slice ga NN gc) (gL pw4 ps4 nh nw cols ntw nth j), .cells D30 #[.int .i64 pw4, .int .i64 ph4, .int .i64 AR, .slice ga NN gc] 26, .cells D22 #[.int .i64 pw4, .int .i64 ph4, .int .i64 AR, .slice vqa NN vqc] 26, .own (.slice vqa NN vqc) (wList pw4 ps4 nh nw), .cells D13 #[.int .i64 pw4, .int .i64 ph4, .int .i64 pm4, .slice pv4a ps4.length pv4c] 26, .own (.slice pv4a ps4.length pv4c) ps4, .tape K1] [] wr) (fun _ i _ => XE - (intOf i).toNat)
            case atStart => exact ⟨X, 0, _, _, by omega, by omega, by omega, by rfl, rfl, H89.out⟩
            case round =>
              obtain ⟨jx, kt, xa, xc, hx1, hx2, hx3, rfl, rfl, hst⟩ := hrel
              obtain ⟨u90, rfl⟩ : ∃ u90 : World, u90 = wr := ⟨_, rfl⟩
              have H91 := hid hst
              clear hst
              have hll : (tpL pw4 ps4 X Y kt).length ≤ 200 := by rw [tpL_len]; omega
              by_cases hx105 : (jx : Int) < XE
              · skip
                have z92 := H91.out.cell 2 rfl 0 rfl
                have z93 := H91.out.cell 2 rfl 1 rfl
                have z94 := H91.out.cell 2 rfl 2 rfl
                have z95 := H91.out.cell 2 rfl 3 rfl
                have z96 := H91.out.cell 4 rfl 0 rfl
                have z97 := H91.out.cell 4 rfl 1 rfl
                have z98 := H91.out.cell 4 rfl 2 rfl
                have z99 := H91.out.cell 4 rfl 3 rfl
                go_wp2_with fail
                clear z92 z93 z94 z95 z96 z97 z98 z99
                refine (lawat_any _ _ _ _ _ _ _ _ (gL pw4 ps4 nh nw cols ntw nth j) _ (H91.out.slc 3 rfl) (by have := HPQ.out; omega) (by omega) (by omega) (by omega) (by have := HPQ.out; omega) (by omega) (by omega) (by omega) (by omega)).mono ?_
                rintro e w100 ⟨rfl, hb⟩
                have H101 := hid (H91.out.call hb)
                clear hb
                have hle := gL_left (zs := ps4) HNW.out HTA.out (r := Y) (c := jx + 1) (by omega) (by omega) (by omega)
                rw [show (((jx + 1 : Nat) : Int) - 1) = jx by omega, show (((Y : Nat) : Int) - 1) = Y - 1 by omega] at hle
                rw [hle]
                clear hle
                obtain ⟨z102, hz102⟩ : ∃ z, rowsS pw4 ps4 0 0 (Y) (jx + 1) = z := ⟨_, rfl⟩
                rw [hz102]
                have Hz102 := hid hz102
                clear hz102
                obtain ⟨D103, hD103⟩ : ∃ D, w100.heap.size = D := ⟨_, rfl⟩
                have H104 := hid (show St B W [.cells D103 #[.int .i64 z102] 3, .own (.slice xa ((tpL pw4 ps4 X Y kt).length) xc) (tpL pw4 ps4 X Y kt), .own (.slice ya ((lfL pw4 ps4 X Y kl).length) yc) (lfL pw4 ps4 X Y kl), .cells D58 #[.int .i64 X, .int .i64 Y, .int .i64 XE, .int .i64 YE] 39, .own (.slice ga NN gc) (gL pw4 ps4 nh nw cols ntw nth j), .cells D30 #[.int .i64 pw4, .int .i64 ph4, .int .i64 AR, .slice ga NN gc] 26, .cells D22 #[.int .i64 pw4, .int .i64 ph4, .int .i64 AR, .slice vqa NN vqc] 26, .own (.slice vqa NN vqc) (wList pw4 ps4 nh nw), .cells D13 #[.int .i64 pw4, .int .i64 ph4, .int .i64 pm4, .slice pv4a ps4.length pv4c] 26, .own (.slice pv4a ps4.length pv4c) ps4, .tape K1] [] (w100.alloc (.cells #[.int .i64 z102] 3)) from (H101.out.alloc #[.int .i64 z102] 3 hD103))
                go_upto_region 17 with (at_builtin; refine append_int rfl _ _ rfl B _ (tpL pw4 ps4 X Y kt) z102 D103 1 rfl rfl (H104.out.own 1 rfl) (H104.out.cell 0 rfl 0 rfl) (by omega) H104.out.size ?_; intro v107 w108 ho hg hv; have H105 := hid (H104.out.append 1 rfl ho hg hv); clear ho hg hv)
                clear H104
                obtain ⟨v107a, v107c, hva, _⟩ := (H105.out.own 1 rfl).slc
                subst hva
                have H106 := hid (show St B W [.own (.slice v107a (((tpL pw4 ps4 X Y kt) ++ [z102]).length) v107c) ((tpL pw4 ps4 X Y kt) ++ [z102]), .own (.slice ya ((lfL pw4 ps4 X Y kl).length) yc) (lfL pw4 ps4 X Y kl), .cells D58 #[.int .i64 X, .int .i64 Y, .int .i64 XE, .int .i64 YE] 39, .own (.slice ga NN gc) (gL pw4 ps4 nh nw cols ntw nth j), .cells D30 #[.int .i64 pw4, .int .i64 ph4, .int .i64 AR, .slice ga NN gc] 26, .cells D22 #[.int .i64 pw4, .int .i64 ph4, .int .i64 AR, .slice vqa NN vqc] 26, .own (.slice vqa NN vqc) (wList pw4 ps4 nh nw), .cells D13 #[.int .i64 pw4, .int .i64 ph4, .int .i64 pm4, .slice pv4a ps4.length pv4c] 26, .own (.slice pv4a ps4.length pv4c) ps4, .tape K1] [] w108 from H105.out.pick [1, 2, 3, 4, 5, 6, 7, 8, 9, 10] rfl (by decide))
                clear hD103
                go_wp2_with fail
                have hnx := tpL_next pw4 ps4 X Y kt
                rw [show X + kt + 1 = jx + 1 by omega, Hz102.out] at hnx
                rw [← hnx] at H106 ⊢
                clear hnx
                go_roundw
                case rel => exact ⟨jx + 1, kt + 1, _, _, by omega, by omega, by omega, rfl, by go_num, H106.out⟩
                case measure => first | (simp [intOf]; omega) | (simp [intOf]; done)
              · skip
                have HKT := hid (show kt = qw from by omega)
                have z109 := H91.out.cell 2 rfl 0 rfl
                have z110 := H91.out.cell 2 rfl 1 rfl
                have z111 := H91.out.cell 2 rfl 2 rfl
                have z112 := H91.out.cell 2 rfl 3 rfl
                go_upto_region 19 with fail
                clear z109 z110 z111 z112
                have wX : IntKind.i64.wrap ((X : Int) - 1) = X - 1 := IntWalk.i64_in _ (by omega)
                have wY : IntKind.i64.wrap ((Y : Int) - 1) = Y - 1 := IntWalk.i64_in _ (by omega)
                have H113 := hid H91.out.drew
                refine wp_region_held_drew (S := (fun w' => w'.cell? ⟨D13, 0, none⟩ = some (.int .i64 pw4) ∧ w'.cell? ⟨D13, 1, none⟩ = some (.int .i64 ph4) ∧ w'.cell? ⟨D13, 2, none⟩ = some (.int .i64 pm4) ∧ w'.cell? ⟨D13, 3, none⟩ = some (.slice pv4a ps4.length pv4c) ∧ w'.cell? ⟨D58, 0, none⟩ = some (.int .i64 X) ∧ w'.cell? ⟨D58, 1, none⟩ = some (.int .i64 Y) ∧ w'.cell? ⟨D58, 2, none⟩ = some (.int .i64 XE) ∧ w'.cell? ⟨D58, 3, none⟩ = some (.int .i64 YE) ∧ w'.cell? ⟨D30, 0, none⟩ = some (.int .i64 pw4) ∧ w'.cell? ⟨D30, 1, none⟩ = some (.int .i64 ph4) ∧ w'.cell? ⟨D30, 2, none⟩ = some (.int .i64 AR) ∧ w'.cell? ⟨D30, 3, none⟩ = some (.slice ga NN gc))) (by kernel_rfl) ⟨H113.out.cell 7 rfl 0 rfl, H113.out.cell 7 rfl 1 rfl, H113.out.cell 7 rfl 2 rfl, H113.out.cell 7 rfl 3 rfl, H113.out.cell 2 rfl 0 rfl, H113.out.cell 2 rfl 1 rfl, H113.out.cell 2 rfl 2 rfl, H113.out.cell 2 rfl 3 rfl, H113.out.cell 4 rfl 0 rfl, H113.out.cell 4 rfl 1 rfl, H113.out.cell 4 rfl 2 rfl, H113.out.cell 4 rfl 3 rfl⟩ (fun hHeld => ?_)
                generalize u90.drew = k114 at *
                refine wpAnyH_take (i := 0) (oi := _) (v := ?_) rfl (by kernel_rfl) (by kernel_rfl) (by kernel_rfl) (fun _ _ _ h => h) (Or.inl ⟨by rfl, ?_⟩) (by assumption) ?_
                rotate_left
                focus (intro wS hSw; (try dsimp only at hSw); go_simp; (try with_reducible rfl))
                try simp only [Act.put, List.getElem_toArray, List.getElem_cons_zero, List.getElem_cons_succ, List.setIfInBounds_toArray, List.set_cons_zero, List.set_cons_succ]
                refine wpAnyH_take (i := 1) (oi := _) (v := ?_) rfl (by kernel_rfl) (by kernel_rfl) (by kernel_rfl) (fun _ _ _ h => h) (Or.inl ⟨by rfl, ?_⟩) (by assumption) ?_
                rotate_left
                focus (intro wS hSw; (try dsimp only at hSw); go_simp; (try with_reducible rfl))
                try simp only [Act.put, List.getElem_toArray, List.getElem_cons_zero, List.getElem_cons_succ, List.setIfInBounds_toArray, List.set_cons_zero, List.set_cons_succ]
                refine wpAnyH_take (i := 2) (oi := _) (v := ?_) rfl (by kernel_rfl) (by kernel_rfl) (by kernel_rfl) (fun _ _ _ h => h) (Or.inl ⟨by rfl, ?_⟩) (by assumption) ?_
                rotate_left
                focus (intro wS hSw; (try dsimp only at hSw); go_simp; (try with_reducible rfl))
                try simp only [Act.put, List.getElem_toArray, List.getElem_cons_zero, List.getElem_cons_succ, List.setIfInBounds_toArray, List.set_cons_zero, List.set_cons_succ]
                refine wpAnyH_take (i := 3) (oi := _) (v := ?_) rfl (by kernel_rfl) (by kernel_rfl) (by kernel_rfl) (fun _ _ _ h => h) (Or.inl ⟨by rfl, ?_⟩) (by assumption) ?_
                rotate_left
                focus (intro wS hSw; (try dsimp only at hSw); go_simp; (try with_reducible rfl))
                try simp only [Act.put, List.getElem_toArray, List.getElem_cons_zero, List.getElem_cons_succ, List.setIfInBounds_toArray, List.set_cons_zero, List.set_cons_succ]
                refine wpAnyH_take (i := 4) (oi := _) (v := ?_) rfl (by kernel_rfl) (by kernel_rfl) (by kernel_rfl) (fun _ _ _ h => h) (Or.inl ⟨by rfl, ?_⟩) (by assumption) ?_
                rotate_left
                focus (intro wS hSw; (try dsimp only at hSw); go_simp; (try with_reducible rfl))
                try simp only [Act.put, List.getElem_toArray, List.getElem_cons_zero, List.getElem_cons_succ, List.setIfInBounds_toArray, List.set_cons_zero, List.set_cons_succ]
                refine wpAnyH_take (i := 5) (oi := _) (v := ?_) rfl (by kernel_rfl) (by kernel_rfl) (by kernel_rfl) (fun _ _ _ h => h) (Or.inl ⟨by rfl, ?_⟩) (by assumption) ?_
                rotate_left
                focus (intro wS hSw; (try dsimp only at hSw); go_simp; (try with_reducible rfl))
                try simp only [Act.put, List.getElem_toArray, List.getElem_cons_zero, List.getElem_cons_succ, List.setIfInBounds_toArray, List.set_cons_zero, List.set_cons_succ]
                refine wpAnyH_take (i := 6) (oi := _) (v := ?_) rfl (by kernel_rfl) (by kernel_rfl) (by kernel_rfl) (fun _ _ _ h => h) (Or.inl ⟨by rfl, ?_⟩) (by assumption) ?_
                rotate_left
                focus (intro wS hSw; (try dsimp only at hSw); go_simp; (try with_reducible rfl))
                try simp only [Act.put, List.getElem_toArray, List.getElem_cons_zero, List.getElem_cons_succ, List.setIfInBounds_toArray, List.set_cons_zero, List.set_cons_succ]
                refine wpAnyH_take (i := 7) (oi := _) (v := ?_) rfl (by kernel_rfl) (by kernel_rfl) (by kernel_rfl) (fun _ _ _ h => h) (Or.inl ⟨by rfl, ?_⟩) (by assumption) ?_
                rotate_left
                focus (intro wS hSw; (try dsimp only at hSw); go_simp; (try with_reducible rfl))
                try simp only [Act.put, List.getElem_toArray, List.getElem_cons_zero, List.getElem_cons_succ, List.setIfInBounds_toArray, List.set_cons_zero, List.set_cons_succ]
                refine wpAnyH_take (i := 8) (oi := _) (v := ?_) rfl (by kernel_rfl) (by kernel_rfl) (by kernel_rfl) (fun _ _ _ h => h) (Or.inl ⟨by rfl, ?_⟩) (by assumption) ?_
                rotate_left
                focus (intro wS hSw; (try dsimp only at hSw); go_simp; (try with_reducible rfl))
                try simp only [Act.put, List.getElem_toArray, List.getElem_cons_zero, List.getElem_cons_succ, List.setIfInBounds_toArray, List.set_cons_zero, List.set_cons_succ]
                refine wpAnyH_take (i := 9) (oi := _) (v := ?_) rfl (by kernel_rfl) (by kernel_rfl) (by kernel_rfl) (fun _ _ _ h => h) (Or.inl ⟨by rfl, ?_⟩) (by assumption) ?_
                rotate_left
                focus (intro wS hSw; (try dsimp only at hSw); go_simp; (try with_reducible rfl))
                try simp only [Act.put, List.getElem_toArray, List.getElem_cons_zero, List.getElem_cons_succ, List.setIfInBounds_toArray, List.set_cons_zero, List.set_cons_succ]
                refine wpAnyH_take (i := 10) (oi := _) (v := ?_) rfl (by kernel_rfl) (by kernel_rfl) (by kernel_rfl) (fun _ _ _ h => h) (Or.inl ⟨by rfl, ?_⟩) (by assumption) ?_
                rotate_left
                focus (intro wS hSw; (try dsimp only at hSw); go_simp; (try with_reducible rfl))
                try simp only [Act.put, List.getElem_toArray, List.getElem_cons_zero, List.getElem_cons_succ, List.setIfInBounds_toArray, List.set_cons_zero, List.set_cons_succ]
                refine wpAnyH_ready (rs := [11, 16]) (by kernel_rfl) (by simp) (AllReadyH.cons (o := _) rfl (fun K hK => ?_) (AllReadyH.cons (o := _) rfl (fun K hK => ?_) AllReadyH.nil))
                · go_simp
                  go_at_call 64
                  refine (lawat_any _ _ _ _ _ _ _ _ (gL pw4 ps4 nh nw cols ntw nth j) _ (H113.out.slc 3 rfl) (by have := HPQ.out; omega) (by omega) (by omega) (by omega) (by have := HPQ.out; omega) (by omega) (by omega) (by omega) (by omega)).mono ?_
                  rintro e w115 ⟨rfl, hb⟩
                  have H116 := hid (H113.out.call hb)
                  clear hb
                  have hle := gL_left (zs := ps4) HNW.out HTA.out (r := Y) (c := X) (by omega) (by omega) (by omega)
                  rw [show (((X : Nat) : Int) - 1) = X - 1 by omega, show (((Y : Nat) : Int) - 1) = Y - 1 by omega] at hle
                  rw [hle]
                  clear hle
                  obtain ⟨z117, hz117⟩ : ∃ z, rowsS pw4 ps4 0 0 (Y) (X) = z := ⟨_, rfl⟩
                  rw [hz117]
                  have Hz117 := hid hz117
                  clear hz117
                  refine hK.out _ _ ?_ (fun hHeld2 => ?_)
                  focus ((try dsimp only); (exact ⟨H116.out.cell 7 rfl 0 rfl, H116.out.cell 7 rfl 1 rfl, H116.out.cell 7 rfl 2 rfl, H116.out.cell 7 rfl 3 rfl, H116.out.cell 2 rfl 0 rfl, H116.out.cell 2 rfl 1 rfl, H116.out.cell 2 rfl 2 rfl, H116.out.cell 2 rfl 3 rfl, H116.out.cell 4 rfl 0 rfl, H116.out.cell 4 rfl 1 rfl, H116.out.cell 4 rfl 2 rfl, H116.out.cell 4 rfl 3 rfl⟩))
                  clear hK K
                  try simp only [Act.put, List.getElem_toArray, List.getElem_cons_zero, List.getElem_cons_succ, List.setIfInBounds_toArray, List.set_cons_zero, List.set_cons_succ]
                  clear hHeld
                  have hHeld := hHeld2
                  clear hHeld2
                  refine wpAnyH_ready (rs := [12, 16]) (by kernel_rfl) (by simp) (AllReadyH.cons (o := _) rfl (fun K hK => ?_) (AllReadyH.cons (o := _) rfl (fun K hK => ?_) AllReadyH.nil))
                  · go_simp
                    go_at_call 44
                    have gt := grow_tile (zs := ps4) (r0 := X) (r1 := Y) (r2 := XE) (r3 := YE) HVps4.out (HIO.out) HNH.out HNW.out (by omega) (by omega) q1 q2 rfl rfl (by omega) (by omega) _ _ _ _ _ _ _ _ _ _ (H116.out.slc 8 rfl) (by have e := HKL.out; subst e; exact H116.out.slc 1 rfl) (by have e := HKT.out; subst e; exact H116.out.slc 0 rfl)
                    rw [Hz117.out, HAR.out] at gt
                    refine gt.mono ?_
                    clear gt
                    rintro e w118 ⟨v120, rfl, ho, hb⟩
                    have H119 := hid (H116.out.grow hb ho)
                    obtain ⟨v120a, v120c, rfl, _⟩ := ho.slc
                    clear ho hb
                    refine hK.out _ _ ?_ (fun hHeld2 => ?_)
                    focus ((try dsimp only); (exact ⟨H119.out.cell 8 rfl 0 rfl, H119.out.cell 8 rfl 1 rfl, H119.out.cell 8 rfl 2 rfl, H119.out.cell 8 rfl 3 rfl, H119.out.cell 3 rfl 0 rfl, H119.out.cell 3 rfl 1 rfl, H119.out.cell 3 rfl 2 rfl, H119.out.cell 3 rfl 3 rfl, H119.out.cell 5 rfl 0 rfl, H119.out.cell 5 rfl 1 rfl, H119.out.cell 5 rfl 2 rfl, H119.out.cell 5 rfl 3 rfl⟩))
                    clear hK K
                    try simp only [Act.put, List.getElem_toArray, List.getElem_cons_zero, List.getElem_cons_succ, List.setIfInBounds_toArray, List.set_cons_zero, List.set_cons_succ]
                    clear hHeld
                    have hHeld := hHeld2
                    clear hHeld2
                    refine wpAnyH_take (i := 13) (oi := _) (v := ?_) rfl (by kernel_rfl) (by kernel_rfl) (by kernel_rfl) (fun _ _ _ h => h) (Or.inl ⟨by rfl, ?_⟩) (by assumption) ?_
                    rotate_left
                    focus (intro wS hSw; (try dsimp only at hSw); go_simp; (try with_reducible rfl))
                    try simp only [Act.put, List.getElem_toArray, List.getElem_cons_zero, List.getElem_cons_succ, List.setIfInBounds_toArray, List.set_cons_zero, List.set_cons_succ]
                    refine wpAnyH_take (i := 14) (oi := _) (v := ?_) rfl (by kernel_rfl) (by kernel_rfl) (by kernel_rfl) (fun _ _ _ h => h) (Or.inl ⟨by rfl, ?_⟩) (by assumption) ?_
                    rotate_left
                    focus (intro wS hSw; (try dsimp only at hSw); go_simp; (try with_reducible rfl))
                    try simp only [Act.put, List.getElem_toArray, List.getElem_cons_zero, List.getElem_cons_succ, List.setIfInBounds_toArray, List.set_cons_zero, List.set_cons_succ]
                    refine wpAnyH_take (i := 15) (oi := _) (v := ?_) rfl (by kernel_rfl) (by kernel_rfl) (by kernel_rfl) (fun _ _ _ h => h) (Or.inl ⟨by rfl, ?_⟩) (by assumption) ?_
                    rotate_left
                    focus (intro wS hSw; (try dsimp only at hSw); go_simp; (try with_reducible rfl))
                    try simp only [Act.put, List.getElem_toArray, List.getElem_cons_zero, List.getElem_cons_succ, List.setIfInBounds_toArray, List.set_cons_zero, List.set_cons_succ]
                    refine wpAnyH_ready (rs := [16]) (by kernel_rfl) (by simp) (AllReadyH.cons (o := _) rfl (fun K hK => ?_) AllReadyH.nil)
                    obtain ⟨D121, hD121⟩ : ∃ D, w118.heap.size = D := ⟨_, rfl⟩
                    have H122 := hid (show St B W [.cells D121 #[.int .i64 0, .int .i64 0, .int .i64 0, .slice none 0 0] 26, .own (.slice v120a ((tgL pw4 ps4 X Y qw qh).length) v120c) (tgL pw4 ps4 X Y qw qh), .own (.slice xa ((tpL pw4 ps4 X Y kt).length) xc) (tpL pw4 ps4 X Y kt), .own (.slice ya ((lfL pw4 ps4 X Y kl).length) yc) (lfL pw4 ps4 X Y kl), .cells D58 #[.int .i64 X, .int .i64 Y, .int .i64 XE, .int .i64 YE] 39, .own (.slice ga NN gc) (gL pw4 ps4 nh nw cols ntw nth j), .cells D30 #[.int .i64 pw4, .int .i64 ph4, .int .i64 AR, .slice ga NN gc] 26, .cells D22 #[.int .i64 pw4, .int .i64 ph4, .int .i64 AR, .slice vqa NN vqc] 26, .own (.slice vqa NN vqc) (wList pw4 ps4 nh nw), .cells D13 #[.int .i64 pw4, .int .i64 ph4, .int .i64 pm4, .slice pv4a ps4.length pv4c] 26, .own (.slice pv4a ps4.length pv4c) ps4, .tape K1] [] (w118.alloc (.cells #[.int .i64 0, .int .i64 0, .int .i64 0, .slice none 0 0] 26)) from (H119.out.alloc #[.int .i64 0, .int .i64 0, .int .i64 0, .slice none 0 0] 26 hD121))
                    go_simp
                    refine hK.out _ _ ?_ (fun hHeld2 => ?_)
                    focus ((try dsimp only); (exact ⟨H122.out.cell 9 rfl 0 rfl, H122.out.cell 9 rfl 1 rfl, H122.out.cell 9 rfl 2 rfl, H122.out.cell 9 rfl 3 rfl, H122.out.cell 4 rfl 0 rfl, H122.out.cell 4 rfl 1 rfl, H122.out.cell 4 rfl 2 rfl, H122.out.cell 4 rfl 3 rfl, H122.out.cell 6 rfl 0 rfl, H122.out.cell 6 rfl 1 rfl, H122.out.cell 6 rfl 2 rfl, H122.out.cell 6 rfl 3 rfl⟩))
                    clear hK K hHeld
                    try simp only [Act.put, List.getElem_toArray, List.getElem_cons_zero, List.getElem_cons_succ, List.setIfInBounds_toArray, List.set_cons_zero, List.set_cons_succ]
                    clear hD121
                    generalize (w118.alloc (.cells #[.int .i64 0, .int .i64 0, .int .i64 0, .slice none 0 0] 26)) = k123 at *
                    have hHeld := hHeld2
                    clear hHeld2
                    refine wpAnyH_ready (rs := [17]) (by kernel_rfl) (by simp) (AllReadyH.cons (o := _) rfl (fun K hK => ?_) AllReadyH.nil)
                    have z124 := H122.out.cell 0 rfl 0 rfl
                    have z125 := H122.out.free 0 rfl 0
                    have z126 := H122.out.cell 0 rfl 1 rfl
                    have z127 := H122.out.free 0 rfl 1
                    have z128 := H122.out.cell 0 rfl 2 rfl
                    have z129 := H122.out.free 0 rfl 2
                    have z130 := H122.out.cell 0 rfl 3 rfl
                    have z131 := H122.out.free 0 rfl 3
                    have H132 := hid (show St B W [.cells D121 #[.int .i64 qw, .int .i64 qh, .int .i64 AR, .slice v120a ((tgL pw4 ps4 X Y qw qh).length) v120c] 26, .own (.slice v120a ((tgL pw4 ps4 X Y qw qh).length) v120c) (tgL pw4 ps4 X Y qw qh), .own (.slice xa ((tpL pw4 ps4 X Y kt).length) xc) (tpL pw4 ps4 X Y kt), .own (.slice ya ((lfL pw4 ps4 X Y kl).length) yc) (lfL pw4 ps4 X Y kl), .cells D58 #[.int .i64 X, .int .i64 Y, .int .i64 XE, .int .i64 YE] 39, .own (.slice ga NN gc) (gL pw4 ps4 nh nw cols ntw nth j), .cells D30 #[.int .i64 pw4, .int .i64 ph4, .int .i64 AR, .slice ga NN gc] 26, .cells D22 #[.int .i64 pw4, .int .i64 ph4, .int .i64 AR, .slice vqa NN vqc] 26, .own (.slice vqa NN vqc) (wList pw4 ps4 nh nw), .cells D13 #[.int .i64 pw4, .int .i64 ph4, .int .i64 pm4, .slice pv4a ps4.length pv4c] 26, .own (.slice pv4a ps4.length pv4c) ps4, .tape K1] [] ((((k123.setCell ⟨D121, 0, none⟩ (.int .i64 qw)).setCell ⟨D121, 1, none⟩ (.int .i64 qh)).setCell ⟨D121, 2, none⟩ (.int .i64 AR)).setCell ⟨D121, 3, none⟩ (.slice v120a ((tgL pw4 ps4 X Y qw qh).length) v120c)) from (H122.out.set4 0 rfl (.int .i64 qw) (.int .i64 qh) (.int .i64 AR) (.slice v120a ((tgL pw4 ps4 X Y qw qh).length) v120c)))
                    go_simp
                    refine hK.out _ _ ?_ (fun hHeld2 => ?_)
                    focus ((try dsimp only); (exact ⟨H132.out.cell 9 rfl 0 rfl, H132.out.cell 9 rfl 1 rfl, H132.out.cell 9 rfl 2 rfl, H132.out.cell 9 rfl 3 rfl, H132.out.cell 4 rfl 0 rfl, H132.out.cell 4 rfl 1 rfl, H132.out.cell 4 rfl 2 rfl, H132.out.cell 4 rfl 3 rfl, H132.out.cell 6 rfl 0 rfl, H132.out.cell 6 rfl 1 rfl, H132.out.cell 6 rfl 2 rfl, H132.out.cell 6 rfl 3 rfl⟩))
                    clear hK K hHeld
                    try simp only [Act.put, List.getElem_toArray, List.getElem_cons_zero, List.getElem_cons_succ, List.setIfInBounds_toArray, List.set_cons_zero, List.set_cons_succ]
                    clear z124 z125 z126 z127 z128 z129 z130 z131
                    generalize ((((k123.setCell ⟨D121, 0, none⟩ (.int .i64 qw)).setCell ⟨D121, 1, none⟩ (.int .i64 qh)).setCell ⟨D121, 2, none⟩ (.int .i64 AR)).setCell ⟨D121, 3, none⟩ (.slice v120a ((tgL pw4 ps4 X Y qw qh).length) v120c)) = k133 at *
                    have hHeld := hHeld2
                    clear hHeld2
                    refine wpAnyH_take (i := 18) (oi := _) (v := ?_) rfl (by kernel_rfl) (by kernel_rfl) (by kernel_rfl) (fun _ _ _ h => h) (Or.inl ⟨by rfl, ?_⟩) (by assumption) ?_
                    rotate_left
                    focus (intro wS hSw; (try dsimp only at hSw); go_simp; (try with_reducible rfl))
                    try simp only [Act.put, List.getElem_toArray, List.getElem_cons_zero, List.getElem_cons_succ, List.setIfInBounds_toArray, List.set_cons_zero, List.set_cons_succ]
                    refine wpAnyH_done (by kernel_rfl) ?_ _
                    try clear hHeld
                    have z134 := H132.out.cell 6 rfl 0 rfl
                    have z135 := H132.out.cell 6 rfl 1 rfl
                    have z136 := H132.out.cell 6 rfl 2 rfl
                    have z137 := H132.out.cell 6 rfl 3 rfl
                    have z138 := H132.out.cell 0 rfl 0 rfl
                    have z139 := H132.out.cell 0 rfl 1 rfl
                    have z140 := H132.out.cell 0 rfl 2 rfl
                    have z141 := H132.out.cell 0 rfl 3 rfl
                    have z142 := H132.out.cell 4 rfl 0 rfl
                    have z143 := H132.out.cell 4 rfl 1 rfl
                    have z144 := H132.out.cell 4 rfl 2 rfl
                    have z145 := H132.out.cell 4 rfl 3 rfl
                    go_wp2_with fail
                    clear z134 z135 z136 z137 z138 z139 z140 z141 z142 z143 z144 z145
                    have gb := grow_blit (zs := ps4) (mx := pm4) HVps4.out (HIO.out) HNH.out HNW.out HTA.out HCT.out q1 q2 _ _ _ _ _ _ _ (H132.out.slc 5 rfl) (H132.out.slc 1 rfl)
                    rw [HAR.out] at gb
                    refine gb.mono ?_
                    clear gb
                    rintro e w146 ⟨v148, rfl, ho, hb⟩
                    have H147 := hid (H132.out.grow hb ho)
                    obtain ⟨v148a, v148c, rfl, _⟩ := ho.slc
                    clear ho hb
                    rw [gL_len, HNN.out] at H147 ⊢
                    obtain ⟨D149, hD149⟩ : ∃ D, w146.heap.size = D := ⟨_, rfl⟩
                    go_upto_region 21 with fail
                    have H150 := hid (show St B W [.cells D149 #[.int .i64 pw4, .int .i64 ph4, .int .i64 AR, .slice v148a NN v148c] 26, .own (.slice v148a NN v148c) (gL pw4 ps4 nh nw cols ntw nth (j + 1)), .cells D121 #[.int .i64 qw, .int .i64 qh, .int .i64 AR, .slice v120a ((tgL pw4 ps4 X Y qw qh).length) v120c] 26, .own (.slice v120a ((tgL pw4 ps4 X Y qw qh).length) v120c) (tgL pw4 ps4 X Y qw qh), .own (.slice xa ((tpL pw4 ps4 X Y kt).length) xc) (tpL pw4 ps4 X Y kt), .own (.slice ya ((lfL pw4 ps4 X Y kl).length) yc) (lfL pw4 ps4 X Y kl), .cells D58 #[.int .i64 X, .int .i64 Y, .int .i64 XE, .int .i64 YE] 39, .own (.slice ga NN gc) (gL pw4 ps4 nh nw cols ntw nth j), .cells D30 #[.int .i64 pw4, .int .i64 ph4, .int .i64 AR, .slice ga NN gc] 26, .cells D22 #[.int .i64 pw4, .int .i64 ph4, .int .i64 AR, .slice vqa NN vqc] 26, .own (.slice vqa NN vqc) (wList pw4 ps4 nh nw), .cells D13 #[.int .i64 pw4, .int .i64 ph4, .int .i64 pm4, .slice pv4a ps4.length pv4c] 26, .own (.slice pv4a ps4.length pv4c) ps4, .tape K1] [] (w146.alloc (.cells #[.int .i64 pw4, .int .i64 ph4, .int .i64 AR, .slice v148a NN v148c] 26)) from (H147.out.alloc #[.int .i64 pw4, .int .i64 ph4, .int .i64 AR, .slice v148a NN v148c] 26 hD149))
                    first | refine gen_code H150.out ?_ | refine gen_list H150.out ?_ | refine gen_calls H150.out ?_
                    intro w151 hG
                    clear H150
                    have H150 := hid hG
                    clear hG
                    clear hD149
                    have z152 := H150.out.cell 0 rfl 0 rfl
                    have z153 := H150.out.cell 0 rfl 1 rfl
                    have z154 := H150.out.cell 0 rfl 2 rfl
                    have z155 := H150.out.cell 0 rfl 3 rfl
                    have z156 := H150.out.cell 8 rfl 0 rfl
                    have z157 := H150.out.free 8 rfl 0
                    have z158 := H150.out.cell 8 rfl 1 rfl
                    have z159 := H150.out.free 8 rfl 1
                    have z160 := H150.out.cell 8 rfl 2 rfl
                    have z161 := H150.out.free 8 rfl 2
                    have z162 := H150.out.cell 8 rfl 3 rfl
                    have z163 := H150.out.free 8 rfl 3
                    go_upto_region 8 with fail
                    clear z152 z153 z154 z155 z156 z157 z158 z159 z160 z161 z162 z163
                    have H164 := hid (show St B W [.cells D149 #[.int .i64 pw4, .int .i64 ph4, .int .i64 AR, .slice v148a NN v148c] 26, .own (.slice v148a NN v148c) (gL pw4 ps4 nh nw cols ntw nth (j + 1)), .cells D121 #[.int .i64 qw, .int .i64 qh, .int .i64 AR, .slice v120a ((tgL pw4 ps4 X Y qw qh).length) v120c] 26, .own (.slice v120a ((tgL pw4 ps4 X Y qw qh).length) v120c) (tgL pw4 ps4 X Y qw qh), .own (.slice xa ((tpL pw4 ps4 X Y kt).length) xc) (tpL pw4 ps4 X Y kt), .own (.slice ya ((lfL pw4 ps4 X Y kl).length) yc) (lfL pw4 ps4 X Y kl), .cells D58 #[.int .i64 X, .int .i64 Y, .int .i64 XE, .int .i64 YE] 39, .own (.slice ga NN gc) (gL pw4 ps4 nh nw cols ntw nth j), .cells D30 #[.int .i64 pw4, .int .i64 ph4, .int .i64 AR, .slice v148a NN v148c] 26, .cells D22 #[.int .i64 pw4, .int .i64 ph4, .int .i64 AR, .slice vqa NN vqc] 26, .own (.slice vqa NN vqc) (wList pw4 ps4 nh nw), .cells D13 #[.int .i64 pw4, .int .i64 ph4, .int .i64 pm4, .slice pv4a ps4.length pv4c] 26, .own (.slice pv4a ps4.length pv4c) ps4, .tape K1] [] ((((w151.setCell ⟨D30, 0, none⟩ (.int .i64 pw4)).setCell ⟨D30, 1, none⟩ (.int .i64 ph4)).setCell ⟨D30, 2, none⟩ (.int .i64 AR)).setCell ⟨D30, 3, none⟩ (.slice v148a NN v148c)) from (H150.out.set4 8 rfl (.int .i64 pw4) (.int .i64 ph4) (.int .i64 AR) (.slice v148a NN v148c)))
                    first | refine gen_code H164.out ?_ | refine gen_list H164.out ?_ | refine gen_calls H164.out ?_
                    intro w165 hG
                    clear H164
                    have H164 := hid hG
                    clear hG
                    go_wp2_with fail
                    go_roundw
                    case rel => exact ⟨j + 1, _, _, by omega, by go_num, H164.out.pick [1, 8, 9, 10, 11, 12, 13] rfl (by decide)⟩
                    case measure => first | (simp [intOf]; omega) | (simp [intOf]; done)
                  · obtain ⟨D166, hD166⟩ : ∃ D, w115.heap.size = D := ⟨_, rfl⟩
                    have H167 := hid (show St B W [.cells D166 #[.int .i64 0, .int .i64 0, .int .i64 0, .slice none 0 0] 26, .own (.slice xa ((tpL pw4 ps4 X Y kt).length) xc) (tpL pw4 ps4 X Y kt), .own (.slice ya ((lfL pw4 ps4 X Y kl).length) yc) (lfL pw4 ps4 X Y kl), .cells D58 #[.int .i64 X, .int .i64 Y, .int .i64 XE, .int .i64 YE] 39, .own (.slice ga NN gc) (gL pw4 ps4 nh nw cols ntw nth j), .cells D30 #[.int .i64 pw4, .int .i64 ph4, .int .i64 AR, .slice ga NN gc] 26, .cells D22 #[.int .i64 pw4, .int .i64 ph4, .int .i64 AR, .slice vqa NN vqc] 26, .own (.slice vqa NN vqc) (wList pw4 ps4 nh nw), .cells D13 #[.int .i64 pw4, .int .i64 ph4, .int .i64 pm4, .slice pv4a ps4.length pv4c] 26, .own (.slice pv4a ps4.length pv4c) ps4, .tape K1] [] (w115.alloc (.cells #[.int .i64 0, .int .i64 0, .int .i64 0, .slice none 0 0] 26)) from (H116.out.alloc #[.int .i64 0, .int .i64 0, .int .i64 0, .slice none 0 0] 26 hD166))
                    go_simp
                    refine hK.out _ _ ?_ (fun hHeld2 => ?_)
                    focus ((try dsimp only); (exact ⟨H167.out.cell 8 rfl 0 rfl, H167.out.cell 8 rfl 1 rfl, H167.out.cell 8 rfl 2 rfl, H167.out.cell 8 rfl 3 rfl, H167.out.cell 3 rfl 0 rfl, H167.out.cell 3 rfl 1 rfl, H167.out.cell 3 rfl 2 rfl, H167.out.cell 3 rfl 3 rfl, H167.out.cell 5 rfl 0 rfl, H167.out.cell 5 rfl 1 rfl, H167.out.cell 5 rfl 2 rfl, H167.out.cell 5 rfl 3 rfl⟩))
                    clear hK K hHeld
                    try simp only [Act.put, List.getElem_toArray, List.getElem_cons_zero, List.getElem_cons_succ, List.setIfInBounds_toArray, List.set_cons_zero, List.set_cons_succ]
                    clear hD166
                    generalize (w115.alloc (.cells #[.int .i64 0, .int .i64 0, .int .i64 0, .slice none 0 0] 26)) = k168 at *
                    have hHeld := hHeld2
                    clear hHeld2
                    refine wpAnyH_ready (rs := [12]) (by kernel_rfl) (by simp) (AllReadyH.cons (o := _) rfl (fun K hK => ?_) AllReadyH.nil)
                    go_simp
                    go_at_call 44
                    have gt := grow_tile (zs := ps4) (r0 := X) (r1 := Y) (r2 := XE) (r3 := YE) HVps4.out (HIO.out) HNH.out HNW.out (by omega) (by omega) q1 q2 rfl rfl (by omega) (by omega) _ _ _ _ _ _ _ _ _ _ (H167.out.slc 9 rfl) (by have e := HKL.out; subst e; exact H167.out.slc 2 rfl) (by have e := HKT.out; subst e; exact H167.out.slc 1 rfl)
                    rw [Hz117.out, HAR.out] at gt
                    refine gt.mono ?_
                    clear gt
                    rintro e w169 ⟨v171, rfl, ho, hb⟩
                    have H170 := hid (H167.out.grow hb ho)
                    obtain ⟨v171a, v171c, rfl, _⟩ := ho.slc
                    clear ho hb
                    refine hK.out _ _ ?_ (fun hHeld2 => ?_)
                    focus ((try dsimp only); (exact ⟨H170.out.cell 9 rfl 0 rfl, H170.out.cell 9 rfl 1 rfl, H170.out.cell 9 rfl 2 rfl, H170.out.cell 9 rfl 3 rfl, H170.out.cell 4 rfl 0 rfl, H170.out.cell 4 rfl 1 rfl, H170.out.cell 4 rfl 2 rfl, H170.out.cell 4 rfl 3 rfl, H170.out.cell 6 rfl 0 rfl, H170.out.cell 6 rfl 1 rfl, H170.out.cell 6 rfl 2 rfl, H170.out.cell 6 rfl 3 rfl⟩))
                    clear hK K
                    try simp only [Act.put, List.getElem_toArray, List.getElem_cons_zero, List.getElem_cons_succ, List.setIfInBounds_toArray, List.set_cons_zero, List.set_cons_succ]
                    clear hHeld
                    have hHeld := hHeld2
                    clear hHeld2
                    refine wpAnyH_take (i := 13) (oi := _) (v := ?_) rfl (by kernel_rfl) (by kernel_rfl) (by kernel_rfl) (fun _ _ _ h => h) (Or.inl ⟨by rfl, ?_⟩) (by assumption) ?_
                    rotate_left
                    focus (intro wS hSw; (try dsimp only at hSw); go_simp; (try with_reducible rfl))
                    try simp only [Act.put, List.getElem_toArray, List.getElem_cons_zero, List.getElem_cons_succ, List.setIfInBounds_toArray, List.set_cons_zero, List.set_cons_succ]
                    refine wpAnyH_take (i := 14) (oi := _) (v := ?_) rfl (by kernel_rfl) (by kernel_rfl) (by kernel_rfl) (fun _ _ _ h => h) (Or.inl ⟨by rfl, ?_⟩) (by assumption) ?_
                    rotate_left
                    focus (intro wS hSw; (try dsimp only at hSw); go_simp; (try with_reducible rfl))
                    try simp only [Act.put, List.getElem_toArray, List.getElem_cons_zero, List.getElem_cons_succ, List.setIfInBounds_toArray, List.set_cons_zero, List.set_cons_succ]
                    refine wpAnyH_take (i := 15) (oi := _) (v := ?_) rfl (by kernel_rfl) (by kernel_rfl) (by kernel_rfl) (fun _ _ _ h => h) (Or.inl ⟨by rfl, ?_⟩) (by assumption) ?_
                    rotate_left
                    focus (intro wS hSw; (try dsimp only at hSw); go_simp; (try with_reducible rfl))
                    try simp only [Act.put, List.getElem_toArray, List.getElem_cons_zero, List.getElem_cons_succ, List.setIfInBounds_toArray, List.set_cons_zero, List.set_cons_succ]
                    refine wpAnyH_ready (rs := [17]) (by kernel_rfl) (by simp) (AllReadyH.cons (o := _) rfl (fun K hK => ?_) AllReadyH.nil)
                    have z172 := H170.out.cell 1 rfl 0 rfl
                    have z173 := H170.out.free 1 rfl 0
                    have z174 := H170.out.cell 1 rfl 1 rfl
                    have z175 := H170.out.free 1 rfl 1
                    have z176 := H170.out.cell 1 rfl 2 rfl
                    have z177 := H170.out.free 1 rfl 2
                    have z178 := H170.out.cell 1 rfl 3 rfl
                    have z179 := H170.out.free 1 rfl 3
                    have H180 := hid (show St B W [.own (.slice v171a ((tgL pw4 ps4 X Y qw qh).length) v171c) (tgL pw4 ps4 X Y qw qh), .cells D166 #[.int .i64 qw, .int .i64 qh, .int .i64 AR, .slice v171a ((tgL pw4 ps4 X Y qw qh).length) v171c] 26, .own (.slice xa ((tpL pw4 ps4 X Y kt).length) xc) (tpL pw4 ps4 X Y kt), .own (.slice ya ((lfL pw4 ps4 X Y kl).length) yc) (lfL pw4 ps4 X Y kl), .cells D58 #[.int .i64 X, .int .i64 Y, .int .i64 XE, .int .i64 YE] 39, .own (.slice ga NN gc) (gL pw4 ps4 nh nw cols ntw nth j), .cells D30 #[.int .i64 pw4, .int .i64 ph4, .int .i64 AR, .slice ga NN gc] 26, .cells D22 #[.int .i64 pw4, .int .i64 ph4, .int .i64 AR, .slice vqa NN vqc] 26, .own (.slice vqa NN vqc) (wList pw4 ps4 nh nw), .cells D13 #[.int .i64 pw4, .int .i64 ph4, .int .i64 pm4, .slice pv4a ps4.length pv4c] 26, .own (.slice pv4a ps4.length pv4c) ps4, .tape K1] [] ((((w169.setCell ⟨D166, 0, none⟩ (.int .i64 qw)).setCell ⟨D166, 1, none⟩ (.int .i64 qh)).setCell ⟨D166, 2, none⟩ (.int .i64 AR)).setCell ⟨D166, 3, none⟩ (.slice v171a ((tgL pw4 ps4 X Y qw qh).length) v171c)) from (H170.out.set4 1 rfl (.int .i64 qw) (.int .i64 qh) (.int .i64 AR) (.slice v171a ((tgL pw4 ps4 X Y qw qh).length) v171c)))
                    go_simp
                    refine hK.out _ _ ?_ (fun hHeld2 => ?_)
                    focus ((try dsimp only); (exact ⟨H180.out.cell 9 rfl 0 rfl, H180.out.cell 9 rfl 1 rfl, H180.out.cell 9 rfl 2 rfl, H180.out.cell 9 rfl 3 rfl, H180.out.cell 4 rfl 0 rfl, H180.out.cell 4 rfl 1 rfl, H180.out.cell 4 rfl 2 rfl, H180.out.cell 4 rfl 3 rfl, H180.out.cell 6 rfl 0 rfl, H180.out.cell 6 rfl 1 rfl, H180.out.cell 6 rfl 2 rfl, H180.out.cell 6 rfl 3 rfl⟩))
                    clear hK K hHeld
                    try simp only [Act.put, List.getElem_toArray, List.getElem_cons_zero, List.getElem_cons_succ, List.setIfInBounds_toArray, List.set_cons_zero, List.set_cons_succ]
                    clear z172 z173 z174 z175 z176 z177 z178 z179
                    generalize ((((w169.setCell ⟨D166, 0, none⟩ (.int .i64 qw)).setCell ⟨D166, 1, none⟩ (.int .i64 qh)).setCell ⟨D166, 2, none⟩ (.int .i64 AR)).setCell ⟨D166, 3, none⟩ (.slice v171a ((tgL pw4 ps4 X Y qw qh).length) v171c)) = k181 at *
                    have hHeld := hHeld2
                    clear hHeld2
                    refine wpAnyH_take (i := 18) (oi := _) (v := ?_) rfl (by kernel_rfl) (by kernel_rfl) (by kernel_rfl) (fun _ _ _ h => h) (Or.inl ⟨by rfl, ?_⟩) (by assumption) ?_
                    rotate_left
                    focus (intro wS hSw; (try dsimp only at hSw); go_simp; (try with_reducible rfl))
                    try simp only [Act.put, List.getElem_toArray, List.getElem_cons_zero, List.getElem_cons_succ, List.setIfInBounds_toArray, List.set_cons_zero, List.set_cons_succ]
                    refine wpAnyH_done (by kernel_rfl) ?_ _
                    try clear hHeld
                    have z182 := H180.out.cell 6 rfl 0 rfl
                    have z183 := H180.out.cell 6 rfl 1 rfl
                    have z184 := H180.out.cell 6 rfl 2 rfl
                    have z185 := H180.out.cell 6 rfl 3 rfl
                    have z186 := H180.out.cell 1 rfl 0 rfl
                    have z187 := H180.out.cell 1 rfl 1 rfl
                    have z188 := H180.out.cell 1 rfl 2 rfl
                    have z189 := H180.out.cell 1 rfl 3 rfl
                    have z190 := H180.out.cell 4 rfl 0 rfl
                    have z191 := H180.out.cell 4 rfl 1 rfl
                    have z192 := H180.out.cell 4 rfl 2 rfl
                    have z193 := H180.out.cell 4 rfl 3 rfl
                    go_wp2_with fail
                    clear z182 z183 z184 z185 z186 z187 z188 z189 z190 z191 z192 z193
                    have gb := grow_blit (zs := ps4) (mx := pm4) HVps4.out (HIO.out) HNH.out HNW.out HTA.out HCT.out q1 q2 _ _ _ _ _ _ _ (H180.out.slc 5 rfl) (H180.out.slc 0 rfl)
                    rw [HAR.out] at gb
                    refine gb.mono ?_
                    clear gb
                    rintro e w194 ⟨v196, rfl, ho, hb⟩
                    have H195 := hid (H180.out.grow hb ho)
                    obtain ⟨v196a, v196c, rfl, _⟩ := ho.slc
                    clear ho hb
                    rw [gL_len, HNN.out] at H195 ⊢
                    obtain ⟨D197, hD197⟩ : ∃ D, w194.heap.size = D := ⟨_, rfl⟩
                    go_upto_region 21 with fail
                    have H198 := hid (show St B W [.cells D197 #[.int .i64 pw4, .int .i64 ph4, .int .i64 AR, .slice v196a NN v196c] 26, .own (.slice v196a NN v196c) (gL pw4 ps4 nh nw cols ntw nth (j + 1)), .own (.slice v171a ((tgL pw4 ps4 X Y qw qh).length) v171c) (tgL pw4 ps4 X Y qw qh), .cells D166 #[.int .i64 qw, .int .i64 qh, .int .i64 AR, .slice v171a ((tgL pw4 ps4 X Y qw qh).length) v171c] 26, .own (.slice xa ((tpL pw4 ps4 X Y kt).length) xc) (tpL pw4 ps4 X Y kt), .own (.slice ya ((lfL pw4 ps4 X Y kl).length) yc) (lfL pw4 ps4 X Y kl), .cells D58 #[.int .i64 X, .int .i64 Y, .int .i64 XE, .int .i64 YE] 39, .own (.slice ga NN gc) (gL pw4 ps4 nh nw cols ntw nth j), .cells D30 #[.int .i64 pw4, .int .i64 ph4, .int .i64 AR, .slice ga NN gc] 26, .cells D22 #[.int .i64 pw4, .int .i64 ph4, .int .i64 AR, .slice vqa NN vqc] 26, .own (.slice vqa NN vqc) (wList pw4 ps4 nh nw), .cells D13 #[.int .i64 pw4, .int .i64 ph4, .int .i64 pm4, .slice pv4a ps4.length pv4c] 26, .own (.slice pv4a ps4.length pv4c) ps4, .tape K1] [] (w194.alloc (.cells #[.int .i64 pw4, .int .i64 ph4, .int .i64 AR, .slice v196a NN v196c] 26)) from (H195.out.alloc #[.int .i64 pw4, .int .i64 ph4, .int .i64 AR, .slice v196a NN v196c] 26 hD197))
                    first | refine gen_code H198.out ?_ | refine gen_list H198.out ?_ | refine gen_calls H198.out ?_
                    intro w199 hG
                    clear H198
                    have H198 := hid hG
                    clear hG
                    clear hD197
                    have z200 := H198.out.cell 0 rfl 0 rfl
                    have z201 := H198.out.cell 0 rfl 1 rfl
                    have z202 := H198.out.cell 0 rfl 2 rfl
                    have z203 := H198.out.cell 0 rfl 3 rfl
                    have z204 := H198.out.cell 8 rfl 0 rfl
                    have z205 := H198.out.free 8 rfl 0
                    have z206 := H198.out.cell 8 rfl 1 rfl
                    have z207 := H198.out.free 8 rfl 1
                    have z208 := H198.out.cell 8 rfl 2 rfl
                    have z209 := H198.out.free 8 rfl 2
                    have z210 := H198.out.cell 8 rfl 3 rfl
                    have z211 := H198.out.free 8 rfl 3
                    go_upto_region 8 with fail
                    clear z200 z201 z202 z203 z204 z205 z206 z207 z208 z209 z210 z211
                    have H212 := hid (show St B W [.cells D197 #[.int .i64 pw4, .int .i64 ph4, .int .i64 AR, .slice v196a NN v196c] 26, .own (.slice v196a NN v196c) (gL pw4 ps4 nh nw cols ntw nth (j + 1)), .own (.slice v171a ((tgL pw4 ps4 X Y qw qh).length) v171c) (tgL pw4 ps4 X Y qw qh), .cells D166 #[.int .i64 qw, .int .i64 qh, .int .i64 AR, .slice v171a ((tgL pw4 ps4 X Y qw qh).length) v171c] 26, .own (.slice xa ((tpL pw4 ps4 X Y kt).length) xc) (tpL pw4 ps4 X Y kt), .own (.slice ya ((lfL pw4 ps4 X Y kl).length) yc) (lfL pw4 ps4 X Y kl), .cells D58 #[.int .i64 X, .int .i64 Y, .int .i64 XE, .int .i64 YE] 39, .own (.slice ga NN gc) (gL pw4 ps4 nh nw cols ntw nth j), .cells D30 #[.int .i64 pw4, .int .i64 ph4, .int .i64 AR, .slice v196a NN v196c] 26, .cells D22 #[.int .i64 pw4, .int .i64 ph4, .int .i64 AR, .slice vqa NN vqc] 26, .own (.slice vqa NN vqc) (wList pw4 ps4 nh nw), .cells D13 #[.int .i64 pw4, .int .i64 ph4, .int .i64 pm4, .slice pv4a ps4.length pv4c] 26, .own (.slice pv4a ps4.length pv4c) ps4, .tape K1] [] ((((w199.setCell ⟨D30, 0, none⟩ (.int .i64 pw4)).setCell ⟨D30, 1, none⟩ (.int .i64 ph4)).setCell ⟨D30, 2, none⟩ (.int .i64 AR)).setCell ⟨D30, 3, none⟩ (.slice v196a NN v196c)) from (H198.out.set4 8 rfl (.int .i64 pw4) (.int .i64 ph4) (.int .i64 AR) (.slice v196a NN v196c)))
                    first | refine gen_code H212.out ?_ | refine gen_list H212.out ?_ | refine gen_calls H212.out ?_
                    intro w213 hG
                    clear H212
                    have H212 := hid hG
                    clear hG
                    go_wp2_with fail
                    go_roundw
                    case rel => exact ⟨j + 1, _, _, by omega, by go_num, H212.out.pick [1, 8, 9, 10, 11, 12, 13] rfl (by decide)⟩
                    case measure => first | (simp [intOf]; omega) | (simp [intOf]; done)
                · obtain ⟨D214, hD214⟩ : ∃ D, k114.heap.size = D := ⟨_, rfl⟩
                  have H215 := hid (show St B W [.cells D214 #[.int .i64 0, .int .i64 0, .int .i64 0, .slice none 0 0] 26, .own (.slice xa ((tpL pw4 ps4 X Y kt).length) xc) (tpL pw4 ps4 X Y kt), .own (.slice ya ((lfL pw4 ps4 X Y kl).length) yc) (lfL pw4 ps4 X Y kl), .cells D58 #[.int .i64 X, .int .i64 Y, .int .i64 XE, .int .i64 YE] 39, .own (.slice ga NN gc) (gL pw4 ps4 nh nw cols ntw nth j), .cells D30 #[.int .i64 pw4, .int .i64 ph4, .int .i64 AR, .slice ga NN gc] 26, .cells D22 #[.int .i64 pw4, .int .i64 ph4, .int .i64 AR, .slice vqa NN vqc] 26, .own (.slice vqa NN vqc) (wList pw4 ps4 nh nw), .cells D13 #[.int .i64 pw4, .int .i64 ph4, .int .i64 pm4, .slice pv4a ps4.length pv4c] 26, .own (.slice pv4a ps4.length pv4c) ps4, .tape K1] [] (k114.alloc (.cells #[.int .i64 0, .int .i64 0, .int .i64 0, .slice none 0 0] 26)) from (H113.out.alloc #[.int .i64 0, .int .i64 0, .int .i64 0, .slice none 0 0] 26 hD214))
                  go_simp
                  refine hK.out _ _ ?_ (fun hHeld2 => ?_)
                  focus ((try dsimp only); (exact ⟨H215.out.cell 8 rfl 0 rfl, H215.out.cell 8 rfl 1 rfl, H215.out.cell 8 rfl 2 rfl, H215.out.cell 8 rfl 3 rfl, H215.out.cell 3 rfl 0 rfl, H215.out.cell 3 rfl 1 rfl, H215.out.cell 3 rfl 2 rfl, H215.out.cell 3 rfl 3 rfl, H215.out.cell 5 rfl 0 rfl, H215.out.cell 5 rfl 1 rfl, H215.out.cell 5 rfl 2 rfl, H215.out.cell 5 rfl 3 rfl⟩))
                  clear hK K hHeld
                  try simp only [Act.put, List.getElem_toArray, List.getElem_cons_zero, List.getElem_cons_succ, List.setIfInBounds_toArray, List.set_cons_zero, List.set_cons_succ]
                  clear hD214
                  generalize (k114.alloc (.cells #[.int .i64 0, .int .i64 0, .int .i64 0, .slice none 0 0] 26)) = k216 at *
                  have hHeld := hHeld2
                  clear hHeld2
                  refine wpAnyH_ready (rs := [11]) (by kernel_rfl) (by simp) (AllReadyH.cons (o := _) rfl (fun K hK => ?_) AllReadyH.nil)
                  go_simp
                  go_at_call 64
                  refine (lawat_any _ _ _ _ _ _ _ _ (gL pw4 ps4 nh nw cols ntw nth j) _ (H215.out.slc 4 rfl) (by have := HPQ.out; omega) (by omega) (by omega) (by omega) (by have := HPQ.out; omega) (by omega) (by omega) (by omega) (by omega)).mono ?_
                  rintro e w217 ⟨rfl, hb⟩
                  have H218 := hid (H215.out.call hb)
                  clear hb
                  have hle := gL_left (zs := ps4) HNW.out HTA.out (r := Y) (c := X) (by omega) (by omega) (by omega)
                  rw [show (((X : Nat) : Int) - 1) = X - 1 by omega, show (((Y : Nat) : Int) - 1) = Y - 1 by omega] at hle
                  rw [hle]
                  clear hle
                  obtain ⟨z219, hz219⟩ : ∃ z, rowsS pw4 ps4 0 0 (Y) (X) = z := ⟨_, rfl⟩
                  rw [hz219]
                  have Hz219 := hid hz219
                  clear hz219
                  refine hK.out _ _ ?_ (fun hHeld2 => ?_)
                  focus ((try dsimp only); (exact ⟨H218.out.cell 8 rfl 0 rfl, H218.out.cell 8 rfl 1 rfl, H218.out.cell 8 rfl 2 rfl, H218.out.cell 8 rfl 3 rfl, H218.out.cell 3 rfl 0 rfl, H218.out.cell 3 rfl 1 rfl, H218.out.cell 3 rfl 2 rfl, H218.out.cell 3 rfl 3 rfl, H218.out.cell 5 rfl 0 rfl, H218.out.cell 5 rfl 1 rfl, H218.out.cell 5 rfl 2 rfl, H218.out.cell 5 rfl 3 rfl⟩))
                  clear hK K
                  try simp only [Act.put, List.getElem_toArray, List.getElem_cons_zero, List.getElem_cons_succ, List.setIfInBounds_toArray, List.set_cons_zero, List.set_cons_succ]
                  clear hHeld
                  have hHeld := hHeld2
                  clear hHeld2
                  refine wpAnyH_ready (rs := [12]) (by kernel_rfl) (by simp) (AllReadyH.cons (o := _) rfl (fun K hK => ?_) AllReadyH.nil)
                  go_simp
                  go_at_call 44
                  have gt := grow_tile (zs := ps4) (r0 := X) (r1 := Y) (r2 := XE) (r3 := YE) HVps4.out (HIO.out) HNH.out HNW.out (by omega) (by omega) q1 q2 rfl rfl (by omega) (by omega) _ _ _ _ _ _ _ _ _ _ (H218.out.slc 9 rfl) (by have e := HKL.out; subst e; exact H218.out.slc 2 rfl) (by have e := HKT.out; subst e; exact H218.out.slc 1 rfl)
                  rw [Hz219.out, HAR.out] at gt
                  refine gt.mono ?_
                  clear gt
                  rintro e w220 ⟨v222, rfl, ho, hb⟩
                  have H221 := hid (H218.out.grow hb ho)
                  obtain ⟨v222a, v222c, rfl, _⟩ := ho.slc
                  clear ho hb
                  refine hK.out _ _ ?_ (fun hHeld2 => ?_)
                  focus ((try dsimp only); (exact ⟨H221.out.cell 9 rfl 0 rfl, H221.out.cell 9 rfl 1 rfl, H221.out.cell 9 rfl 2 rfl, H221.out.cell 9 rfl 3 rfl, H221.out.cell 4 rfl 0 rfl, H221.out.cell 4 rfl 1 rfl, H221.out.cell 4 rfl 2 rfl, H221.out.cell 4 rfl 3 rfl, H221.out.cell 6 rfl 0 rfl, H221.out.cell 6 rfl 1 rfl, H221.out.cell 6 rfl 2 rfl, H221.out.cell 6 rfl 3 rfl⟩))
                  clear hK K
                  try simp only [Act.put, List.getElem_toArray, List.getElem_cons_zero, List.getElem_cons_succ, List.setIfInBounds_toArray, List.set_cons_zero, List.set_cons_succ]
                  clear hHeld
                  have hHeld := hHeld2
                  clear hHeld2
                  refine wpAnyH_take (i := 13) (oi := _) (v := ?_) rfl (by kernel_rfl) (by kernel_rfl) (by kernel_rfl) (fun _ _ _ h => h) (Or.inl ⟨by rfl, ?_⟩) (by assumption) ?_
                  rotate_left
                  focus (intro wS hSw; (try dsimp only at hSw); go_simp; (try with_reducible rfl))
                  try simp only [Act.put, List.getElem_toArray, List.getElem_cons_zero, List.getElem_cons_succ, List.setIfInBounds_toArray, List.set_cons_zero, List.set_cons_succ]
                  refine wpAnyH_take (i := 14) (oi := _) (v := ?_) rfl (by kernel_rfl) (by kernel_rfl) (by kernel_rfl) (fun _ _ _ h => h) (Or.inl ⟨by rfl, ?_⟩) (by assumption) ?_
                  rotate_left
                  focus (intro wS hSw; (try dsimp only at hSw); go_simp; (try with_reducible rfl))
                  try simp only [Act.put, List.getElem_toArray, List.getElem_cons_zero, List.getElem_cons_succ, List.setIfInBounds_toArray, List.set_cons_zero, List.set_cons_succ]
                  refine wpAnyH_take (i := 15) (oi := _) (v := ?_) rfl (by kernel_rfl) (by kernel_rfl) (by kernel_rfl) (fun _ _ _ h => h) (Or.inl ⟨by rfl, ?_⟩) (by assumption) ?_
                  rotate_left
                  focus (intro wS hSw; (try dsimp only at hSw); go_simp; (try with_reducible rfl))
                  try simp only [Act.put, List.getElem_toArray, List.getElem_cons_zero, List.getElem_cons_succ, List.setIfInBounds_toArray, List.set_cons_zero, List.set_cons_succ]
                  refine wpAnyH_ready (rs := [17]) (by kernel_rfl) (by simp) (AllReadyH.cons (o := _) rfl (fun K hK => ?_) AllReadyH.nil)
                  have z223 := H221.out.cell 1 rfl 0 rfl
                  have z224 := H221.out.free 1 rfl 0
                  have z225 := H221.out.cell 1 rfl 1 rfl
                  have z226 := H221.out.free 1 rfl 1
                  have z227 := H221.out.cell 1 rfl 2 rfl
                  have z228 := H221.out.free 1 rfl 2
                  have z229 := H221.out.cell 1 rfl 3 rfl
                  have z230 := H221.out.free 1 rfl 3
                  have H231 := hid (show St B W [.own (.slice v222a ((tgL pw4 ps4 X Y qw qh).length) v222c) (tgL pw4 ps4 X Y qw qh), .cells D214 #[.int .i64 qw, .int .i64 qh, .int .i64 AR, .slice v222a ((tgL pw4 ps4 X Y qw qh).length) v222c] 26, .own (.slice xa ((tpL pw4 ps4 X Y kt).length) xc) (tpL pw4 ps4 X Y kt), .own (.slice ya ((lfL pw4 ps4 X Y kl).length) yc) (lfL pw4 ps4 X Y kl), .cells D58 #[.int .i64 X, .int .i64 Y, .int .i64 XE, .int .i64 YE] 39, .own (.slice ga NN gc) (gL pw4 ps4 nh nw cols ntw nth j), .cells D30 #[.int .i64 pw4, .int .i64 ph4, .int .i64 AR, .slice ga NN gc] 26, .cells D22 #[.int .i64 pw4, .int .i64 ph4, .int .i64 AR, .slice vqa NN vqc] 26, .own (.slice vqa NN vqc) (wList pw4 ps4 nh nw), .cells D13 #[.int .i64 pw4, .int .i64 ph4, .int .i64 pm4, .slice pv4a ps4.length pv4c] 26, .own (.slice pv4a ps4.length pv4c) ps4, .tape K1] [] ((((w220.setCell ⟨D214, 0, none⟩ (.int .i64 qw)).setCell ⟨D214, 1, none⟩ (.int .i64 qh)).setCell ⟨D214, 2, none⟩ (.int .i64 AR)).setCell ⟨D214, 3, none⟩ (.slice v222a ((tgL pw4 ps4 X Y qw qh).length) v222c)) from (H221.out.set4 1 rfl (.int .i64 qw) (.int .i64 qh) (.int .i64 AR) (.slice v222a ((tgL pw4 ps4 X Y qw qh).length) v222c)))
                  go_simp
                  refine hK.out _ _ ?_ (fun hHeld2 => ?_)
                  focus ((try dsimp only); (exact ⟨H231.out.cell 9 rfl 0 rfl, H231.out.cell 9 rfl 1 rfl, H231.out.cell 9 rfl 2 rfl, H231.out.cell 9 rfl 3 rfl, H231.out.cell 4 rfl 0 rfl, H231.out.cell 4 rfl 1 rfl, H231.out.cell 4 rfl 2 rfl, H231.out.cell 4 rfl 3 rfl, H231.out.cell 6 rfl 0 rfl, H231.out.cell 6 rfl 1 rfl, H231.out.cell 6 rfl 2 rfl, H231.out.cell 6 rfl 3 rfl⟩))
                  clear hK K hHeld
                  try simp only [Act.put, List.getElem_toArray, List.getElem_cons_zero, List.getElem_cons_succ, List.setIfInBounds_toArray, List.set_cons_zero, List.set_cons_succ]
                  clear z223 z224 z225 z226 z227 z228 z229 z230
                  generalize ((((w220.setCell ⟨D214, 0, none⟩ (.int .i64 qw)).setCell ⟨D214, 1, none⟩ (.int .i64 qh)).setCell ⟨D214, 2, none⟩ (.int .i64 AR)).setCell ⟨D214, 3, none⟩ (.slice v222a ((tgL pw4 ps4 X Y qw qh).length) v222c)) = k232 at *
                  have hHeld := hHeld2
                  clear hHeld2
                  refine wpAnyH_take (i := 18) (oi := _) (v := ?_) rfl (by kernel_rfl) (by kernel_rfl) (by kernel_rfl) (fun _ _ _ h => h) (Or.inl ⟨by rfl, ?_⟩) (by assumption) ?_
                  rotate_left
                  focus (intro wS hSw; (try dsimp only at hSw); go_simp; (try with_reducible rfl))
                  try simp only [Act.put, List.getElem_toArray, List.getElem_cons_zero, List.getElem_cons_succ, List.setIfInBounds_toArray, List.set_cons_zero, List.set_cons_succ]
                  refine wpAnyH_done (by kernel_rfl) ?_ _
                  try clear hHeld
                  have z233 := H231.out.cell 6 rfl 0 rfl
                  have z234 := H231.out.cell 6 rfl 1 rfl
                  have z235 := H231.out.cell 6 rfl 2 rfl
                  have z236 := H231.out.cell 6 rfl 3 rfl
                  have z237 := H231.out.cell 1 rfl 0 rfl
                  have z238 := H231.out.cell 1 rfl 1 rfl
                  have z239 := H231.out.cell 1 rfl 2 rfl
                  have z240 := H231.out.cell 1 rfl 3 rfl
                  have z241 := H231.out.cell 4 rfl 0 rfl
                  have z242 := H231.out.cell 4 rfl 1 rfl
                  have z243 := H231.out.cell 4 rfl 2 rfl
                  have z244 := H231.out.cell 4 rfl 3 rfl
                  go_wp2_with fail
                  clear z233 z234 z235 z236 z237 z238 z239 z240 z241 z242 z243 z244
                  have gb := grow_blit (zs := ps4) (mx := pm4) HVps4.out (HIO.out) HNH.out HNW.out HTA.out HCT.out q1 q2 _ _ _ _ _ _ _ (H231.out.slc 5 rfl) (H231.out.slc 0 rfl)
                  rw [HAR.out] at gb
                  refine gb.mono ?_
                  clear gb
                  rintro e w245 ⟨v247, rfl, ho, hb⟩
                  have H246 := hid (H231.out.grow hb ho)
                  obtain ⟨v247a, v247c, rfl, _⟩ := ho.slc
                  clear ho hb
                  rw [gL_len, HNN.out] at H246 ⊢
                  obtain ⟨D248, hD248⟩ : ∃ D, w245.heap.size = D := ⟨_, rfl⟩
                  go_upto_region 21 with fail
                  have H249 := hid (show St B W [.cells D248 #[.int .i64 pw4, .int .i64 ph4, .int .i64 AR, .slice v247a NN v247c] 26, .own (.slice v247a NN v247c) (gL pw4 ps4 nh nw cols ntw nth (j + 1)), .own (.slice v222a ((tgL pw4 ps4 X Y qw qh).length) v222c) (tgL pw4 ps4 X Y qw qh), .cells D214 #[.int .i64 qw, .int .i64 qh, .int .i64 AR, .slice v222a ((tgL pw4 ps4 X Y qw qh).length) v222c] 26, .own (.slice xa ((tpL pw4 ps4 X Y kt).length) xc) (tpL pw4 ps4 X Y kt), .own (.slice ya ((lfL pw4 ps4 X Y kl).length) yc) (lfL pw4 ps4 X Y kl), .cells D58 #[.int .i64 X, .int .i64 Y, .int .i64 XE, .int .i64 YE] 39, .own (.slice ga NN gc) (gL pw4 ps4 nh nw cols ntw nth j), .cells D30 #[.int .i64 pw4, .int .i64 ph4, .int .i64 AR, .slice ga NN gc] 26, .cells D22 #[.int .i64 pw4, .int .i64 ph4, .int .i64 AR, .slice vqa NN vqc] 26, .own (.slice vqa NN vqc) (wList pw4 ps4 nh nw), .cells D13 #[.int .i64 pw4, .int .i64 ph4, .int .i64 pm4, .slice pv4a ps4.length pv4c] 26, .own (.slice pv4a ps4.length pv4c) ps4, .tape K1] [] (w245.alloc (.cells #[.int .i64 pw4, .int .i64 ph4, .int .i64 AR, .slice v247a NN v247c] 26)) from (H246.out.alloc #[.int .i64 pw4, .int .i64 ph4, .int .i64 AR, .slice v247a NN v247c] 26 hD248))
                  first | refine gen_code H249.out ?_ | refine gen_list H249.out ?_ | refine gen_calls H249.out ?_
                  intro w250 hG
                  clear H249
                  have H249 := hid hG
                  clear hG
                  clear hD248
                  have z251 := H249.out.cell 0 rfl 0 rfl
                  have z252 := H249.out.cell 0 rfl 1 rfl
                  have z253 := H249.out.cell 0 rfl 2 rfl
                  have z254 := H249.out.cell 0 rfl 3 rfl
                  have z255 := H249.out.cell 8 rfl 0 rfl
                  have z256 := H249.out.free 8 rfl 0
                  have z257 := H249.out.cell 8 rfl 1 rfl
                  have z258 := H249.out.free 8 rfl 1
                  have z259 := H249.out.cell 8 rfl 2 rfl
                  have z260 := H249.out.free 8 rfl 2
                  have z261 := H249.out.cell 8 rfl 3 rfl
                  have z262 := H249.out.free 8 rfl 3
                  go_upto_region 8 with fail
                  clear z251 z252 z253 z254 z255 z256 z257 z258 z259 z260 z261 z262
                  have H263 := hid (show St B W [.cells D248 #[.int .i64 pw4, .int .i64 ph4, .int .i64 AR, .slice v247a NN v247c] 26, .own (.slice v247a NN v247c) (gL pw4 ps4 nh nw cols ntw nth (j + 1)), .own (.slice v222a ((tgL pw4 ps4 X Y qw qh).length) v222c) (tgL pw4 ps4 X Y qw qh), .cells D214 #[.int .i64 qw, .int .i64 qh, .int .i64 AR, .slice v222a ((tgL pw4 ps4 X Y qw qh).length) v222c] 26, .own (.slice xa ((tpL pw4 ps4 X Y kt).length) xc) (tpL pw4 ps4 X Y kt), .own (.slice ya ((lfL pw4 ps4 X Y kl).length) yc) (lfL pw4 ps4 X Y kl), .cells D58 #[.int .i64 X, .int .i64 Y, .int .i64 XE, .int .i64 YE] 39, .own (.slice ga NN gc) (gL pw4 ps4 nh nw cols ntw nth j), .cells D30 #[.int .i64 pw4, .int .i64 ph4, .int .i64 AR, .slice v247a NN v247c] 26, .cells D22 #[.int .i64 pw4, .int .i64 ph4, .int .i64 AR, .slice vqa NN vqc] 26, .own (.slice vqa NN vqc) (wList pw4 ps4 nh nw), .cells D13 #[.int .i64 pw4, .int .i64 ph4, .int .i64 pm4, .slice pv4a ps4.length pv4c] 26, .own (.slice pv4a ps4.length pv4c) ps4, .tape K1] [] ((((w250.setCell ⟨D30, 0, none⟩ (.int .i64 pw4)).setCell ⟨D30, 1, none⟩ (.int .i64 ph4)).setCell ⟨D30, 2, none⟩ (.int .i64 AR)).setCell ⟨D30, 3, none⟩ (.slice v247a NN v247c)) from (H249.out.set4 8 rfl (.int .i64 pw4) (.int .i64 ph4) (.int .i64 AR) (.slice v247a NN v247c)))
                  first | refine gen_code H263.out ?_ | refine gen_list H263.out ?_ | refine gen_calls H263.out ?_
                  intro w264 hG
                  clear H263
                  have H263 := hid hG
                  clear hG
                  go_wp2_with fail
                  go_roundw
                  case rel => exact ⟨j + 1, _, _, by omega, by go_num, H263.out.pick [1, 8, 9, 10, 11, 12, 13] rfl (by decide)⟩
                  case measure => first | (simp [intOf]; omega) | (simp [intOf]; done)
      · skip
        have z265 := H49.out.cell 1 rfl 0 rfl
        have z266 := H49.out.cell 1 rfl 1 rfl
        have z267 := H49.out.cell 1 rfl 2 rfl
        have z268 := H49.out.cell 1 rfl 3 rfl
        have z269 := H49.out.cell 2 rfl 0 rfl
        have z270 := H49.out.cell 2 rfl 1 rfl
        have z271 := H49.out.cell 2 rfl 2 rfl
        have z272 := H49.out.cell 2 rfl 3 rfl
        go_wp2_with fail
        clear z265 z266 z267 z268 z269 z270 z271 z272
        refine (qequal_any _ _ _ _ _ _ (gL pw4 ps4 nh nw cols ntw nth j) _ _ _ _ _ _ (wList pw4 ps4 nh nw) _ (H49.out.slc 0 rfl) (H49.out.slc 3 rfl)).mono ?_
        rintro e w273 ⟨rfl, hb⟩
        have H274 := hid (H49.out.call hb)
        clear hb
        rw [show pEq pw4 ph4 AR (gL pw4 ps4 nh nw cols ntw nth j) pw4 ph4 AR (wList pw4 ps4 nh nw) = true from by rw [show j = cols * rows by have := HCR.out; omega, gL_all (by omega) (by omega) HCT.out HRT.out]; simp [pEq]]
        go_wp2_with fail
        refine (sane13 _).mono ?_
        rintro e w275 ⟨rfl, hb⟩
        have H276 := hid (H274.out.call hb)
        clear hb
        go_wp2_with fail
        go_ret
        exact ⟨rfl, by first | exact H276.out.below | exact H276.out.below'⟩
  · obtain ⟨D277, hD277⟩ : ∃ D, k26.heap.size = D := ⟨_, rfl⟩
    have H278 := hid (show St B W [.cells D277 #[.int .i64 0, .int .i64 0, .int .i64 0, .slice none 0 0] 26, .cells D22 #[.int .i64 pw4, .int .i64 ph4, .int .i64 AR, .slice vqa NN vqc] 26, .own (.slice vqa NN vqc) (wList pw4 ps4 nh nw), .cells D13 #[.int .i64 pw4, .int .i64 ph4, .int .i64 pm4, .slice pv4a ps4.length pv4c] 26, .own (.slice pv4a ps4.length pv4c) ps4, .tape K1] [] (k26.alloc (.cells #[.int .i64 0, .int .i64 0, .int .i64 0, .slice none 0 0] 26)) from (H25.out.alloc #[.int .i64 0, .int .i64 0, .int .i64 0, .slice none 0 0] 26 hD277))
    go_simp
    refine hK.out _ _ ?_ (fun hHeld2 => ?_)
    focus ((try dsimp only); (exact ⟨H278.out.cell 3 rfl 0 rfl, H278.out.cell 3 rfl 1 rfl, H278.out.cell 3 rfl 2 rfl, H278.out.cell 3 rfl 3 rfl, H278.out.cell 1 rfl 0 rfl, H278.out.cell 1 rfl 1 rfl, H278.out.cell 1 rfl 2 rfl, H278.out.cell 1 rfl 3 rfl⟩))
    clear hK K hHeld
    try simp only [Act.put, List.getElem_toArray, List.getElem_cons_zero, List.getElem_cons_succ, List.setIfInBounds_toArray, List.set_cons_zero, List.set_cons_succ]
    clear hD277
    generalize (k26.alloc (.cells #[.int .i64 0, .int .i64 0, .int .i64 0, .slice none 0 0] 26)) = k279 at *
    have hHeld := hHeld2
    clear hHeld2
    refine wpAnyH_ready (rs := [11]) (by kernel_rfl) (by simp) (AllReadyH.cons (o := _) rfl (fun K hK => ?_) AllReadyH.nil)
    skip
    obtain ⟨D280, hD280⟩ : ∃ L, k279.heap.size = L := ⟨_, rfl⟩
    have hBD280 : B ≤ D280 := by have := H278.out.size; omega
    rw [if_pos (by rfl)]
    refine oper_make_int _ _ rfl D280 _ _ NN rfl rfl (by first | rfl | exact HPQ.out) (by first | rfl | exact HPQ.out) (by omega) (by omega) ?_
    intro k281 ho hb
    rw [hD280] at ho ⊢
    have H282 := hid (H278.out.made hD280 ho hb)
    clear ho hb hD280 hBD280
    refine hK.out _ _ ?_ (fun hHeld2 => ?_)
    focus ((try dsimp only); (exact ⟨H282.out.cell 4 rfl 0 rfl, H282.out.cell 4 rfl 1 rfl, H282.out.cell 4 rfl 2 rfl, H282.out.cell 4 rfl 3 rfl, H282.out.cell 2 rfl 0 rfl, H282.out.cell 2 rfl 1 rfl, H282.out.cell 2 rfl 2 rfl, H282.out.cell 2 rfl 3 rfl⟩))
    clear hK K
    try simp only [Act.put, List.getElem_toArray, List.getElem_cons_zero, List.getElem_cons_succ, List.setIfInBounds_toArray, List.set_cons_zero, List.set_cons_succ]
    clear hHeld
    have hHeld := hHeld2
    clear hHeld2
    refine wpAnyH_take (i := 12) (oi := _) (v := ?_) rfl (by kernel_rfl) (by kernel_rfl) (by kernel_rfl) (fun _ _ _ h => h) (Or.inl ⟨by rfl, ?_⟩) (by assumption) ?_
    rotate_left
    focus (intro wS hSw; (try dsimp only at hSw); go_simp; (try with_reducible rfl))
    try simp only [Act.put, List.getElem_toArray, List.getElem_cons_zero, List.getElem_cons_succ, List.setIfInBounds_toArray, List.set_cons_zero, List.set_cons_succ]
    refine wpAnyH_ready (rs := [14]) (by kernel_rfl) (by simp) (AllReadyH.cons (o := _) rfl (fun K hK => ?_) AllReadyH.nil)
    have z283 := H282.out.cell 1 rfl 0 rfl
    have z284 := H282.out.free 1 rfl 0
    have z285 := H282.out.cell 1 rfl 1 rfl
    have z286 := H282.out.free 1 rfl 1
    have z287 := H282.out.cell 1 rfl 2 rfl
    have z288 := H282.out.free 1 rfl 2
    have z289 := H282.out.cell 1 rfl 3 rfl
    have z290 := H282.out.free 1 rfl 3
    have H291 := hid (show St B W [.own (.slice (some ⟨D280, 0, none⟩) NN NN) (List.replicate NN 0), .cells D277 #[.int .i64 pw4, .int .i64 ph4, .int .i64 AR, .slice (some ⟨D280, 0, none⟩) NN NN] 26, .cells D22 #[.int .i64 pw4, .int .i64 ph4, .int .i64 AR, .slice vqa NN vqc] 26, .own (.slice vqa NN vqc) (wList pw4 ps4 nh nw), .cells D13 #[.int .i64 pw4, .int .i64 ph4, .int .i64 pm4, .slice pv4a ps4.length pv4c] 26, .own (.slice pv4a ps4.length pv4c) ps4, .tape K1] [] ((((k281.setCell ⟨D277, 0, none⟩ (.int .i64 pw4)).setCell ⟨D277, 1, none⟩ (.int .i64 ph4)).setCell ⟨D277, 2, none⟩ (.int .i64 AR)).setCell ⟨D277, 3, none⟩ (.slice (some ⟨D280, 0, none⟩) NN NN)) from (H282.out.set4 1 rfl (.int .i64 pw4) (.int .i64 ph4) (.int .i64 AR) (.slice (some ⟨D280, 0, none⟩) NN NN)))
    go_simp
    refine hK.out _ _ ?_ (fun hHeld2 => ?_)
    focus ((try dsimp only); (exact ⟨H291.out.cell 4 rfl 0 rfl, H291.out.cell 4 rfl 1 rfl, H291.out.cell 4 rfl 2 rfl, H291.out.cell 4 rfl 3 rfl, H291.out.cell 2 rfl 0 rfl, H291.out.cell 2 rfl 1 rfl, H291.out.cell 2 rfl 2 rfl, H291.out.cell 2 rfl 3 rfl⟩))
    clear hK K hHeld
    try simp only [Act.put, List.getElem_toArray, List.getElem_cons_zero, List.getElem_cons_succ, List.setIfInBounds_toArray, List.set_cons_zero, List.set_cons_succ]
    clear z283 z284 z285 z286 z287 z288 z289 z290
    generalize ((((k281.setCell ⟨D277, 0, none⟩ (.int .i64 pw4)).setCell ⟨D277, 1, none⟩ (.int .i64 ph4)).setCell ⟨D277, 2, none⟩ (.int .i64 AR)).setCell ⟨D277, 3, none⟩ (.slice (some ⟨D280, 0, none⟩) NN NN)) = k292 at *
    have hHeld := hHeld2
    clear hHeld2
    refine wpAnyH_done (by kernel_rfl) ?_ _
    try clear hHeld
    have z293 := H291.out.cell 4 rfl 0 rfl
    have z294 := H291.out.cell 4 rfl 1 rfl
    have z295 := H291.out.cell 4 rfl 2 rfl
    have z296 := H291.out.cell 4 rfl 3 rfl
    go_wp2_with fail
    clear z293 z294 z295 z296
    obtain ⟨ntw, hntw⟩ : ∃ m : Nat, 1 + x7 = m := ⟨(1 + x7).toNat, by omega⟩
    obtain ⟨ntw1, ntw2⟩ : 1 ≤ ntw ∧ ntw ≤ 3 := by omega
    rw [hntw]
    clear hntw
    obtain ⟨nth, hnth⟩ : ∃ m : Nat, 1 + x10 = m := ⟨(1 + x10).toNat, by omega⟩
    obtain ⟨nth1, nth2⟩ : 1 ≤ nth ∧ nth ≤ 3 := by omega
    rw [hnth]
    clear hnth
    refine (count_any _ _ _ _ _).mono ?_
    rintro e w297 ⟨rfl, hsw⟩
    have hsw2 : k292 = w297 := by first | exact hsw | exact hsw.symm
    clear hsw
    subst hsw2
    have HG := hid (show gOk pw4 ph4 ntw nth = true from gOk_iff.2 (by omega))
    obtain ⟨cols, rows, hcols, hrows, co1, ro1, co2, ro2, co3, ro3⟩ := grow_count HNH.out HNW.out rfl rfl HG.out
    rw [hcols, hrows]
    have HCO := hid hcols
    have HRO := hid hrows
    have HCT := hid co3
    have HRT := hid ro3
    have hcr := Nat.mul_le_mul co2 ro2
    obtain ⟨CR, hCR⟩ : ∃ N : Nat, cols * rows = N := ⟨_, rfl⟩
    rw [hCR] at hcr
    have HCR := hid hCR
    have hCI : (cols : Int) * (rows : Int) = CR := by rw [← hCR]; simp
    have w1 : IntKind.i64.wrap (CR : Int) = CR := IntWalk.i64_in _ (by omega)
    clear hCR hcols hrows co3 ro3
    go_wp2_with fail
    go_loopw [12] (fun i wr => ∃ (j : Nat) (ga : Option Addr) (gc : Nat), j ≤ CR ∧ i = .int .i64 j ∧ St B W [.own (.slice ga NN gc) (gL pw4 ps4 nh nw cols ntw nth j), .cells D277 #[.int .i64 pw4, .int .i64 ph4, .int .i64 AR, .slice ga NN gc] 26, .cells D22 #[.int .i64 pw4, .int .i64 ph4, .int .i64 AR, .slice vqa NN vqc] 26, .own (.slice vqa NN vqc) (wList pw4 ps4 nh nw), .cells D13 #[.int .i64 pw4, .int .i64 ph4, .int .i64 pm4, .slice pv4a ps4.length pv4c] 26, .own (.slice pv4a ps4.length pv4c) ps4, .tape K1] [] wr) (fun i _ => CR - (intOf i).toNat)
    case atStart => exact ⟨0, _, _, by omega, rfl, by rw [gL_zero, HNN.out]; exact H291.out.pick [0, 1, 2, 3, 4, 5, 6] rfl (by decide)⟩
    case round =>
      obtain ⟨j, ga, gc, hj, rfl, hst⟩ := hrel
      obtain ⟨u298, rfl⟩ : ∃ u298 : World, u298 = wr := ⟨_, rfl⟩
      have H299 := hid hst
      clear hst
      by_cases c300 : (j : Int) < CR
      · skip
        have z301 := H299.out.cell 4 rfl 0 rfl
        have z302 := H299.out.cell 4 rfl 1 rfl
        have z303 := H299.out.cell 4 rfl 2 rfl
        have z304 := H299.out.cell 4 rfl 3 rfl
        go_wp2_with fail
        clear z301 z302 z303 z304
        refine (tile_any _ _ _ _ _ _ (by omega)).mono ?_
        rintro e w305 ⟨rfl, hb⟩
        have H306 := hid (H299.out.call hb)
        clear hb
        obtain ⟨ra, rb, X, Y, qw, qh, hta, q1, q2, q3, q4, t0, t1, t2, t3⟩ := grow_at HNH.out HNW.out rfl rfl HG.out HCO.out HRO.out (i := j) (by have := HCR.out; omega)
        rw [t0, t1, t2, t3]
        have HTA := hid hta
        clear hta t0 t1 t2 t3
        obtain ⟨XE, hXE⟩ : ∃ z : Nat, X + qw = z := ⟨_, rfl⟩
        obtain ⟨YE, hYE⟩ : ∃ z : Nat, Y + qh = z := ⟨_, rfl⟩
        rw [hXE, hYE]
        obtain ⟨xe1, xe2, ye1, ye2⟩ : X + qw ≤ XE ∧ XE ≤ X + qw ∧ Y + qh ≤ YE ∧ YE ≤ Y + qh := by omega
        clear hXE hYE
        obtain ⟨b307, hb307⟩ : ∃ xx', gTok pw4 ph4 ntw nth j = xx' := ⟨_, rfl⟩
        rw [hb307]
        have HNb307 := hid hb307
        clear hb307
        obtain ⟨D308, hD308⟩ : ∃ D, w305.heap.size = D := ⟨_, rfl⟩
        go_upto_region 10 with fail
        have H309 := hid (show St B W [.cells D308 #[.int .i64 X, .int .i64 Y, .int .i64 XE, .int .i64 YE] 39, .own (.slice ga NN gc) (gL pw4 ps4 nh nw cols ntw nth j), .cells D277 #[.int .i64 pw4, .int .i64 ph4, .int .i64 AR, .slice ga NN gc] 26, .cells D22 #[.int .i64 pw4, .int .i64 ph4, .int .i64 AR, .slice vqa NN vqc] 26, .own (.slice vqa NN vqc) (wList pw4 ps4 nh nw), .cells D13 #[.int .i64 pw4, .int .i64 ph4, .int .i64 pm4, .slice pv4a ps4.length pv4c] 26, .own (.slice pv4a ps4.length pv4c) ps4, .tape K1] [] (w305.alloc (.cells #[.int .i64 X, .int .i64 Y, .int .i64 XE, .int .i64 YE] 39)) from (H306.out.alloc #[.int .i64 X, .int .i64 Y, .int .i64 XE, .int .i64 YE] 39 hD308))
        first | refine gen_code H309.out ?_ | refine gen_list H309.out ?_ | refine gen_calls H309.out ?_
        intro w310 hG
        clear H309
        have H309 := hid hG
        clear hG
        clear hD308
        have z311 := H309.out.cell 0 rfl 0 rfl
        have z312 := H309.out.cell 0 rfl 1 rfl
        have z313 := H309.out.cell 0 rfl 2 rfl
        have z314 := H309.out.cell 0 rfl 3 rfl
        go_wp2_with fail
        clear z311 z312 z313 z314
        have H315 := hid (show St B W [.own (.slice none 0 0) ([]), .cells D308 #[.int .i64 X, .int .i64 Y, .int .i64 XE, .int .i64 YE] 39, .own (.slice ga NN gc) (gL pw4 ps4 nh nw cols ntw nth j), .cells D277 #[.int .i64 pw4, .int .i64 ph4, .int .i64 AR, .slice ga NN gc] 26, .cells D22 #[.int .i64 pw4, .int .i64 ph4, .int .i64 AR, .slice vqa NN vqc] 26, .own (.slice vqa NN vqc) (wList pw4 ps4 nh nw), .cells D13 #[.int .i64 pw4, .int .i64 ph4, .int .i64 pm4, .slice pv4a ps4.length pv4c] 26, .own (.slice pv4a ps4.length pv4c) ps4, .tape K1] [] w310 from H309.out.grow (Below.refl _ _) (Own.nil _ _))
        go_loopw [15, 17] (fun v i wr => ∃ (jy kl : Nat) (ya : Option Addr) (yc : Nat), jy ≤ Y + kl ∧ Y + kl ≤ jy ∧ jy ≤ YE ∧ v = .slice ya ((lfL pw4 ps4 X Y kl).length) yc ∧ i = .int .i64 jy ∧ St B W [.own (.slice ya ((lfL pw4 ps4 X Y kl).length) yc) (lfL pw4 ps4 X Y kl), .cells D308 #[.int .i64 X, .int .i64 Y, .int .i64 XE, .int .i64 YE] 39, .own (.slice ga NN gc) (gL pw4 ps4 nh nw cols ntw nth j), .cells D277 #[.int .i64 pw4, .int .i64 ph4, .int .i64 AR, .slice ga NN gc] 26, .cells D22 #[.int .i64 pw4, .int .i64 ph4, .int .i64 AR, .slice vqa NN vqc] 26, .own (.slice vqa NN vqc) (wList pw4 ps4 nh nw), .cells D13 #[.int .i64 pw4, .int .i64 ph4, .int .i64 pm4, .slice pv4a ps4.length pv4c] 26, .own (.slice pv4a ps4.length pv4c) ps4, .tape K1] [] wr) (fun _ i _ => YE - (intOf i).toNat)
        case atStart => exact ⟨Y, 0, _, _, by omega, by omega, by omega, by rfl, rfl, H315.out⟩
        case round =>
          obtain ⟨jy, kl, ya, yc, hy1, hy2, hy3, rfl, rfl, hst⟩ := hrel
          obtain ⟨u316, rfl⟩ : ∃ u316 : World, u316 = wr := ⟨_, rfl⟩
          have H317 := hid hst
          clear hst
          have hll : (lfL pw4 ps4 X Y kl).length ≤ 200 := by rw [lfL_len]; omega
          by_cases hx88 : (jy : Int) < YE
          · skip
            have z318 := H317.out.cell 1 rfl 0 rfl
            have z319 := H317.out.cell 1 rfl 1 rfl
            have z320 := H317.out.cell 1 rfl 2 rfl
            have z321 := H317.out.cell 1 rfl 3 rfl
            have z322 := H317.out.cell 3 rfl 0 rfl
            have z323 := H317.out.cell 3 rfl 1 rfl
            have z324 := H317.out.cell 3 rfl 2 rfl
            have z325 := H317.out.cell 3 rfl 3 rfl
            go_wp2_with fail
            clear z318 z319 z320 z321 z322 z323 z324 z325
            refine (lawat_any _ _ _ _ _ _ _ _ (gL pw4 ps4 nh nw cols ntw nth j) _ (H317.out.slc 2 rfl) (by have := HPQ.out; omega) (by omega) (by omega) (by omega) (by have := HPQ.out; omega) (by omega) (by omega) (by omega) (by omega)).mono ?_
            rintro e w326 ⟨rfl, hb⟩
            have H327 := hid (H317.out.call hb)
            clear hb
            have hle := gL_left (zs := ps4) HNW.out HTA.out (r := jy + 1) (c := X) (by omega) (by omega) (by omega)
            rw [show (((X : Nat) : Int) - 1) = X - 1 by omega, show (((jy + 1 : Nat) : Int) - 1) = jy by omega] at hle
            rw [hle]
            clear hle
            obtain ⟨z328, hz328⟩ : ∃ z, rowsS pw4 ps4 0 0 (jy + 1) (X) = z := ⟨_, rfl⟩
            rw [hz328]
            have Hz328 := hid hz328
            clear hz328
            obtain ⟨D329, hD329⟩ : ∃ D, w326.heap.size = D := ⟨_, rfl⟩
            have H330 := hid (show St B W [.cells D329 #[.int .i64 z328] 3, .own (.slice ya ((lfL pw4 ps4 X Y kl).length) yc) (lfL pw4 ps4 X Y kl), .cells D308 #[.int .i64 X, .int .i64 Y, .int .i64 XE, .int .i64 YE] 39, .own (.slice ga NN gc) (gL pw4 ps4 nh nw cols ntw nth j), .cells D277 #[.int .i64 pw4, .int .i64 ph4, .int .i64 AR, .slice ga NN gc] 26, .cells D22 #[.int .i64 pw4, .int .i64 ph4, .int .i64 AR, .slice vqa NN vqc] 26, .own (.slice vqa NN vqc) (wList pw4 ps4 nh nw), .cells D13 #[.int .i64 pw4, .int .i64 ph4, .int .i64 pm4, .slice pv4a ps4.length pv4c] 26, .own (.slice pv4a ps4.length pv4c) ps4, .tape K1] [] (w326.alloc (.cells #[.int .i64 z328] 3)) from (H327.out.alloc #[.int .i64 z328] 3 hD329))
            go_upto_region 13 with (at_builtin; refine append_int rfl _ _ rfl B _ (lfL pw4 ps4 X Y kl) z328 D329 1 rfl rfl (H330.out.own 1 rfl) (H330.out.cell 0 rfl 0 rfl) (by omega) H330.out.size ?_; intro v333 w334 ho hg hv; have H331 := hid (H330.out.append 1 rfl ho hg hv); clear ho hg hv)
            clear H330
            obtain ⟨v333a, v333c, hva, _⟩ := (H331.out.own 1 rfl).slc
            subst hva
            have H332 := hid (show St B W [.own (.slice v333a (((lfL pw4 ps4 X Y kl) ++ [z328]).length) v333c) ((lfL pw4 ps4 X Y kl) ++ [z328]), .cells D308 #[.int .i64 X, .int .i64 Y, .int .i64 XE, .int .i64 YE] 39, .own (.slice ga NN gc) (gL pw4 ps4 nh nw cols ntw nth j), .cells D277 #[.int .i64 pw4, .int .i64 ph4, .int .i64 AR, .slice ga NN gc] 26, .cells D22 #[.int .i64 pw4, .int .i64 ph4, .int .i64 AR, .slice vqa NN vqc] 26, .own (.slice vqa NN vqc) (wList pw4 ps4 nh nw), .cells D13 #[.int .i64 pw4, .int .i64 ph4, .int .i64 pm4, .slice pv4a ps4.length pv4c] 26, .own (.slice pv4a ps4.length pv4c) ps4, .tape K1] [] w334 from H331.out.pick [1, 2, 3, 4, 5, 6, 7, 8, 9] rfl (by decide))
            clear hD329
            go_wp2_with fail
            have hnx := lfL_next pw4 ps4 X Y kl
            rw [show Y + kl + 1 = jy + 1 by omega, Hz328.out] at hnx
            rw [← hnx] at H332 ⊢
            clear hnx
            go_roundw
            case rel => exact ⟨jy + 1, kl + 1, _, _, by omega, by omega, by omega, rfl, by go_num, H332.out⟩
            case measure => first | (simp [intOf]; omega) | (simp [intOf]; done)
          · skip
            have HKL := hid (show kl = qh from by omega)
            have z335 := H317.out.cell 1 rfl 0 rfl
            have z336 := H317.out.cell 1 rfl 1 rfl
            have z337 := H317.out.cell 1 rfl 2 rfl
            have z338 := H317.out.cell 1 rfl 3 rfl
            go_wp2_with fail
            clear z335 z336 z337 z338
            have H339 := hid (show St B W [.own (.slice none 0 0) ([]), .own (.slice ya ((lfL pw4 ps4 X Y kl).length) yc) (lfL pw4 ps4 X Y kl), .cells D308 #[.int .i64 X, .int .i64 Y, .int .i64 XE, .int .i64 YE] 39, .own (.slice ga NN gc) (gL pw4 ps4 nh nw cols ntw nth j), .cells D277 #[.int .i64 pw4, .int .i64 ph4, .int .i64 AR, .slice ga NN gc] 26, .cells D22 #[.int .i64 pw4, .int .i64 ph4, .int .i64 AR, .slice vqa NN vqc] 26, .own (.slice vqa NN vqc) (wList pw4 ps4 nh nw), .cells D13 #[.int .i64 pw4, .int .i64 ph4, .int .i64 pm4, .slice pv4a ps4.length pv4c] 26, .own (.slice pv4a ps4.length pv4c) ps4, .tape K1] [] u316 from H317.out.grow (Below.refl _ _) (Own.nil _ _))
            go_loopw [16, 18] (fun v i wr => ∃ (jx kt : Nat) (xa : Option Addr) (xc : Nat), jx ≤ X + kt ∧ X + kt ≤ jx ∧ jx ≤ XE ∧ v = .slice xa ((tpL pw4 ps4 X Y kt).length) xc ∧ i = .int .i64 jx ∧ St B W [.own (.slice xa ((tpL pw4 ps4 X Y kt).length) xc) (tpL pw4 ps4 X Y kt), .own (.slice ya ((lfL pw4 ps4 X Y kl).length) yc) (lfL pw4 ps4 X Y kl), .cells D308 #[.int .i64 X, .int .i64 Y, .int .i64 XE, .int .i64 YE] 39, .own (.slice ga NN gc) (gL pw4 ps4 nh nw cols ntw nth j), .cells D277 #[.int .i64 pw4, .int .i64 ph4, .int .i64 AR, .slice ga NN gc] 26, .cells D22 #[.int .i64 pw4, .int .i64 ph4, .int .i64 AR, .slice vqa NN vqc] 26, .own (.slice vqa NN vqc) (wList pw4 ps4 nh nw), .cells D13 #[.int .i64 pw4, .int .i64 ph4, .int .i64 pm4, .slice pv4a ps4.length pv4c] 26, .own (.slice pv4a ps4.length pv4c) ps4, .tape K1] [] wr) (fun _ i _ => XE - (intOf i).toNat)
            case atStart => exact ⟨X, 0, _, _, by omega, by omega, by omega, by rfl, rfl, H339.out⟩
            case round =>
              obtain ⟨jx, kt, xa, xc, hx1, hx2, hx3, rfl, rfl, hst⟩ := hrel
              obtain ⟨u340, rfl⟩ : ∃ u340 : World, u340 = wr := ⟨_, rfl⟩
              have H341 := hid hst
              clear hst
              have hll : (tpL pw4 ps4 X Y kt).length ≤ 200 := by rw [tpL_len]; omega
              by_cases hx105 : (jx : Int) < XE
              · skip
                have z342 := H341.out.cell 2 rfl 0 rfl
                have z343 := H341.out.cell 2 rfl 1 rfl
                have z344 := H341.out.cell 2 rfl 2 rfl
                have z345 := H341.out.cell 2 rfl 3 rfl
                have z346 := H341.out.cell 4 rfl 0 rfl
                have z347 := H341.out.cell 4 rfl 1 rfl
                have z348 := H341.out.cell 4 rfl 2 rfl
                have z349 := H341.out.cell 4 rfl 3 rfl
                go_wp2_with fail
                clear z342 z343 z344 z345 z346 z347 z348 z349
                refine (lawat_any _ _ _ _ _ _ _ _ (gL pw4 ps4 nh nw cols ntw nth j) _ (H341.out.slc 3 rfl) (by have := HPQ.out; omega) (by omega) (by omega) (by omega) (by have := HPQ.out; omega) (by omega) (by omega) (by omega) (by omega)).mono ?_
                rintro e w350 ⟨rfl, hb⟩
                have H351 := hid (H341.out.call hb)
                clear hb
                have hle := gL_left (zs := ps4) HNW.out HTA.out (r := Y) (c := jx + 1) (by omega) (by omega) (by omega)
                rw [show (((jx + 1 : Nat) : Int) - 1) = jx by omega, show (((Y : Nat) : Int) - 1) = Y - 1 by omega] at hle
                rw [hle]
                clear hle
                obtain ⟨z352, hz352⟩ : ∃ z, rowsS pw4 ps4 0 0 (Y) (jx + 1) = z := ⟨_, rfl⟩
                rw [hz352]
                have Hz352 := hid hz352
                clear hz352
                obtain ⟨D353, hD353⟩ : ∃ D, w350.heap.size = D := ⟨_, rfl⟩
                have H354 := hid (show St B W [.cells D353 #[.int .i64 z352] 3, .own (.slice xa ((tpL pw4 ps4 X Y kt).length) xc) (tpL pw4 ps4 X Y kt), .own (.slice ya ((lfL pw4 ps4 X Y kl).length) yc) (lfL pw4 ps4 X Y kl), .cells D308 #[.int .i64 X, .int .i64 Y, .int .i64 XE, .int .i64 YE] 39, .own (.slice ga NN gc) (gL pw4 ps4 nh nw cols ntw nth j), .cells D277 #[.int .i64 pw4, .int .i64 ph4, .int .i64 AR, .slice ga NN gc] 26, .cells D22 #[.int .i64 pw4, .int .i64 ph4, .int .i64 AR, .slice vqa NN vqc] 26, .own (.slice vqa NN vqc) (wList pw4 ps4 nh nw), .cells D13 #[.int .i64 pw4, .int .i64 ph4, .int .i64 pm4, .slice pv4a ps4.length pv4c] 26, .own (.slice pv4a ps4.length pv4c) ps4, .tape K1] [] (w350.alloc (.cells #[.int .i64 z352] 3)) from (H351.out.alloc #[.int .i64 z352] 3 hD353))
                go_upto_region 17 with (at_builtin; refine append_int rfl _ _ rfl B _ (tpL pw4 ps4 X Y kt) z352 D353 1 rfl rfl (H354.out.own 1 rfl) (H354.out.cell 0 rfl 0 rfl) (by omega) H354.out.size ?_; intro v357 w358 ho hg hv; have H355 := hid (H354.out.append 1 rfl ho hg hv); clear ho hg hv)
                clear H354
                obtain ⟨v357a, v357c, hva, _⟩ := (H355.out.own 1 rfl).slc
                subst hva
                have H356 := hid (show St B W [.own (.slice v357a (((tpL pw4 ps4 X Y kt) ++ [z352]).length) v357c) ((tpL pw4 ps4 X Y kt) ++ [z352]), .own (.slice ya ((lfL pw4 ps4 X Y kl).length) yc) (lfL pw4 ps4 X Y kl), .cells D308 #[.int .i64 X, .int .i64 Y, .int .i64 XE, .int .i64 YE] 39, .own (.slice ga NN gc) (gL pw4 ps4 nh nw cols ntw nth j), .cells D277 #[.int .i64 pw4, .int .i64 ph4, .int .i64 AR, .slice ga NN gc] 26, .cells D22 #[.int .i64 pw4, .int .i64 ph4, .int .i64 AR, .slice vqa NN vqc] 26, .own (.slice vqa NN vqc) (wList pw4 ps4 nh nw), .cells D13 #[.int .i64 pw4, .int .i64 ph4, .int .i64 pm4, .slice pv4a ps4.length pv4c] 26, .own (.slice pv4a ps4.length pv4c) ps4, .tape K1] [] w358 from H355.out.pick [1, 2, 3, 4, 5, 6, 7, 8, 9, 10] rfl (by decide))
                clear hD353
                go_wp2_with fail
                have hnx := tpL_next pw4 ps4 X Y kt
                rw [show X + kt + 1 = jx + 1 by omega, Hz352.out] at hnx
                rw [← hnx] at H356 ⊢
                clear hnx
                go_roundw
                case rel => exact ⟨jx + 1, kt + 1, _, _, by omega, by omega, by omega, rfl, by go_num, H356.out⟩
                case measure => first | (simp [intOf]; omega) | (simp [intOf]; done)
              · skip
                have HKT := hid (show kt = qw from by omega)
                have z359 := H341.out.cell 2 rfl 0 rfl
                have z360 := H341.out.cell 2 rfl 1 rfl
                have z361 := H341.out.cell 2 rfl 2 rfl
                have z362 := H341.out.cell 2 rfl 3 rfl
                go_upto_region 19 with fail
                clear z359 z360 z361 z362
                have wX : IntKind.i64.wrap ((X : Int) - 1) = X - 1 := IntWalk.i64_in _ (by omega)
                have wY : IntKind.i64.wrap ((Y : Int) - 1) = Y - 1 := IntWalk.i64_in _ (by omega)
                have H363 := hid H341.out.drew
                refine wp_region_held_drew (S := (fun w' => w'.cell? ⟨D13, 0, none⟩ = some (.int .i64 pw4) ∧ w'.cell? ⟨D13, 1, none⟩ = some (.int .i64 ph4) ∧ w'.cell? ⟨D13, 2, none⟩ = some (.int .i64 pm4) ∧ w'.cell? ⟨D13, 3, none⟩ = some (.slice pv4a ps4.length pv4c) ∧ w'.cell? ⟨D308, 0, none⟩ = some (.int .i64 X) ∧ w'.cell? ⟨D308, 1, none⟩ = some (.int .i64 Y) ∧ w'.cell? ⟨D308, 2, none⟩ = some (.int .i64 XE) ∧ w'.cell? ⟨D308, 3, none⟩ = some (.int .i64 YE) ∧ w'.cell? ⟨D277, 0, none⟩ = some (.int .i64 pw4) ∧ w'.cell? ⟨D277, 1, none⟩ = some (.int .i64 ph4) ∧ w'.cell? ⟨D277, 2, none⟩ = some (.int .i64 AR) ∧ w'.cell? ⟨D277, 3, none⟩ = some (.slice ga NN gc))) (by kernel_rfl) ⟨H363.out.cell 7 rfl 0 rfl, H363.out.cell 7 rfl 1 rfl, H363.out.cell 7 rfl 2 rfl, H363.out.cell 7 rfl 3 rfl, H363.out.cell 2 rfl 0 rfl, H363.out.cell 2 rfl 1 rfl, H363.out.cell 2 rfl 2 rfl, H363.out.cell 2 rfl 3 rfl, H363.out.cell 4 rfl 0 rfl, H363.out.cell 4 rfl 1 rfl, H363.out.cell 4 rfl 2 rfl, H363.out.cell 4 rfl 3 rfl⟩ (fun hHeld => ?_)
                generalize u340.drew = k364 at *
                refine wpAnyH_take (i := 0) (oi := _) (v := ?_) rfl (by kernel_rfl) (by kernel_rfl) (by kernel_rfl) (fun _ _ _ h => h) (Or.inl ⟨by rfl, ?_⟩) (by assumption) ?_
                rotate_left
                focus (intro wS hSw; (try dsimp only at hSw); go_simp; (try with_reducible rfl))
                try simp only [Act.put, List.getElem_toArray, List.getElem_cons_zero, List.getElem_cons_succ, List.setIfInBounds_toArray, List.set_cons_zero, List.set_cons_succ]
                refine wpAnyH_take (i := 1) (oi := _) (v := ?_) rfl (by kernel_rfl) (by kernel_rfl) (by kernel_rfl) (fun _ _ _ h => h) (Or.inl ⟨by rfl, ?_⟩) (by assumption) ?_
                rotate_left
                focus (intro wS hSw; (try dsimp only at hSw); go_simp; (try with_reducible rfl))
                try simp only [Act.put, List.getElem_toArray, List.getElem_cons_zero, List.getElem_cons_succ, List.setIfInBounds_toArray, List.set_cons_zero, List.set_cons_succ]
                refine wpAnyH_take (i := 2) (oi := _) (v := ?_) rfl (by kernel_rfl) (by kernel_rfl) (by kernel_rfl) (fun _ _ _ h => h) (Or.inl ⟨by rfl, ?_⟩) (by assumption) ?_
                rotate_left
                focus (intro wS hSw; (try dsimp only at hSw); go_simp; (try with_reducible rfl))
                try simp only [Act.put, List.getElem_toArray, List.getElem_cons_zero, List.getElem_cons_succ, List.setIfInBounds_toArray, List.set_cons_zero, List.set_cons_succ]
                refine wpAnyH_take (i := 3) (oi := _) (v := ?_) rfl (by kernel_rfl) (by kernel_rfl) (by kernel_rfl) (fun _ _ _ h => h) (Or.inl ⟨by rfl, ?_⟩) (by assumption) ?_
                rotate_left
                focus (intro wS hSw; (try dsimp only at hSw); go_simp; (try with_reducible rfl))
                try simp only [Act.put, List.getElem_toArray, List.getElem_cons_zero, List.getElem_cons_succ, List.setIfInBounds_toArray, List.set_cons_zero, List.set_cons_succ]
                refine wpAnyH_take (i := 4) (oi := _) (v := ?_) rfl (by kernel_rfl) (by kernel_rfl) (by kernel_rfl) (fun _ _ _ h => h) (Or.inl ⟨by rfl, ?_⟩) (by assumption) ?_
                rotate_left
                focus (intro wS hSw; (try dsimp only at hSw); go_simp; (try with_reducible rfl))
                try simp only [Act.put, List.getElem_toArray, List.getElem_cons_zero, List.getElem_cons_succ, List.setIfInBounds_toArray, List.set_cons_zero, List.set_cons_succ]
                refine wpAnyH_take (i := 5) (oi := _) (v := ?_) rfl (by kernel_rfl) (by kernel_rfl) (by kernel_rfl) (fun _ _ _ h => h) (Or.inl ⟨by rfl, ?_⟩) (by assumption) ?_
                rotate_left
                focus (intro wS hSw; (try dsimp only at hSw); go_simp; (try with_reducible rfl))
                try simp only [Act.put, List.getElem_toArray, List.getElem_cons_zero, List.getElem_cons_succ, List.setIfInBounds_toArray, List.set_cons_zero, List.set_cons_succ]
                refine wpAnyH_take (i := 6) (oi := _) (v := ?_) rfl (by kernel_rfl) (by kernel_rfl) (by kernel_rfl) (fun _ _ _ h => h) (Or.inl ⟨by rfl, ?_⟩) (by assumption) ?_
                rotate_left
                focus (intro wS hSw; (try dsimp only at hSw); go_simp; (try with_reducible rfl))
                try simp only [Act.put, List.getElem_toArray, List.getElem_cons_zero, List.getElem_cons_succ, List.setIfInBounds_toArray, List.set_cons_zero, List.set_cons_succ]
                refine wpAnyH_take (i := 7) (oi := _) (v := ?_) rfl (by kernel_rfl) (by kernel_rfl) (by kernel_rfl) (fun _ _ _ h => h) (Or.inl ⟨by rfl, ?_⟩) (by assumption) ?_
                rotate_left
                focus (intro wS hSw; (try dsimp only at hSw); go_simp; (try with_reducible rfl))
                try simp only [Act.put, List.getElem_toArray, List.getElem_cons_zero, List.getElem_cons_succ, List.setIfInBounds_toArray, List.set_cons_zero, List.set_cons_succ]
                refine wpAnyH_take (i := 8) (oi := _) (v := ?_) rfl (by kernel_rfl) (by kernel_rfl) (by kernel_rfl) (fun _ _ _ h => h) (Or.inl ⟨by rfl, ?_⟩) (by assumption) ?_
                rotate_left
                focus (intro wS hSw; (try dsimp only at hSw); go_simp; (try with_reducible rfl))
                try simp only [Act.put, List.getElem_toArray, List.getElem_cons_zero, List.getElem_cons_succ, List.setIfInBounds_toArray, List.set_cons_zero, List.set_cons_succ]
                refine wpAnyH_take (i := 9) (oi := _) (v := ?_) rfl (by kernel_rfl) (by kernel_rfl) (by kernel_rfl) (fun _ _ _ h => h) (Or.inl ⟨by rfl, ?_⟩) (by assumption) ?_
                rotate_left
                focus (intro wS hSw; (try dsimp only at hSw); go_simp; (try with_reducible rfl))
                try simp only [Act.put, List.getElem_toArray, List.getElem_cons_zero, List.getElem_cons_succ, List.setIfInBounds_toArray, List.set_cons_zero, List.set_cons_succ]
                refine wpAnyH_take (i := 10) (oi := _) (v := ?_) rfl (by kernel_rfl) (by kernel_rfl) (by kernel_rfl) (fun _ _ _ h => h) (Or.inl ⟨by rfl, ?_⟩) (by assumption) ?_
                rotate_left
                focus (intro wS hSw; (try dsimp only at hSw); go_simp; (try with_reducible rfl))
                try simp only [Act.put, List.getElem_toArray, List.getElem_cons_zero, List.getElem_cons_succ, List.setIfInBounds_toArray, List.set_cons_zero, List.set_cons_succ]
                refine wpAnyH_ready (rs := [11, 16]) (by kernel_rfl) (by simp) (AllReadyH.cons (o := _) rfl (fun K hK => ?_) (AllReadyH.cons (o := _) rfl (fun K hK => ?_) AllReadyH.nil))
                · go_simp
                  go_at_call 64
                  refine (lawat_any _ _ _ _ _ _ _ _ (gL pw4 ps4 nh nw cols ntw nth j) _ (H363.out.slc 3 rfl) (by have := HPQ.out; omega) (by omega) (by omega) (by omega) (by have := HPQ.out; omega) (by omega) (by omega) (by omega) (by omega)).mono ?_
                  rintro e w365 ⟨rfl, hb⟩
                  have H366 := hid (H363.out.call hb)
                  clear hb
                  have hle := gL_left (zs := ps4) HNW.out HTA.out (r := Y) (c := X) (by omega) (by omega) (by omega)
                  rw [show (((X : Nat) : Int) - 1) = X - 1 by omega, show (((Y : Nat) : Int) - 1) = Y - 1 by omega] at hle
                  rw [hle]
                  clear hle
                  obtain ⟨z367, hz367⟩ : ∃ z, rowsS pw4 ps4 0 0 (Y) (X) = z := ⟨_, rfl⟩
                  rw [hz367]
                  have Hz367 := hid hz367
                  clear hz367
                  refine hK.out _ _ ?_ (fun hHeld2 => ?_)
                  focus ((try dsimp only); (exact ⟨H366.out.cell 7 rfl 0 rfl, H366.out.cell 7 rfl 1 rfl, H366.out.cell 7 rfl 2 rfl, H366.out.cell 7 rfl 3 rfl, H366.out.cell 2 rfl 0 rfl, H366.out.cell 2 rfl 1 rfl, H366.out.cell 2 rfl 2 rfl, H366.out.cell 2 rfl 3 rfl, H366.out.cell 4 rfl 0 rfl, H366.out.cell 4 rfl 1 rfl, H366.out.cell 4 rfl 2 rfl, H366.out.cell 4 rfl 3 rfl⟩))
                  clear hK K
                  try simp only [Act.put, List.getElem_toArray, List.getElem_cons_zero, List.getElem_cons_succ, List.setIfInBounds_toArray, List.set_cons_zero, List.set_cons_succ]
                  clear hHeld
                  have hHeld := hHeld2
                  clear hHeld2
                  refine wpAnyH_ready (rs := [12, 16]) (by kernel_rfl) (by simp) (AllReadyH.cons (o := _) rfl (fun K hK => ?_) (AllReadyH.cons (o := _) rfl (fun K hK => ?_) AllReadyH.nil))
                  · go_simp
                    go_at_call 44
                    have gt := grow_tile (zs := ps4) (r0 := X) (r1 := Y) (r2 := XE) (r3 := YE) HVps4.out (HIO.out) HNH.out HNW.out (by omega) (by omega) q1 q2 rfl rfl (by omega) (by omega) _ _ _ _ _ _ _ _ _ _ (H366.out.slc 8 rfl) (by have e := HKL.out; subst e; exact H366.out.slc 1 rfl) (by have e := HKT.out; subst e; exact H366.out.slc 0 rfl)
                    rw [Hz367.out, HAR.out] at gt
                    refine gt.mono ?_
                    clear gt
                    rintro e w368 ⟨v370, rfl, ho, hb⟩
                    have H369 := hid (H366.out.grow hb ho)
                    obtain ⟨v370a, v370c, rfl, _⟩ := ho.slc
                    clear ho hb
                    refine hK.out _ _ ?_ (fun hHeld2 => ?_)
                    focus ((try dsimp only); (exact ⟨H369.out.cell 8 rfl 0 rfl, H369.out.cell 8 rfl 1 rfl, H369.out.cell 8 rfl 2 rfl, H369.out.cell 8 rfl 3 rfl, H369.out.cell 3 rfl 0 rfl, H369.out.cell 3 rfl 1 rfl, H369.out.cell 3 rfl 2 rfl, H369.out.cell 3 rfl 3 rfl, H369.out.cell 5 rfl 0 rfl, H369.out.cell 5 rfl 1 rfl, H369.out.cell 5 rfl 2 rfl, H369.out.cell 5 rfl 3 rfl⟩))
                    clear hK K
                    try simp only [Act.put, List.getElem_toArray, List.getElem_cons_zero, List.getElem_cons_succ, List.setIfInBounds_toArray, List.set_cons_zero, List.set_cons_succ]
                    clear hHeld
                    have hHeld := hHeld2
                    clear hHeld2
                    refine wpAnyH_take (i := 13) (oi := _) (v := ?_) rfl (by kernel_rfl) (by kernel_rfl) (by kernel_rfl) (fun _ _ _ h => h) (Or.inl ⟨by rfl, ?_⟩) (by assumption) ?_
                    rotate_left
                    focus (intro wS hSw; (try dsimp only at hSw); go_simp; (try with_reducible rfl))
                    try simp only [Act.put, List.getElem_toArray, List.getElem_cons_zero, List.getElem_cons_succ, List.setIfInBounds_toArray, List.set_cons_zero, List.set_cons_succ]
                    refine wpAnyH_take (i := 14) (oi := _) (v := ?_) rfl (by kernel_rfl) (by kernel_rfl) (by kernel_rfl) (fun _ _ _ h => h) (Or.inl ⟨by rfl, ?_⟩) (by assumption) ?_
                    rotate_left
                    focus (intro wS hSw; (try dsimp only at hSw); go_simp; (try with_reducible rfl))
                    try simp only [Act.put, List.getElem_toArray, List.getElem_cons_zero, List.getElem_cons_succ, List.setIfInBounds_toArray, List.set_cons_zero, List.set_cons_succ]
                    refine wpAnyH_take (i := 15) (oi := _) (v := ?_) rfl (by kernel_rfl) (by kernel_rfl) (by kernel_rfl) (fun _ _ _ h => h) (Or.inl ⟨by rfl, ?_⟩) (by assumption) ?_
                    rotate_left
                    focus (intro wS hSw; (try dsimp only at hSw); go_simp; (try with_reducible rfl))
                    try simp only [Act.put, List.getElem_toArray, List.getElem_cons_zero, List.getElem_cons_succ, List.setIfInBounds_toArray, List.set_cons_zero, List.set_cons_succ]
                    refine wpAnyH_ready (rs := [16]) (by kernel_rfl) (by simp) (AllReadyH.cons (o := _) rfl (fun K hK => ?_) AllReadyH.nil)
                    obtain ⟨D371, hD371⟩ : ∃ D, w368.heap.size = D := ⟨_, rfl⟩
                    have H372 := hid (show St B W [.cells D371 #[.int .i64 0, .int .i64 0, .int .i64 0, .slice none 0 0] 26, .own (.slice v370a ((tgL pw4 ps4 X Y qw qh).length) v370c) (tgL pw4 ps4 X Y qw qh), .own (.slice xa ((tpL pw4 ps4 X Y kt).length) xc) (tpL pw4 ps4 X Y kt), .own (.slice ya ((lfL pw4 ps4 X Y kl).length) yc) (lfL pw4 ps4 X Y kl), .cells D308 #[.int .i64 X, .int .i64 Y, .int .i64 XE, .int .i64 YE] 39, .own (.slice ga NN gc) (gL pw4 ps4 nh nw cols ntw nth j), .cells D277 #[.int .i64 pw4, .int .i64 ph4, .int .i64 AR, .slice ga NN gc] 26, .cells D22 #[.int .i64 pw4, .int .i64 ph4, .int .i64 AR, .slice vqa NN vqc] 26, .own (.slice vqa NN vqc) (wList pw4 ps4 nh nw), .cells D13 #[.int .i64 pw4, .int .i64 ph4, .int .i64 pm4, .slice pv4a ps4.length pv4c] 26, .own (.slice pv4a ps4.length pv4c) ps4, .tape K1] [] (w368.alloc (.cells #[.int .i64 0, .int .i64 0, .int .i64 0, .slice none 0 0] 26)) from (H369.out.alloc #[.int .i64 0, .int .i64 0, .int .i64 0, .slice none 0 0] 26 hD371))
                    go_simp
                    refine hK.out _ _ ?_ (fun hHeld2 => ?_)
                    focus ((try dsimp only); (exact ⟨H372.out.cell 9 rfl 0 rfl, H372.out.cell 9 rfl 1 rfl, H372.out.cell 9 rfl 2 rfl, H372.out.cell 9 rfl 3 rfl, H372.out.cell 4 rfl 0 rfl, H372.out.cell 4 rfl 1 rfl, H372.out.cell 4 rfl 2 rfl, H372.out.cell 4 rfl 3 rfl, H372.out.cell 6 rfl 0 rfl, H372.out.cell 6 rfl 1 rfl, H372.out.cell 6 rfl 2 rfl, H372.out.cell 6 rfl 3 rfl⟩))
                    clear hK K hHeld
                    try simp only [Act.put, List.getElem_toArray, List.getElem_cons_zero, List.getElem_cons_succ, List.setIfInBounds_toArray, List.set_cons_zero, List.set_cons_succ]
                    clear hD371
                    generalize (w368.alloc (.cells #[.int .i64 0, .int .i64 0, .int .i64 0, .slice none 0 0] 26)) = k373 at *
                    have hHeld := hHeld2
                    clear hHeld2
                    refine wpAnyH_ready (rs := [17]) (by kernel_rfl) (by simp) (AllReadyH.cons (o := _) rfl (fun K hK => ?_) AllReadyH.nil)
                    have z374 := H372.out.cell 0 rfl 0 rfl
                    have z375 := H372.out.free 0 rfl 0
                    have z376 := H372.out.cell 0 rfl 1 rfl
                    have z377 := H372.out.free 0 rfl 1
                    have z378 := H372.out.cell 0 rfl 2 rfl
                    have z379 := H372.out.free 0 rfl 2
                    have z380 := H372.out.cell 0 rfl 3 rfl
                    have z381 := H372.out.free 0 rfl 3
                    have H382 := hid (show St B W [.cells D371 #[.int .i64 qw, .int .i64 qh, .int .i64 AR, .slice v370a ((tgL pw4 ps4 X Y qw qh).length) v370c] 26, .own (.slice v370a ((tgL pw4 ps4 X Y qw qh).length) v370c) (tgL pw4 ps4 X Y qw qh), .own (.slice xa ((tpL pw4 ps4 X Y kt).length) xc) (tpL pw4 ps4 X Y kt), .own (.slice ya ((lfL pw4 ps4 X Y kl).length) yc) (lfL pw4 ps4 X Y kl), .cells D308 #[.int .i64 X, .int .i64 Y, .int .i64 XE, .int .i64 YE] 39, .own (.slice ga NN gc) (gL pw4 ps4 nh nw cols ntw nth j), .cells D277 #[.int .i64 pw4, .int .i64 ph4, .int .i64 AR, .slice ga NN gc] 26, .cells D22 #[.int .i64 pw4, .int .i64 ph4, .int .i64 AR, .slice vqa NN vqc] 26, .own (.slice vqa NN vqc) (wList pw4 ps4 nh nw), .cells D13 #[.int .i64 pw4, .int .i64 ph4, .int .i64 pm4, .slice pv4a ps4.length pv4c] 26, .own (.slice pv4a ps4.length pv4c) ps4, .tape K1] [] ((((k373.setCell ⟨D371, 0, none⟩ (.int .i64 qw)).setCell ⟨D371, 1, none⟩ (.int .i64 qh)).setCell ⟨D371, 2, none⟩ (.int .i64 AR)).setCell ⟨D371, 3, none⟩ (.slice v370a ((tgL pw4 ps4 X Y qw qh).length) v370c)) from (H372.out.set4 0 rfl (.int .i64 qw) (.int .i64 qh) (.int .i64 AR) (.slice v370a ((tgL pw4 ps4 X Y qw qh).length) v370c)))
                    go_simp
                    refine hK.out _ _ ?_ (fun hHeld2 => ?_)
                    focus ((try dsimp only); (exact ⟨H382.out.cell 9 rfl 0 rfl, H382.out.cell 9 rfl 1 rfl, H382.out.cell 9 rfl 2 rfl, H382.out.cell 9 rfl 3 rfl, H382.out.cell 4 rfl 0 rfl, H382.out.cell 4 rfl 1 rfl, H382.out.cell 4 rfl 2 rfl, H382.out.cell 4 rfl 3 rfl, H382.out.cell 6 rfl 0 rfl, H382.out.cell 6 rfl 1 rfl, H382.out.cell 6 rfl 2 rfl, H382.out.cell 6 rfl 3 rfl⟩))
                    clear hK K hHeld
                    try simp only [Act.put, List.getElem_toArray, List.getElem_cons_zero, List.getElem_cons_succ, List.setIfInBounds_toArray, List.set_cons_zero, List.set_cons_succ]
                    clear z374 z375 z376 z377 z378 z379 z380 z381
                    generalize ((((k373.setCell ⟨D371, 0, none⟩ (.int .i64 qw)).setCell ⟨D371, 1, none⟩ (.int .i64 qh)).setCell ⟨D371, 2, none⟩ (.int .i64 AR)).setCell ⟨D371, 3, none⟩ (.slice v370a ((tgL pw4 ps4 X Y qw qh).length) v370c)) = k383 at *
                    have hHeld := hHeld2
                    clear hHeld2
                    refine wpAnyH_take (i := 18) (oi := _) (v := ?_) rfl (by kernel_rfl) (by kernel_rfl) (by kernel_rfl) (fun _ _ _ h => h) (Or.inl ⟨by rfl, ?_⟩) (by assumption) ?_
                    rotate_left
                    focus (intro wS hSw; (try dsimp only at hSw); go_simp; (try with_reducible rfl))
                    try simp only [Act.put, List.getElem_toArray, List.getElem_cons_zero, List.getElem_cons_succ, List.setIfInBounds_toArray, List.set_cons_zero, List.set_cons_succ]
                    refine wpAnyH_done (by kernel_rfl) ?_ _
                    try clear hHeld
                    have z384 := H382.out.cell 6 rfl 0 rfl
                    have z385 := H382.out.cell 6 rfl 1 rfl
                    have z386 := H382.out.cell 6 rfl 2 rfl
                    have z387 := H382.out.cell 6 rfl 3 rfl
                    have z388 := H382.out.cell 0 rfl 0 rfl
                    have z389 := H382.out.cell 0 rfl 1 rfl
                    have z390 := H382.out.cell 0 rfl 2 rfl
                    have z391 := H382.out.cell 0 rfl 3 rfl
                    have z392 := H382.out.cell 4 rfl 0 rfl
                    have z393 := H382.out.cell 4 rfl 1 rfl
                    have z394 := H382.out.cell 4 rfl 2 rfl
                    have z395 := H382.out.cell 4 rfl 3 rfl
                    go_wp2_with fail
                    clear z384 z385 z386 z387 z388 z389 z390 z391 z392 z393 z394 z395
                    have gb := grow_blit (zs := ps4) (mx := pm4) HVps4.out (HIO.out) HNH.out HNW.out HTA.out HCT.out q1 q2 _ _ _ _ _ _ _ (H382.out.slc 5 rfl) (H382.out.slc 1 rfl)
                    rw [HAR.out] at gb
                    refine gb.mono ?_
                    clear gb
                    rintro e w396 ⟨v398, rfl, ho, hb⟩
                    have H397 := hid (H382.out.grow hb ho)
                    obtain ⟨v398a, v398c, rfl, _⟩ := ho.slc
                    clear ho hb
                    rw [gL_len, HNN.out] at H397 ⊢
                    obtain ⟨D399, hD399⟩ : ∃ D, w396.heap.size = D := ⟨_, rfl⟩
                    go_upto_region 21 with fail
                    have H400 := hid (show St B W [.cells D399 #[.int .i64 pw4, .int .i64 ph4, .int .i64 AR, .slice v398a NN v398c] 26, .own (.slice v398a NN v398c) (gL pw4 ps4 nh nw cols ntw nth (j + 1)), .cells D371 #[.int .i64 qw, .int .i64 qh, .int .i64 AR, .slice v370a ((tgL pw4 ps4 X Y qw qh).length) v370c] 26, .own (.slice v370a ((tgL pw4 ps4 X Y qw qh).length) v370c) (tgL pw4 ps4 X Y qw qh), .own (.slice xa ((tpL pw4 ps4 X Y kt).length) xc) (tpL pw4 ps4 X Y kt), .own (.slice ya ((lfL pw4 ps4 X Y kl).length) yc) (lfL pw4 ps4 X Y kl), .cells D308 #[.int .i64 X, .int .i64 Y, .int .i64 XE, .int .i64 YE] 39, .own (.slice ga NN gc) (gL pw4 ps4 nh nw cols ntw nth j), .cells D277 #[.int .i64 pw4, .int .i64 ph4, .int .i64 AR, .slice ga NN gc] 26, .cells D22 #[.int .i64 pw4, .int .i64 ph4, .int .i64 AR, .slice vqa NN vqc] 26, .own (.slice vqa NN vqc) (wList pw4 ps4 nh nw), .cells D13 #[.int .i64 pw4, .int .i64 ph4, .int .i64 pm4, .slice pv4a ps4.length pv4c] 26, .own (.slice pv4a ps4.length pv4c) ps4, .tape K1] [] (w396.alloc (.cells #[.int .i64 pw4, .int .i64 ph4, .int .i64 AR, .slice v398a NN v398c] 26)) from (H397.out.alloc #[.int .i64 pw4, .int .i64 ph4, .int .i64 AR, .slice v398a NN v398c] 26 hD399))
                    first | refine gen_code H400.out ?_ | refine gen_list H400.out ?_ | refine gen_calls H400.out ?_
                    intro w401 hG
                    clear H400
                    have H400 := hid hG
                    clear hG
                    clear hD399
                    have z402 := H400.out.cell 0 rfl 0 rfl
                    have z403 := H400.out.cell 0 rfl 1 rfl
                    have z404 := H400.out.cell 0 rfl 2 rfl
                    have z405 := H400.out.cell 0 rfl 3 rfl
                    have z406 := H400.out.cell 8 rfl 0 rfl
                    have z407 := H400.out.free 8 rfl 0
                    have z408 := H400.out.cell 8 rfl 1 rfl
                    have z409 := H400.out.free 8 rfl 1
                    have z410 := H400.out.cell 8 rfl 2 rfl
                    have z411 := H400.out.free 8 rfl 2
                    have z412 := H400.out.cell 8 rfl 3 rfl
                    have z413 := H400.out.free 8 rfl 3
                    go_upto_region 8 with fail
                    clear z402 z403 z404 z405 z406 z407 z408 z409 z410 z411 z412 z413
                    have H414 := hid (show St B W [.cells D399 #[.int .i64 pw4, .int .i64 ph4, .int .i64 AR, .slice v398a NN v398c] 26, .own (.slice v398a NN v398c) (gL pw4 ps4 nh nw cols ntw nth (j + 1)), .cells D371 #[.int .i64 qw, .int .i64 qh, .int .i64 AR, .slice v370a ((tgL pw4 ps4 X Y qw qh).length) v370c] 26, .own (.slice v370a ((tgL pw4 ps4 X Y qw qh).length) v370c) (tgL pw4 ps4 X Y qw qh), .own (.slice xa ((tpL pw4 ps4 X Y kt).length) xc) (tpL pw4 ps4 X Y kt), .own (.slice ya ((lfL pw4 ps4 X Y kl).length) yc) (lfL pw4 ps4 X Y kl), .cells D308 #[.int .i64 X, .int .i64 Y, .int .i64 XE, .int .i64 YE] 39, .own (.slice ga NN gc) (gL pw4 ps4 nh nw cols ntw nth j), .cells D277 #[.int .i64 pw4, .int .i64 ph4, .int .i64 AR, .slice v398a NN v398c] 26, .cells D22 #[.int .i64 pw4, .int .i64 ph4, .int .i64 AR, .slice vqa NN vqc] 26, .own (.slice vqa NN vqc) (wList pw4 ps4 nh nw), .cells D13 #[.int .i64 pw4, .int .i64 ph4, .int .i64 pm4, .slice pv4a ps4.length pv4c] 26, .own (.slice pv4a ps4.length pv4c) ps4, .tape K1] [] ((((w401.setCell ⟨D277, 0, none⟩ (.int .i64 pw4)).setCell ⟨D277, 1, none⟩ (.int .i64 ph4)).setCell ⟨D277, 2, none⟩ (.int .i64 AR)).setCell ⟨D277, 3, none⟩ (.slice v398a NN v398c)) from (H400.out.set4 8 rfl (.int .i64 pw4) (.int .i64 ph4) (.int .i64 AR) (.slice v398a NN v398c)))
                    first | refine gen_code H414.out ?_ | refine gen_list H414.out ?_ | refine gen_calls H414.out ?_
                    intro w415 hG
                    clear H414
                    have H414 := hid hG
                    clear hG
                    go_wp2_with fail
                    go_roundw
                    case rel => exact ⟨j + 1, _, _, by omega, by go_num, H414.out.pick [1, 8, 9, 10, 11, 12, 13] rfl (by decide)⟩
                    case measure => first | (simp [intOf]; omega) | (simp [intOf]; done)
                  · obtain ⟨D416, hD416⟩ : ∃ D, w365.heap.size = D := ⟨_, rfl⟩
                    have H417 := hid (show St B W [.cells D416 #[.int .i64 0, .int .i64 0, .int .i64 0, .slice none 0 0] 26, .own (.slice xa ((tpL pw4 ps4 X Y kt).length) xc) (tpL pw4 ps4 X Y kt), .own (.slice ya ((lfL pw4 ps4 X Y kl).length) yc) (lfL pw4 ps4 X Y kl), .cells D308 #[.int .i64 X, .int .i64 Y, .int .i64 XE, .int .i64 YE] 39, .own (.slice ga NN gc) (gL pw4 ps4 nh nw cols ntw nth j), .cells D277 #[.int .i64 pw4, .int .i64 ph4, .int .i64 AR, .slice ga NN gc] 26, .cells D22 #[.int .i64 pw4, .int .i64 ph4, .int .i64 AR, .slice vqa NN vqc] 26, .own (.slice vqa NN vqc) (wList pw4 ps4 nh nw), .cells D13 #[.int .i64 pw4, .int .i64 ph4, .int .i64 pm4, .slice pv4a ps4.length pv4c] 26, .own (.slice pv4a ps4.length pv4c) ps4, .tape K1] [] (w365.alloc (.cells #[.int .i64 0, .int .i64 0, .int .i64 0, .slice none 0 0] 26)) from (H366.out.alloc #[.int .i64 0, .int .i64 0, .int .i64 0, .slice none 0 0] 26 hD416))
                    go_simp
                    refine hK.out _ _ ?_ (fun hHeld2 => ?_)
                    focus ((try dsimp only); (exact ⟨H417.out.cell 8 rfl 0 rfl, H417.out.cell 8 rfl 1 rfl, H417.out.cell 8 rfl 2 rfl, H417.out.cell 8 rfl 3 rfl, H417.out.cell 3 rfl 0 rfl, H417.out.cell 3 rfl 1 rfl, H417.out.cell 3 rfl 2 rfl, H417.out.cell 3 rfl 3 rfl, H417.out.cell 5 rfl 0 rfl, H417.out.cell 5 rfl 1 rfl, H417.out.cell 5 rfl 2 rfl, H417.out.cell 5 rfl 3 rfl⟩))
                    clear hK K hHeld
                    try simp only [Act.put, List.getElem_toArray, List.getElem_cons_zero, List.getElem_cons_succ, List.setIfInBounds_toArray, List.set_cons_zero, List.set_cons_succ]
                    clear hD416
                    generalize (w365.alloc (.cells #[.int .i64 0, .int .i64 0, .int .i64 0, .slice none 0 0] 26)) = k418 at *
                    have hHeld := hHeld2
                    clear hHeld2
                    refine wpAnyH_ready (rs := [12]) (by kernel_rfl) (by simp) (AllReadyH.cons (o := _) rfl (fun K hK => ?_) AllReadyH.nil)
                    go_simp
                    go_at_call 44
                    have gt := grow_tile (zs := ps4) (r0 := X) (r1 := Y) (r2 := XE) (r3 := YE) HVps4.out (HIO.out) HNH.out HNW.out (by omega) (by omega) q1 q2 rfl rfl (by omega) (by omega) _ _ _ _ _ _ _ _ _ _ (H417.out.slc 9 rfl) (by have e := HKL.out; subst e; exact H417.out.slc 2 rfl) (by have e := HKT.out; subst e; exact H417.out.slc 1 rfl)
                    rw [Hz367.out, HAR.out] at gt
                    refine gt.mono ?_
                    clear gt
                    rintro e w419 ⟨v421, rfl, ho, hb⟩
                    have H420 := hid (H417.out.grow hb ho)
                    obtain ⟨v421a, v421c, rfl, _⟩ := ho.slc
                    clear ho hb
                    refine hK.out _ _ ?_ (fun hHeld2 => ?_)
                    focus ((try dsimp only); (exact ⟨H420.out.cell 9 rfl 0 rfl, H420.out.cell 9 rfl 1 rfl, H420.out.cell 9 rfl 2 rfl, H420.out.cell 9 rfl 3 rfl, H420.out.cell 4 rfl 0 rfl, H420.out.cell 4 rfl 1 rfl, H420.out.cell 4 rfl 2 rfl, H420.out.cell 4 rfl 3 rfl, H420.out.cell 6 rfl 0 rfl, H420.out.cell 6 rfl 1 rfl, H420.out.cell 6 rfl 2 rfl, H420.out.cell 6 rfl 3 rfl⟩))
                    clear hK K
                    try simp only [Act.put, List.getElem_toArray, List.getElem_cons_zero, List.getElem_cons_succ, List.setIfInBounds_toArray, List.set_cons_zero, List.set_cons_succ]
                    clear hHeld
                    have hHeld := hHeld2
                    clear hHeld2
                    refine wpAnyH_take (i := 13) (oi := _) (v := ?_) rfl (by kernel_rfl) (by kernel_rfl) (by kernel_rfl) (fun _ _ _ h => h) (Or.inl ⟨by rfl, ?_⟩) (by assumption) ?_
                    rotate_left
                    focus (intro wS hSw; (try dsimp only at hSw); go_simp; (try with_reducible rfl))
                    try simp only [Act.put, List.getElem_toArray, List.getElem_cons_zero, List.getElem_cons_succ, List.setIfInBounds_toArray, List.set_cons_zero, List.set_cons_succ]
                    refine wpAnyH_take (i := 14) (oi := _) (v := ?_) rfl (by kernel_rfl) (by kernel_rfl) (by kernel_rfl) (fun _ _ _ h => h) (Or.inl ⟨by rfl, ?_⟩) (by assumption) ?_
                    rotate_left
                    focus (intro wS hSw; (try dsimp only at hSw); go_simp; (try with_reducible rfl))
                    try simp only [Act.put, List.getElem_toArray, List.getElem_cons_zero, List.getElem_cons_succ, List.setIfInBounds_toArray, List.set_cons_zero, List.set_cons_succ]
                    refine wpAnyH_take (i := 15) (oi := _) (v := ?_) rfl (by kernel_rfl) (by kernel_rfl) (by kernel_rfl) (fun _ _ _ h => h) (Or.inl ⟨by rfl, ?_⟩) (by assumption) ?_
                    rotate_left
                    focus (intro wS hSw; (try dsimp only at hSw); go_simp; (try with_reducible rfl))
                    try simp only [Act.put, List.getElem_toArray, List.getElem_cons_zero, List.getElem_cons_succ, List.setIfInBounds_toArray, List.set_cons_zero, List.set_cons_succ]
                    refine wpAnyH_ready (rs := [17]) (by kernel_rfl) (by simp) (AllReadyH.cons (o := _) rfl (fun K hK => ?_) AllReadyH.nil)
                    have z422 := H420.out.cell 1 rfl 0 rfl
                    have z423 := H420.out.free 1 rfl 0
                    have z424 := H420.out.cell 1 rfl 1 rfl
                    have z425 := H420.out.free 1 rfl 1
                    have z426 := H420.out.cell 1 rfl 2 rfl
                    have z427 := H420.out.free 1 rfl 2
                    have z428 := H420.out.cell 1 rfl 3 rfl
                    have z429 := H420.out.free 1 rfl 3
                    have H430 := hid (show St B W [.own (.slice v421a ((tgL pw4 ps4 X Y qw qh).length) v421c) (tgL pw4 ps4 X Y qw qh), .cells D416 #[.int .i64 qw, .int .i64 qh, .int .i64 AR, .slice v421a ((tgL pw4 ps4 X Y qw qh).length) v421c] 26, .own (.slice xa ((tpL pw4 ps4 X Y kt).length) xc) (tpL pw4 ps4 X Y kt), .own (.slice ya ((lfL pw4 ps4 X Y kl).length) yc) (lfL pw4 ps4 X Y kl), .cells D308 #[.int .i64 X, .int .i64 Y, .int .i64 XE, .int .i64 YE] 39, .own (.slice ga NN gc) (gL pw4 ps4 nh nw cols ntw nth j), .cells D277 #[.int .i64 pw4, .int .i64 ph4, .int .i64 AR, .slice ga NN gc] 26, .cells D22 #[.int .i64 pw4, .int .i64 ph4, .int .i64 AR, .slice vqa NN vqc] 26, .own (.slice vqa NN vqc) (wList pw4 ps4 nh nw), .cells D13 #[.int .i64 pw4, .int .i64 ph4, .int .i64 pm4, .slice pv4a ps4.length pv4c] 26, .own (.slice pv4a ps4.length pv4c) ps4, .tape K1] [] ((((w419.setCell ⟨D416, 0, none⟩ (.int .i64 qw)).setCell ⟨D416, 1, none⟩ (.int .i64 qh)).setCell ⟨D416, 2, none⟩ (.int .i64 AR)).setCell ⟨D416, 3, none⟩ (.slice v421a ((tgL pw4 ps4 X Y qw qh).length) v421c)) from (H420.out.set4 1 rfl (.int .i64 qw) (.int .i64 qh) (.int .i64 AR) (.slice v421a ((tgL pw4 ps4 X Y qw qh).length) v421c)))
                    go_simp
                    refine hK.out _ _ ?_ (fun hHeld2 => ?_)
                    focus ((try dsimp only); (exact ⟨H430.out.cell 9 rfl 0 rfl, H430.out.cell 9 rfl 1 rfl, H430.out.cell 9 rfl 2 rfl, H430.out.cell 9 rfl 3 rfl, H430.out.cell 4 rfl 0 rfl, H430.out.cell 4 rfl 1 rfl, H430.out.cell 4 rfl 2 rfl, H430.out.cell 4 rfl 3 rfl, H430.out.cell 6 rfl 0 rfl, H430.out.cell 6 rfl 1 rfl, H430.out.cell 6 rfl 2 rfl, H430.out.cell 6 rfl 3 rfl⟩))
                    clear hK K hHeld
                    try simp only [Act.put, List.getElem_toArray, List.getElem_cons_zero, List.getElem_cons_succ, List.setIfInBounds_toArray, List.set_cons_zero, List.set_cons_succ]
                    clear z422 z423 z424 z425 z426 z427 z428 z429
                    generalize ((((w419.setCell ⟨D416, 0, none⟩ (.int .i64 qw)).setCell ⟨D416, 1, none⟩ (.int .i64 qh)).setCell ⟨D416, 2, none⟩ (.int .i64 AR)).setCell ⟨D416, 3, none⟩ (.slice v421a ((tgL pw4 ps4 X Y qw qh).length) v421c)) = k431 at *
                    have hHeld := hHeld2
                    clear hHeld2
                    refine wpAnyH_take (i := 18) (oi := _) (v := ?_) rfl (by kernel_rfl) (by kernel_rfl) (by kernel_rfl) (fun _ _ _ h => h) (Or.inl ⟨by rfl, ?_⟩) (by assumption) ?_
                    rotate_left
                    focus (intro wS hSw; (try dsimp only at hSw); go_simp; (try with_reducible rfl))
                    try simp only [Act.put, List.getElem_toArray, List.getElem_cons_zero, List.getElem_cons_succ, List.setIfInBounds_toArray, List.set_cons_zero, List.set_cons_succ]
                    refine wpAnyH_done (by kernel_rfl) ?_ _
                    try clear hHeld
                    have z432 := H430.out.cell 6 rfl 0 rfl
                    have z433 := H430.out.cell 6 rfl 1 rfl
                    have z434 := H430.out.cell 6 rfl 2 rfl
                    have z435 := H430.out.cell 6 rfl 3 rfl
                    have z436 := H430.out.cell 1 rfl 0 rfl
                    have z437 := H430.out.cell 1 rfl 1 rfl
                    have z438 := H430.out.cell 1 rfl 2 rfl
                    have z439 := H430.out.cell 1 rfl 3 rfl
                    have z440 := H430.out.cell 4 rfl 0 rfl
                    have z441 := H430.out.cell 4 rfl 1 rfl
                    have z442 := H430.out.cell 4 rfl 2 rfl
                    have z443 := H430.out.cell 4 rfl 3 rfl
                    go_wp2_with fail
                    clear z432 z433 z434 z435 z436 z437 z438 z439 z440 z441 z442 z443
                    have gb := grow_blit (zs := ps4) (mx := pm4) HVps4.out (HIO.out) HNH.out HNW.out HTA.out HCT.out q1 q2 _ _ _ _ _ _ _ (H430.out.slc 5 rfl) (H430.out.slc 0 rfl)
                    rw [HAR.out] at gb
                    refine gb.mono ?_
                    clear gb
                    rintro e w444 ⟨v446, rfl, ho, hb⟩
                    have H445 := hid (H430.out.grow hb ho)
                    obtain ⟨v446a, v446c, rfl, _⟩ := ho.slc
                    clear ho hb
                    rw [gL_len, HNN.out] at H445 ⊢
                    obtain ⟨D447, hD447⟩ : ∃ D, w444.heap.size = D := ⟨_, rfl⟩
                    go_upto_region 21 with fail
                    have H448 := hid (show St B W [.cells D447 #[.int .i64 pw4, .int .i64 ph4, .int .i64 AR, .slice v446a NN v446c] 26, .own (.slice v446a NN v446c) (gL pw4 ps4 nh nw cols ntw nth (j + 1)), .own (.slice v421a ((tgL pw4 ps4 X Y qw qh).length) v421c) (tgL pw4 ps4 X Y qw qh), .cells D416 #[.int .i64 qw, .int .i64 qh, .int .i64 AR, .slice v421a ((tgL pw4 ps4 X Y qw qh).length) v421c] 26, .own (.slice xa ((tpL pw4 ps4 X Y kt).length) xc) (tpL pw4 ps4 X Y kt), .own (.slice ya ((lfL pw4 ps4 X Y kl).length) yc) (lfL pw4 ps4 X Y kl), .cells D308 #[.int .i64 X, .int .i64 Y, .int .i64 XE, .int .i64 YE] 39, .own (.slice ga NN gc) (gL pw4 ps4 nh nw cols ntw nth j), .cells D277 #[.int .i64 pw4, .int .i64 ph4, .int .i64 AR, .slice ga NN gc] 26, .cells D22 #[.int .i64 pw4, .int .i64 ph4, .int .i64 AR, .slice vqa NN vqc] 26, .own (.slice vqa NN vqc) (wList pw4 ps4 nh nw), .cells D13 #[.int .i64 pw4, .int .i64 ph4, .int .i64 pm4, .slice pv4a ps4.length pv4c] 26, .own (.slice pv4a ps4.length pv4c) ps4, .tape K1] [] (w444.alloc (.cells #[.int .i64 pw4, .int .i64 ph4, .int .i64 AR, .slice v446a NN v446c] 26)) from (H445.out.alloc #[.int .i64 pw4, .int .i64 ph4, .int .i64 AR, .slice v446a NN v446c] 26 hD447))
                    first | refine gen_code H448.out ?_ | refine gen_list H448.out ?_ | refine gen_calls H448.out ?_
                    intro w449 hG
                    clear H448
                    have H448 := hid hG
                    clear hG
                    clear hD447
                    have z450 := H448.out.cell 0 rfl 0 rfl
                    have z451 := H448.out.cell 0 rfl 1 rfl
                    have z452 := H448.out.cell 0 rfl 2 rfl
                    have z453 := H448.out.cell 0 rfl 3 rfl
                    have z454 := H448.out.cell 8 rfl 0 rfl
                    have z455 := H448.out.free 8 rfl 0
                    have z456 := H448.out.cell 8 rfl 1 rfl
                    have z457 := H448.out.free 8 rfl 1
                    have z458 := H448.out.cell 8 rfl 2 rfl
                    have z459 := H448.out.free 8 rfl 2
                    have z460 := H448.out.cell 8 rfl 3 rfl
                    have z461 := H448.out.free 8 rfl 3
                    go_upto_region 8 with fail
                    clear z450 z451 z452 z453 z454 z455 z456 z457 z458 z459 z460 z461
                    have H462 := hid (show St B W [.cells D447 #[.int .i64 pw4, .int .i64 ph4, .int .i64 AR, .slice v446a NN v446c] 26, .own (.slice v446a NN v446c) (gL pw4 ps4 nh nw cols ntw nth (j + 1)), .own (.slice v421a ((tgL pw4 ps4 X Y qw qh).length) v421c) (tgL pw4 ps4 X Y qw qh), .cells D416 #[.int .i64 qw, .int .i64 qh, .int .i64 AR, .slice v421a ((tgL pw4 ps4 X Y qw qh).length) v421c] 26, .own (.slice xa ((tpL pw4 ps4 X Y kt).length) xc) (tpL pw4 ps4 X Y kt), .own (.slice ya ((lfL pw4 ps4 X Y kl).length) yc) (lfL pw4 ps4 X Y kl), .cells D308 #[.int .i64 X, .int .i64 Y, .int .i64 XE, .int .i64 YE] 39, .own (.slice ga NN gc) (gL pw4 ps4 nh nw cols ntw nth j), .cells D277 #[.int .i64 pw4, .int .i64 ph4, .int .i64 AR, .slice v446a NN v446c] 26, .cells D22 #[.int .i64 pw4, .int .i64 ph4, .int .i64 AR, .slice vqa NN vqc] 26, .own (.slice vqa NN vqc) (wList pw4 ps4 nh nw), .cells D13 #[.int .i64 pw4, .int .i64 ph4, .int .i64 pm4, .slice pv4a ps4.length pv4c] 26, .own (.slice pv4a ps4.length pv4c) ps4, .tape K1] [] ((((w449.setCell ⟨D277, 0, none⟩ (.int .i64 pw4)).setCell ⟨D277, 1, none⟩ (.int .i64 ph4)).setCell ⟨D277, 2, none⟩ (.int .i64 AR)).setCell ⟨D277, 3, none⟩ (.slice v446a NN v446c)) from (H448.out.set4 8 rfl (.int .i64 pw4) (.int .i64 ph4) (.int .i64 AR) (.slice v446a NN v446c)))
                    first | refine gen_code H462.out ?_ | refine gen_list H462.out ?_ | refine gen_calls H462.out ?_
                    intro w463 hG
                    clear H462
                    have H462 := hid hG
                    clear hG
                    go_wp2_with fail
                    go_roundw
                    case rel => exact ⟨j + 1, _, _, by omega, by go_num, H462.out.pick [1, 8, 9, 10, 11, 12, 13] rfl (by decide)⟩
                    case measure => first | (simp [intOf]; omega) | (simp [intOf]; done)
                · obtain ⟨D464, hD464⟩ : ∃ D, k364.heap.size = D := ⟨_, rfl⟩
                  have H465 := hid (show St B W [.cells D464 #[.int .i64 0, .int .i64 0, .int .i64 0, .slice none 0 0] 26, .own (.slice xa ((tpL pw4 ps4 X Y kt).length) xc) (tpL pw4 ps4 X Y kt), .own (.slice ya ((lfL pw4 ps4 X Y kl).length) yc) (lfL pw4 ps4 X Y kl), .cells D308 #[.int .i64 X, .int .i64 Y, .int .i64 XE, .int .i64 YE] 39, .own (.slice ga NN gc) (gL pw4 ps4 nh nw cols ntw nth j), .cells D277 #[.int .i64 pw4, .int .i64 ph4, .int .i64 AR, .slice ga NN gc] 26, .cells D22 #[.int .i64 pw4, .int .i64 ph4, .int .i64 AR, .slice vqa NN vqc] 26, .own (.slice vqa NN vqc) (wList pw4 ps4 nh nw), .cells D13 #[.int .i64 pw4, .int .i64 ph4, .int .i64 pm4, .slice pv4a ps4.length pv4c] 26, .own (.slice pv4a ps4.length pv4c) ps4, .tape K1] [] (k364.alloc (.cells #[.int .i64 0, .int .i64 0, .int .i64 0, .slice none 0 0] 26)) from (H363.out.alloc #[.int .i64 0, .int .i64 0, .int .i64 0, .slice none 0 0] 26 hD464))
                  go_simp
                  refine hK.out _ _ ?_ (fun hHeld2 => ?_)
                  focus ((try dsimp only); (exact ⟨H465.out.cell 8 rfl 0 rfl, H465.out.cell 8 rfl 1 rfl, H465.out.cell 8 rfl 2 rfl, H465.out.cell 8 rfl 3 rfl, H465.out.cell 3 rfl 0 rfl, H465.out.cell 3 rfl 1 rfl, H465.out.cell 3 rfl 2 rfl, H465.out.cell 3 rfl 3 rfl, H465.out.cell 5 rfl 0 rfl, H465.out.cell 5 rfl 1 rfl, H465.out.cell 5 rfl 2 rfl, H465.out.cell 5 rfl 3 rfl⟩))
                  clear hK K hHeld
                  try simp only [Act.put, List.getElem_toArray, List.getElem_cons_zero, List.getElem_cons_succ, List.setIfInBounds_toArray, List.set_cons_zero, List.set_cons_succ]
                  clear hD464
                  generalize (k364.alloc (.cells #[.int .i64 0, .int .i64 0, .int .i64 0, .slice none 0 0] 26)) = k466 at *
                  have hHeld := hHeld2
                  clear hHeld2
                  refine wpAnyH_ready (rs := [11]) (by kernel_rfl) (by simp) (AllReadyH.cons (o := _) rfl (fun K hK => ?_) AllReadyH.nil)
                  go_simp
                  go_at_call 64
                  refine (lawat_any _ _ _ _ _ _ _ _ (gL pw4 ps4 nh nw cols ntw nth j) _ (H465.out.slc 4 rfl) (by have := HPQ.out; omega) (by omega) (by omega) (by omega) (by have := HPQ.out; omega) (by omega) (by omega) (by omega) (by omega)).mono ?_
                  rintro e w467 ⟨rfl, hb⟩
                  have H468 := hid (H465.out.call hb)
                  clear hb
                  have hle := gL_left (zs := ps4) HNW.out HTA.out (r := Y) (c := X) (by omega) (by omega) (by omega)
                  rw [show (((X : Nat) : Int) - 1) = X - 1 by omega, show (((Y : Nat) : Int) - 1) = Y - 1 by omega] at hle
                  rw [hle]
                  clear hle
                  obtain ⟨z469, hz469⟩ : ∃ z, rowsS pw4 ps4 0 0 (Y) (X) = z := ⟨_, rfl⟩
                  rw [hz469]
                  have Hz469 := hid hz469
                  clear hz469
                  refine hK.out _ _ ?_ (fun hHeld2 => ?_)
                  focus ((try dsimp only); (exact ⟨H468.out.cell 8 rfl 0 rfl, H468.out.cell 8 rfl 1 rfl, H468.out.cell 8 rfl 2 rfl, H468.out.cell 8 rfl 3 rfl, H468.out.cell 3 rfl 0 rfl, H468.out.cell 3 rfl 1 rfl, H468.out.cell 3 rfl 2 rfl, H468.out.cell 3 rfl 3 rfl, H468.out.cell 5 rfl 0 rfl, H468.out.cell 5 rfl 1 rfl, H468.out.cell 5 rfl 2 rfl, H468.out.cell 5 rfl 3 rfl⟩))
                  clear hK K
                  try simp only [Act.put, List.getElem_toArray, List.getElem_cons_zero, List.getElem_cons_succ, List.setIfInBounds_toArray, List.set_cons_zero, List.set_cons_succ]
                  clear hHeld
                  have hHeld := hHeld2
                  clear hHeld2
                  refine wpAnyH_ready (rs := [12]) (by kernel_rfl) (by simp) (AllReadyH.cons (o := _) rfl (fun K hK => ?_) AllReadyH.nil)
                  go_simp
                  go_at_call 44
                  have gt := grow_tile (zs := ps4) (r0 := X) (r1 := Y) (r2 := XE) (r3 := YE) HVps4.out (HIO.out) HNH.out HNW.out (by omega) (by omega) q1 q2 rfl rfl (by omega) (by omega) _ _ _ _ _ _ _ _ _ _ (H468.out.slc 9 rfl) (by have e := HKL.out; subst e; exact H468.out.slc 2 rfl) (by have e := HKT.out; subst e; exact H468.out.slc 1 rfl)
                  rw [Hz469.out, HAR.out] at gt
                  refine gt.mono ?_
                  clear gt
                  rintro e w470 ⟨v472, rfl, ho, hb⟩
                  have H471 := hid (H468.out.grow hb ho)
                  obtain ⟨v472a, v472c, rfl, _⟩ := ho.slc
                  clear ho hb
                  refine hK.out _ _ ?_ (fun hHeld2 => ?_)
                  focus ((try dsimp only); (exact ⟨H471.out.cell 9 rfl 0 rfl, H471.out.cell 9 rfl 1 rfl, H471.out.cell 9 rfl 2 rfl, H471.out.cell 9 rfl 3 rfl, H471.out.cell 4 rfl 0 rfl, H471.out.cell 4 rfl 1 rfl, H471.out.cell 4 rfl 2 rfl, H471.out.cell 4 rfl 3 rfl, H471.out.cell 6 rfl 0 rfl, H471.out.cell 6 rfl 1 rfl, H471.out.cell 6 rfl 2 rfl, H471.out.cell 6 rfl 3 rfl⟩))
                  clear hK K
                  try simp only [Act.put, List.getElem_toArray, List.getElem_cons_zero, List.getElem_cons_succ, List.setIfInBounds_toArray, List.set_cons_zero, List.set_cons_succ]
                  clear hHeld
                  have hHeld := hHeld2
                  clear hHeld2
                  refine wpAnyH_take (i := 13) (oi := _) (v := ?_) rfl (by kernel_rfl) (by kernel_rfl) (by kernel_rfl) (fun _ _ _ h => h) (Or.inl ⟨by rfl, ?_⟩) (by assumption) ?_
                  rotate_left
                  focus (intro wS hSw; (try dsimp only at hSw); go_simp; (try with_reducible rfl))
                  try simp only [Act.put, List.getElem_toArray, List.getElem_cons_zero, List.getElem_cons_succ, List.setIfInBounds_toArray, List.set_cons_zero, List.set_cons_succ]
                  refine wpAnyH_take (i := 14) (oi := _) (v := ?_) rfl (by kernel_rfl) (by kernel_rfl) (by kernel_rfl) (fun _ _ _ h => h) (Or.inl ⟨by rfl, ?_⟩) (by assumption) ?_
                  rotate_left
                  focus (intro wS hSw; (try dsimp only at hSw); go_simp; (try with_reducible rfl))
                  try simp only [Act.put, List.getElem_toArray, List.getElem_cons_zero, List.getElem_cons_succ, List.setIfInBounds_toArray, List.set_cons_zero, List.set_cons_succ]
                  refine wpAnyH_take (i := 15) (oi := _) (v := ?_) rfl (by kernel_rfl) (by kernel_rfl) (by kernel_rfl) (fun _ _ _ h => h) (Or.inl ⟨by rfl, ?_⟩) (by assumption) ?_
                  rotate_left
                  focus (intro wS hSw; (try dsimp only at hSw); go_simp; (try with_reducible rfl))
                  try simp only [Act.put, List.getElem_toArray, List.getElem_cons_zero, List.getElem_cons_succ, List.setIfInBounds_toArray, List.set_cons_zero, List.set_cons_succ]
                  refine wpAnyH_ready (rs := [17]) (by kernel_rfl) (by simp) (AllReadyH.cons (o := _) rfl (fun K hK => ?_) AllReadyH.nil)
                  have z473 := H471.out.cell 1 rfl 0 rfl
                  have z474 := H471.out.free 1 rfl 0
                  have z475 := H471.out.cell 1 rfl 1 rfl
                  have z476 := H471.out.free 1 rfl 1
                  have z477 := H471.out.cell 1 rfl 2 rfl
                  have z478 := H471.out.free 1 rfl 2
                  have z479 := H471.out.cell 1 rfl 3 rfl
                  have z480 := H471.out.free 1 rfl 3
                  have H481 := hid (show St B W [.own (.slice v472a ((tgL pw4 ps4 X Y qw qh).length) v472c) (tgL pw4 ps4 X Y qw qh), .cells D464 #[.int .i64 qw, .int .i64 qh, .int .i64 AR, .slice v472a ((tgL pw4 ps4 X Y qw qh).length) v472c] 26, .own (.slice xa ((tpL pw4 ps4 X Y kt).length) xc) (tpL pw4 ps4 X Y kt), .own (.slice ya ((lfL pw4 ps4 X Y kl).length) yc) (lfL pw4 ps4 X Y kl), .cells D308 #[.int .i64 X, .int .i64 Y, .int .i64 XE, .int .i64 YE] 39, .own (.slice ga NN gc) (gL pw4 ps4 nh nw cols ntw nth j), .cells D277 #[.int .i64 pw4, .int .i64 ph4, .int .i64 AR, .slice ga NN gc] 26, .cells D22 #[.int .i64 pw4, .int .i64 ph4, .int .i64 AR, .slice vqa NN vqc] 26, .own (.slice vqa NN vqc) (wList pw4 ps4 nh nw), .cells D13 #[.int .i64 pw4, .int .i64 ph4, .int .i64 pm4, .slice pv4a ps4.length pv4c] 26, .own (.slice pv4a ps4.length pv4c) ps4, .tape K1] [] ((((w470.setCell ⟨D464, 0, none⟩ (.int .i64 qw)).setCell ⟨D464, 1, none⟩ (.int .i64 qh)).setCell ⟨D464, 2, none⟩ (.int .i64 AR)).setCell ⟨D464, 3, none⟩ (.slice v472a ((tgL pw4 ps4 X Y qw qh).length) v472c)) from (H471.out.set4 1 rfl (.int .i64 qw) (.int .i64 qh) (.int .i64 AR) (.slice v472a ((tgL pw4 ps4 X Y qw qh).length) v472c)))
                  go_simp
                  refine hK.out _ _ ?_ (fun hHeld2 => ?_)
                  focus ((try dsimp only); (exact ⟨H481.out.cell 9 rfl 0 rfl, H481.out.cell 9 rfl 1 rfl, H481.out.cell 9 rfl 2 rfl, H481.out.cell 9 rfl 3 rfl, H481.out.cell 4 rfl 0 rfl, H481.out.cell 4 rfl 1 rfl, H481.out.cell 4 rfl 2 rfl, H481.out.cell 4 rfl 3 rfl, H481.out.cell 6 rfl 0 rfl, H481.out.cell 6 rfl 1 rfl, H481.out.cell 6 rfl 2 rfl, H481.out.cell 6 rfl 3 rfl⟩))
                  clear hK K hHeld
                  try simp only [Act.put, List.getElem_toArray, List.getElem_cons_zero, List.getElem_cons_succ, List.setIfInBounds_toArray, List.set_cons_zero, List.set_cons_succ]
                  clear z473 z474 z475 z476 z477 z478 z479 z480
                  generalize ((((w470.setCell ⟨D464, 0, none⟩ (.int .i64 qw)).setCell ⟨D464, 1, none⟩ (.int .i64 qh)).setCell ⟨D464, 2, none⟩ (.int .i64 AR)).setCell ⟨D464, 3, none⟩ (.slice v472a ((tgL pw4 ps4 X Y qw qh).length) v472c)) = k482 at *
                  have hHeld := hHeld2
                  clear hHeld2
                  refine wpAnyH_take (i := 18) (oi := _) (v := ?_) rfl (by kernel_rfl) (by kernel_rfl) (by kernel_rfl) (fun _ _ _ h => h) (Or.inl ⟨by rfl, ?_⟩) (by assumption) ?_
                  rotate_left
                  focus (intro wS hSw; (try dsimp only at hSw); go_simp; (try with_reducible rfl))
                  try simp only [Act.put, List.getElem_toArray, List.getElem_cons_zero, List.getElem_cons_succ, List.setIfInBounds_toArray, List.set_cons_zero, List.set_cons_succ]
                  refine wpAnyH_done (by kernel_rfl) ?_ _
                  try clear hHeld
                  have z483 := H481.out.cell 6 rfl 0 rfl
                  have z484 := H481.out.cell 6 rfl 1 rfl
                  have z485 := H481.out.cell 6 rfl 2 rfl
                  have z486 := H481.out.cell 6 rfl 3 rfl
                  have z487 := H481.out.cell 1 rfl 0 rfl
                  have z488 := H481.out.cell 1 rfl 1 rfl
                  have z489 := H481.out.cell 1 rfl 2 rfl
                  have z490 := H481.out.cell 1 rfl 3 rfl
                  have z491 := H481.out.cell 4 rfl 0 rfl
                  have z492 := H481.out.cell 4 rfl 1 rfl
                  have z493 := H481.out.cell 4 rfl 2 rfl
                  have z494 := H481.out.cell 4 rfl 3 rfl
                  go_wp2_with fail
                  clear z483 z484 z485 z486 z487 z488 z489 z490 z491 z492 z493 z494
                  have gb := grow_blit (zs := ps4) (mx := pm4) HVps4.out (HIO.out) HNH.out HNW.out HTA.out HCT.out q1 q2 _ _ _ _ _ _ _ (H481.out.slc 5 rfl) (H481.out.slc 0 rfl)
                  rw [HAR.out] at gb
                  refine gb.mono ?_
                  clear gb
                  rintro e w495 ⟨v497, rfl, ho, hb⟩
                  have H496 := hid (H481.out.grow hb ho)
                  obtain ⟨v497a, v497c, rfl, _⟩ := ho.slc
                  clear ho hb
                  rw [gL_len, HNN.out] at H496 ⊢
                  obtain ⟨D498, hD498⟩ : ∃ D, w495.heap.size = D := ⟨_, rfl⟩
                  go_upto_region 21 with fail
                  have H499 := hid (show St B W [.cells D498 #[.int .i64 pw4, .int .i64 ph4, .int .i64 AR, .slice v497a NN v497c] 26, .own (.slice v497a NN v497c) (gL pw4 ps4 nh nw cols ntw nth (j + 1)), .own (.slice v472a ((tgL pw4 ps4 X Y qw qh).length) v472c) (tgL pw4 ps4 X Y qw qh), .cells D464 #[.int .i64 qw, .int .i64 qh, .int .i64 AR, .slice v472a ((tgL pw4 ps4 X Y qw qh).length) v472c] 26, .own (.slice xa ((tpL pw4 ps4 X Y kt).length) xc) (tpL pw4 ps4 X Y kt), .own (.slice ya ((lfL pw4 ps4 X Y kl).length) yc) (lfL pw4 ps4 X Y kl), .cells D308 #[.int .i64 X, .int .i64 Y, .int .i64 XE, .int .i64 YE] 39, .own (.slice ga NN gc) (gL pw4 ps4 nh nw cols ntw nth j), .cells D277 #[.int .i64 pw4, .int .i64 ph4, .int .i64 AR, .slice ga NN gc] 26, .cells D22 #[.int .i64 pw4, .int .i64 ph4, .int .i64 AR, .slice vqa NN vqc] 26, .own (.slice vqa NN vqc) (wList pw4 ps4 nh nw), .cells D13 #[.int .i64 pw4, .int .i64 ph4, .int .i64 pm4, .slice pv4a ps4.length pv4c] 26, .own (.slice pv4a ps4.length pv4c) ps4, .tape K1] [] (w495.alloc (.cells #[.int .i64 pw4, .int .i64 ph4, .int .i64 AR, .slice v497a NN v497c] 26)) from (H496.out.alloc #[.int .i64 pw4, .int .i64 ph4, .int .i64 AR, .slice v497a NN v497c] 26 hD498))
                  first | refine gen_code H499.out ?_ | refine gen_list H499.out ?_ | refine gen_calls H499.out ?_
                  intro w500 hG
                  clear H499
                  have H499 := hid hG
                  clear hG
                  clear hD498
                  have z501 := H499.out.cell 0 rfl 0 rfl
                  have z502 := H499.out.cell 0 rfl 1 rfl
                  have z503 := H499.out.cell 0 rfl 2 rfl
                  have z504 := H499.out.cell 0 rfl 3 rfl
                  have z505 := H499.out.cell 8 rfl 0 rfl
                  have z506 := H499.out.free 8 rfl 0
                  have z507 := H499.out.cell 8 rfl 1 rfl
                  have z508 := H499.out.free 8 rfl 1
                  have z509 := H499.out.cell 8 rfl 2 rfl
                  have z510 := H499.out.free 8 rfl 2
                  have z511 := H499.out.cell 8 rfl 3 rfl
                  have z512 := H499.out.free 8 rfl 3
                  go_upto_region 8 with fail
                  clear z501 z502 z503 z504 z505 z506 z507 z508 z509 z510 z511 z512
                  have H513 := hid (show St B W [.cells D498 #[.int .i64 pw4, .int .i64 ph4, .int .i64 AR, .slice v497a NN v497c] 26, .own (.slice v497a NN v497c) (gL pw4 ps4 nh nw cols ntw nth (j + 1)), .own (.slice v472a ((tgL pw4 ps4 X Y qw qh).length) v472c) (tgL pw4 ps4 X Y qw qh), .cells D464 #[.int .i64 qw, .int .i64 qh, .int .i64 AR, .slice v472a ((tgL pw4 ps4 X Y qw qh).length) v472c] 26, .own (.slice xa ((tpL pw4 ps4 X Y kt).length) xc) (tpL pw4 ps4 X Y kt), .own (.slice ya ((lfL pw4 ps4 X Y kl).length) yc) (lfL pw4 ps4 X Y kl), .cells D308 #[.int .i64 X, .int .i64 Y, .int .i64 XE, .int .i64 YE] 39, .own (.slice ga NN gc) (gL pw4 ps4 nh nw cols ntw nth j), .cells D277 #[.int .i64 pw4, .int .i64 ph4, .int .i64 AR, .slice v497a NN v497c] 26, .cells D22 #[.int .i64 pw4, .int .i64 ph4, .int .i64 AR, .slice vqa NN vqc] 26, .own (.slice vqa NN vqc) (wList pw4 ps4 nh nw), .cells D13 #[.int .i64 pw4, .int .i64 ph4, .int .i64 pm4, .slice pv4a ps4.length pv4c] 26, .own (.slice pv4a ps4.length pv4c) ps4, .tape K1] [] ((((w500.setCell ⟨D277, 0, none⟩ (.int .i64 pw4)).setCell ⟨D277, 1, none⟩ (.int .i64 ph4)).setCell ⟨D277, 2, none⟩ (.int .i64 AR)).setCell ⟨D277, 3, none⟩ (.slice v497a NN v497c)) from (H499.out.set4 8 rfl (.int .i64 pw4) (.int .i64 ph4) (.int .i64 AR) (.slice v497a NN v497c)))
                  first | refine gen_code H513.out ?_ | refine gen_list H513.out ?_ | refine gen_calls H513.out ?_
                  intro w514 hG
                  clear H513
                  have H513 := hid hG
                  clear hG
                  go_wp2_with fail
                  go_roundw
                  case rel => exact ⟨j + 1, _, _, by omega, by go_num, H513.out.pick [1, 8, 9, 10, 11, 12, 13] rfl (by decide)⟩
                  case measure => first | (simp [intOf]; omega) | (simp [intOf]; done)
      · skip
        have z515 := H299.out.cell 1 rfl 0 rfl
        have z516 := H299.out.cell 1 rfl 1 rfl
        have z517 := H299.out.cell 1 rfl 2 rfl
        have z518 := H299.out.cell 1 rfl 3 rfl
        have z519 := H299.out.cell 2 rfl 0 rfl
        have z520 := H299.out.cell 2 rfl 1 rfl
        have z521 := H299.out.cell 2 rfl 2 rfl
        have z522 := H299.out.cell 2 rfl 3 rfl
        go_wp2_with fail
        clear z515 z516 z517 z518 z519 z520 z521 z522
        refine (qequal_any _ _ _ _ _ _ (gL pw4 ps4 nh nw cols ntw nth j) _ _ _ _ _ _ (wList pw4 ps4 nh nw) _ (H299.out.slc 0 rfl) (H299.out.slc 3 rfl)).mono ?_
        rintro e w523 ⟨rfl, hb⟩
        have H524 := hid (H299.out.call hb)
        clear hb
        rw [show pEq pw4 ph4 AR (gL pw4 ps4 nh nw cols ntw nth j) pw4 ph4 AR (wList pw4 ps4 nh nw) = true from by rw [show j = cols * rows by have := HCR.out; omega, gL_all (by omega) (by omega) HCT.out HRT.out]; simp [pEq]]
        go_wp2_with fail
        refine (sane13 _).mono ?_
        rintro e w525 ⟨rfl, hb⟩
        have H526 := hid (H524.out.call hb)
        clear hb
        go_wp2_with fail
        go_ret
        exact ⟨rfl, by first | exact H526.out.below | exact H526.out.below'⟩
end Go.Proofs.Ytoojiabdgaflgaa
