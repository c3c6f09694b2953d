/-
  Contracts: the tape's Bits and Third: bits of floating point values; the tape alone has changed.
-/
import Derived.Test.YtgpblcddebhphaaDoorIeeeQ
import Derived.Test.YtgpblcddebhphaaDoorArr2
namespace Go.Proofs.YtgpblcddebhphaaDoor
open Go.RowKit
attribute [local go_sem ↓] Go.wp_at_zero Go.wp_at_succ
set_option linter.unusedVariables false
set_option linter.unusedSimpArgs false

theorem wrap_rng (x : Int) : 0 ≤ IntKind.u64.wrap x ∧ IntKind.u64.wrap x < 18446744073709551616 := by rw [IntKind.wrap_u64]; omega
theorem or_rng (a b : Int) : 0 ≤ bits .or .u64 a b ∧ bits .or .u64 a b < 18446744073709551616 := wrap_rng _
def BitsPost (B0 k : Nat) (W : World) (e : Ending) (w' : World) : Prop :=
  ∃ x : Int, e = .returned (.int .u64 x) ∧ (0 ≤ x ∧ x < 18446744073709551616) ∧ TapeB B0 w' k ∧ W.grownBy w' (some k)

set_option maxRecDepth 100000 in
set_option maxHeartbeats 3200000 in
theorem bits_any (B0 k : Nat) (W : World) (ht : TapeB B0 W k) :
    Calls Tryd.prog 32 #[.pointer (some ⟨k, 0, none⟩)] W (BitsPost B0 k W) := by
  obtain ⟨B, hB⟩ : ∃ B, W.heap.size = B := ⟨_, rfl⟩
  have HI0 := hid (Tk.init ht hB)
  clear ht
  go_enter Tryd.func32, Tryd.ntmps32
  go_wp2_with fail
  refine (nextB_any B0 k _ _ (by omega) (HI0.out.tape)).mono ?_
  rintro e w2 ⟨x1, rfl, x1a, x1b, htn, hgn, hsn⟩
  have H3 := hid (HI0.out.next htn hgn)
  clear htn hgn hsn
  go_wp2_with fail
  refine (nextB_any B0 k _ _ (by omega) (H3.out.tape)).mono ?_
  rintro e w5 ⟨x4, rfl, x4a, x4b, htn, hgn, hsn⟩
  have H6 := hid (H3.out.next htn hgn)
  clear htn hgn hsn
  by_cases c7 : (x4 : Int) = 0
  · obtain ⟨c7c, c7d⟩ : (x4 : Int) ≤ 0 ∧ (0 : Int) ≤ x4 := by omega
    have c7a : ((x4 : Int) == (0)) = true := by simpa using c7
    have c7b : ((x4 : Int) != (0)) = false := by simpa using c7
    have c7h := hid c7
    clear c7
    go_wp2_with fail
    go_ret
    exact ⟨_, rfl, by first | exact or_rng _ _ | exact wrap_rng _ | omega, H6.out.tape, H6.out.grown⟩
  · have c7a : ((x4 : Int) == (0)) = false := by simpa using c7
    have c7b : ((x4 : Int) != (0)) = true := by simpa using c7
    have c7h := hid c7
    clear c7
    by_cases c8 : (x4 : Int) = 1
    · obtain ⟨c8c, c8d⟩ : (x4 : Int) ≤ 1 ∧ (1 : Int) ≤ x4 := by omega
      have c8a : ((x4 : Int) == (1)) = true := by simpa using c8
      have c8b : ((x4 : Int) != (1)) = false := by simpa using c8
      have c8h := hid c8
      clear c8
      obtain ⟨D9, hD9⟩ : ∃ D, w5.heap.size = D := ⟨_, rfl⟩
      go_wp2_with fail
      have H10 := hid (show Tk B0 k B W [.cells D9 #[.int .i64 1, .int .i64 2, .int .i64 2251799813685248, .int .i64 4503599627370495] 3] (w5.alloc (.cells #[.int .i64 1, .int .i64 2, .int .i64 2251799813685248, .int .i64 4503599627370495] 3)) from (H6.out.alloc #[.int .i64 1, .int .i64 2, .int .i64 2251799813685248, .int .i64 4503599627370495] 3 hD9))
      first | refine gen_ucode H10.out ?_ | refine gen_ulist H10.out ?_ | refine gen_ucalls H10.out ?_
      intro w11 hG
      clear H10
      have H10 := hid hG
      clear hG
      clear hD9
      refine (pickB_any B0 k _ 4 4 [1, 2, 2251799813685248, 4503599627370495] _ (by omega) (by omega) (H10.out.tape) (H10.out.lit 0 [1, 2, 2251799813685248, 4503599627370495] rfl (by simp)).row (H10.out.far 0 rfl _)).mono ?_
      rintro e w13 ⟨x12, rfl, hx12, htn, hgn, hsn⟩
      have H14 := hid (H10.out.next htn hgn)
      clear htn hgn hsn
      clear hx12
      go_wp2_with fail
      go_ret
      exact ⟨_, rfl, by first | exact or_rng _ _ | exact wrap_rng _ | omega, H14.out.tape, H14.out.grown⟩
    · have c8a : ((x4 : Int) == (1)) = false := by simpa using c8
      have c8b : ((x4 : Int) != (1)) = true := by simpa using c8
      have c8h := hid c8
      clear c8
      by_cases c15 : (x4 : Int) = 2
      · obtain ⟨c15c, c15d⟩ : (x4 : Int) ≤ 2 ∧ (2 : Int) ≤ x4 := by omega
        have c15a : ((x4 : Int) == (2)) = true := by simpa using c15
        have c15b : ((x4 : Int) != (2)) = false := by simpa using c15
        have c15h := hid c15
        clear c15
        obtain ⟨D16, hD16⟩ : ∃ D, w5.heap.size = D := ⟨_, rfl⟩
        go_wp2_with fail
        have H17 := hid (show Tk B0 k B W [.cells D16 #[.int .i64 0, .int .i64 1, .int .i64 2251799813685248] 3] (w5.alloc (.cells #[.int .i64 0, .int .i64 1, .int .i64 2251799813685248] 3)) from (H6.out.alloc #[.int .i64 0, .int .i64 1, .int .i64 2251799813685248] 3 hD16))
        first | refine gen_ucode H17.out ?_ | refine gen_ulist H17.out ?_ | refine gen_ucalls H17.out ?_
        intro w18 hG
        clear H17
        have H17 := hid hG
        clear hG
        clear hD16
        refine (pickB_any B0 k _ 3 3 [0, 1, 2251799813685248] _ (by omega) (by omega) (H17.out.tape) (H17.out.lit 0 [0, 1, 2251799813685248] rfl (by simp)).row (H17.out.far 0 rfl _)).mono ?_
        rintro e w20 ⟨x19, rfl, hx19, htn, hgn, hsn⟩
        have H21 := hid (H17.out.next htn hgn)
        clear htn hgn hsn
        clear hx19
        go_wp2_with fail
        go_ret
        exact ⟨_, rfl, by first | exact or_rng _ _ | exact wrap_rng _ | omega, H21.out.tape, H21.out.grown⟩
      · have c15a : ((x4 : Int) == (2)) = false := by simpa using c15
        have c15b : ((x4 : Int) != (2)) = true := by simpa using c15
        have c15h := hid c15
        clear c15
        by_cases c22 : (x4 : Int) = 3
        · obtain ⟨c22c, c22d⟩ : (x4 : Int) ≤ 3 ∧ (3 : Int) ≤ x4 := by omega
          have c22a : ((x4 : Int) == (3)) = true := by simpa using c22
          have c22b : ((x4 : Int) != (3)) = false := by simpa using c22
          have c22h := hid c22
          clear c22
          obtain ⟨D23, hD23⟩ : ∃ D, w5.heap.size = D := ⟨_, rfl⟩
          go_wp2_with fail
          have H24 := hid (show Tk B0 k B W [.cells D23 #[.int .i64 1023, .int .i64 1022, .int .i64 1024, .int .i64 1038, .int .i64 1037, .int .i64 960, .int .i64 963] 3] (w5.alloc (.cells #[.int .i64 1023, .int .i64 1022, .int .i64 1024, .int .i64 1038, .int .i64 1037, .int .i64 960, .int .i64 963] 3)) from (H6.out.alloc #[.int .i64 1023, .int .i64 1022, .int .i64 1024, .int .i64 1038, .int .i64 1037, .int .i64 960, .int .i64 963] 3 hD23))
          first | refine gen_ucode H24.out ?_ | refine gen_ulist H24.out ?_ | refine gen_ucalls H24.out ?_
          intro w25 hG
          clear H24
          have H24 := hid hG
          clear hG
          clear hD23
          refine (pickB_any B0 k _ 7 7 [1023, 1022, 1024, 1038, 1037, 960, 963] _ (by omega) (by omega) (H24.out.tape) (H24.out.lit 0 [1023, 1022, 1024, 1038, 1037, 960, 963] rfl (by simp)).row (H24.out.far 0 rfl _)).mono ?_
          rintro e w27 ⟨x26, rfl, hx26, htn, hgn, hsn⟩
          have H28 := hid (H24.out.next htn hgn)
          clear htn hgn hsn
          clear hx26
          go_wp2_with fail
          go_ret
          exact ⟨_, rfl, by first | exact or_rng _ _ | exact wrap_rng _ | omega, H28.out.tape, H28.out.grown⟩
        · have c22a : ((x4 : Int) == (3)) = false := by simpa using c22
          have c22b : ((x4 : Int) != (3)) = true := by simpa using c22
          have c22h := hid c22
          clear c22
          by_cases c29 : (x4 : Int) = 4
          · obtain ⟨c29c, c29d⟩ : (x4 : Int) ≤ 4 ∧ (4 : Int) ≤ x4 := by omega
            have c29a : ((x4 : Int) == (4)) = true := by simpa using c29
            have c29b : ((x4 : Int) != (4)) = false := by simpa using c29
            have c29h := hid c29
            clear c29
            go_wp2_with fail
            refine (nextB_any B0 k _ _ (by omega) (H6.out.tape)).mono ?_
            rintro e w31 ⟨x30, rfl, x30a, x30b, htn, hgn, hsn⟩
            have H32 := hid (H6.out.next htn hgn)
            clear htn hgn hsn
            go_wp2_with fail
            refine (nextB_any B0 k _ _ (by omega) (H32.out.tape)).mono ?_
            rintro e w34 ⟨x33, rfl, x33a, x33b, htn, hgn, hsn⟩
            have H35 := hid (H32.out.next htn hgn)
            clear htn hgn hsn
            go_wp2_with fail
            go_ret
            exact ⟨_, rfl, by first | exact or_rng _ _ | exact wrap_rng _ | omega, H35.out.tape, H35.out.grown⟩
          · have c29a : ((x4 : Int) == (4)) = false := by simpa using c29
            have c29b : ((x4 : Int) != (4)) = true := by simpa using c29
            have c29h := hid c29
            clear c29
            go_wp2_with fail
            refine (nextB_any B0 k _ _ (by omega) (H6.out.tape)).mono ?_
            rintro e w37 ⟨x36, rfl, x36a, x36b, htn, hgn, hsn⟩
            have H38 := hid (H6.out.next htn hgn)
            clear htn hgn hsn
            go_wp2_with fail
            refine (nextB_any B0 k _ _ (by omega) (H38.out.tape)).mono ?_
            rintro e w40 ⟨x39, rfl, x39a, x39b, htn, hgn, hsn⟩
            have H41 := hid (H38.out.next htn hgn)
            clear htn hgn hsn
            go_wp2_with fail
            go_ret
            exact ⟨_, rfl, by first | exact or_rng _ _ | exact wrap_rng _ | omega, H41.out.tape, H41.out.grown⟩

/-- Some bits in a slice of the call's own. -/
def ThirdPost (B0 k : Nat) (W : World) (e : Ending) (w' : World) : Prop :=
  ∃ (g : Nat) (us : List Int), e = .returned (.slice (some ⟨g, 0, none⟩) us.length us.length) ∧ (us.length = 2 ∨ us.length = 3) ∧ U64s us ∧ w'.ownsRow W.heap.size 52 1 (.slice (some ⟨g, 0, none⟩) us.length us.length) us.length (us.map (Value.int .u64)) ∧ TapeB B0 w' k ∧ W.grownBy w' (some k)
theorem u64s_all {us : List Int} (h : ∀ x ∈ us, 0 ≤ x ∧ x < 18446744073709551616) : U64s us := fun j => by
  rw [List.getD_eq_getElem?_getD]
  by_cases hj : j < us.length
  · rw [List.getElem?_eq_getElem hj]; exact h _ (List.getElem_mem hj)
  · rw [List.getElem?_eq_none (by omega)]; simp

set_option maxRecDepth 100000 in
set_option maxHeartbeats 3200000 in
theorem third_any (B0 k : Nat) (W : World) (ht : TapeB B0 W k) :
    Calls Tryd.prog 22 #[.pointer (some ⟨k, 0, none⟩)] W (ThirdPost B0 k W) := by
  obtain ⟨B, hB⟩ : ∃ B, W.heap.size = B := ⟨_, rfl⟩
  have HI0 := hid (Tk.init ht hB)
  clear ht
  go_enter Tryd.func22, Tryd.ntmps22
  go_wp2_with fail
  refine (nextB_any B0 k _ _ (by omega) (HI0.out.tape)).mono ?_
  rintro e w43 ⟨x42, rfl, x42a, x42b, htn, hgn, hsn⟩
  have H44 := hid (HI0.out.next htn hgn)
  clear htn hgn hsn
  by_cases c45 : (x42 : Int) = 0
  · obtain ⟨c45c, c45d⟩ : (x42 : Int) ≤ 0 ∧ (0 : Int) ≤ x42 := by omega
    have c45a : ((x42 : Int) == (0)) = true := by simpa using c45
    have c45b : ((x42 : Int) != (0)) = false := by simpa using c45
    have c45h := hid c45
    clear c45
    obtain ⟨D46, hD46⟩ : ∃ D, w43.heap.size = D := ⟨_, rfl⟩
    go_wp2_with fail
    have H47 := hid (show Tk B0 k B W [.cells D46 #[.int .u64 4599676419421066581, .int .u64 4599676419421066581, .int .u64 4599676419421066581] 52] (w43.alloc (.cells #[.int .u64 4599676419421066581, .int .u64 4599676419421066581, .int .u64 4599676419421066581] 52)) from (H44.out.alloc #[.int .u64 4599676419421066581, .int .u64 4599676419421066581, .int .u64 4599676419421066581] 52 hD46))
    clear hD46
    have HO := hid (H47.out.litArr2 0 1 3 ([4599676419421066581, 4599676419421066581, 4599676419421066581].map (Value.int .u64)) rfl rfl (by decide))
    go_ret
    exact ⟨_, [4599676419421066581, 4599676419421066581, 4599676419421066581], rfl, by simp, u64s_all (by intro x hx; simp only [List.mem_cons, List.not_mem_nil, or_false] at hx; omega), by rw [hB]; exact HO.out.arrOf 0 rfl, H47.out.tape, H47.out.grown⟩
  · have c45a : ((x42 : Int) == (0)) = false := by simpa using c45
    have c45b : ((x42 : Int) != (0)) = true := by simpa using c45
    have c45h := hid c45
    clear c45
    by_cases c48 : (x42 : Int) = 1
    · obtain ⟨c48c, c48d⟩ : (x42 : Int) ≤ 1 ∧ (1 : Int) ≤ x42 := by omega
      have c48a : ((x42 : Int) == (1)) = true := by simpa using c48
      have c48b : ((x42 : Int) != (1)) = false := by simpa using c48
      have c48h := hid c48
      clear c48
      obtain ⟨D49, hD49⟩ : ∃ D, w43.heap.size = D := ⟨_, rfl⟩
      go_wp2_with fail
      have H50 := hid (show Tk B0 k B W [.cells D49 #[.int .u64 4602678819172646912, .int .u64 4602678819172646912] 52] (w43.alloc (.cells #[.int .u64 4602678819172646912, .int .u64 4602678819172646912] 52)) from (H44.out.alloc #[.int .u64 4602678819172646912, .int .u64 4602678819172646912] 52 hD49))
      clear hD49
      have HO := hid (H50.out.litArr2 0 1 2 ([4602678819172646912, 4602678819172646912].map (Value.int .u64)) rfl rfl (by decide))
      go_ret
      exact ⟨_, [4602678819172646912, 4602678819172646912], rfl, by simp, u64s_all (by intro x hx; simp only [List.mem_cons, List.not_mem_nil, or_false] at hx; omega), by rw [hB]; exact HO.out.arrOf 0 rfl, H50.out.tape, H50.out.grown⟩
    · have c48a : ((x42 : Int) == (1)) = false := by simpa using c48
      have c48b : ((x42 : Int) != (1)) = true := by simpa using c48
      have c48h := hid c48
      clear c48
      by_cases c51 : (x42 : Int) = 2
      · obtain ⟨c51c, c51d⟩ : (x42 : Int) ≤ 2 ∧ (2 : Int) ≤ x42 := by omega
        have c51a : ((x42 : Int) == (2)) = true := by simpa using c51
        have c51b : ((x42 : Int) != (2)) = false := by simpa using c51
        have c51h := hid c51
        clear c51
        obtain ⟨D52, hD52⟩ : ∃ D, w43.heap.size = D := ⟨_, rfl⟩
        go_wp2_with fail
        have H53 := hid (show Tk B0 k B W [.cells D52 #[.int .u64 13812540057145311232, .int .u64 4607745368753438720, .int .u64 13812540057145311232] 52] (w43.alloc (.cells #[.int .u64 13812540057145311232, .int .u64 4607745368753438720, .int .u64 13812540057145311232] 52)) from (H44.out.alloc #[.int .u64 13812540057145311232, .int .u64 4607745368753438720, .int .u64 13812540057145311232] 52 hD52))
        clear hD52
        have HO := hid (H53.out.litArr2 0 1 3 ([13812540057145311232, 4607745368753438720, 13812540057145311232].map (Value.int .u64)) rfl rfl (by decide))
        go_ret
        exact ⟨_, [13812540057145311232, 4607745368753438720, 13812540057145311232], rfl, by simp, u64s_all (by intro x hx; simp only [List.mem_cons, List.not_mem_nil, or_false] at hx; omega), by rw [hB]; exact HO.out.arrOf 0 rfl, H53.out.tape, H53.out.grown⟩
      · have c51a : ((x42 : Int) == (2)) = false := by simpa using c51
        have c51b : ((x42 : Int) != (2)) = true := by simpa using c51
        have c51h := hid c51
        clear c51
        go_wp2_with fail
        refine (bits_any B0 k _ (H44.out.tape)).mono ?_
        rintro e w55 ⟨b54, rfl, ⟨b54a, b54b⟩, htn, hgn⟩
        have H56 := hid (H44.out.next htn hgn)
        clear htn hgn
        go_wp2_with fail
        refine (bits_any B0 k _ (H56.out.tape)).mono ?_
        rintro e w58 ⟨b57, rfl, ⟨b57a, b57b⟩, htn, hgn⟩
        have H59 := hid (H56.out.next htn hgn)
        clear htn hgn
        obtain ⟨D60, hD60⟩ : ∃ D, w58.heap.size = D := ⟨_, rfl⟩
        go_wp2_with fail
        have H61 := hid (show Tk B0 k B W [.cells D60 #[.int .u64 b54, .int .u64 b57] 52] (w58.alloc (.cells #[.int .u64 b54, .int .u64 b57] 52)) from (H59.out.alloc #[.int .u64 b54, .int .u64 b57] 52 hD60))
        clear hD60
        have HO := hid (H61.out.litArr2 0 1 2 ([b54, b57].map (Value.int .u64)) rfl rfl (by decide))
        go_ret
        exact ⟨_, [b54, b57], rfl, by simp, u64s_all (by intro x hx; simp only [List.mem_cons, List.not_mem_nil, or_false] at hx; omega), by rw [hB]; exact HO.out.arrOf 0 rfl, H61.out.tape, H61.out.grown⟩
end Go.Proofs.YtgpblcddebhphaaDoor
