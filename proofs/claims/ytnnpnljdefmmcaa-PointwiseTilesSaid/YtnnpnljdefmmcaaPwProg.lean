/-
  Contract: programs that are valid in most cases.
-/
import Derived.Test.YtnnpnljdefmmcaaOps
namespace Go.Proofs.Ytnnpnljdefmmcaa
open Go.RowKit
attribute [local go_sem ↓] Go.wp_at_zero Go.wp_at_succ
set_option linter.unusedVariables false
set_option linter.unusedSimpArgs false

set_option maxRecDepth 100000 in
set_option maxHeartbeats 6400000 in
theorem program_any (B0 k : Nat) (W : World) (ht : TapeB B0 W k) :
    Calls Try.prog 31 #[.pointer (some ⟨k, 0, none⟩)] W (OpsPost (fun _ => True) B0 k W) := by
  obtain ⟨B, hB⟩ : ∃ B, W.heap.size = B := ⟨_, rfl⟩
  have HI0 := hid (Tk.init ht hB)
  clear ht
  go_enter Try.func31, Try.ntmps31
  go_wp2_with fail
  refine (nextB_any B0 k _ _ (by omega) (HI0.out.tape)).mono ?_
  rintro e w123 ⟨x122, rfl, x122a, x122b, htn, hgn, hsn⟩
  have H124 := hid (HI0.out.next htn hgn)
  clear htn hgn hsn
  go_wp2_with fail
  refine (ops_any B0 k (x122 == 0) _ (H124.out.tape)).mono ?_
  rintro e w125 ⟨v127, L128, rfl, hoi, hl1, hl2, ho, ht, hg⟩
  obtain ⟨ln131, hln131⟩ : ∃ q, L128.length = q := ⟨_, rfl⟩
  rw [hln131] at ho hl1 hl2
  have HLNL128 := hid hln131
  have H126 := hid (H124.out.addE ht hg ho)
  obtain ⟨g129, c130, hva⟩ := arr_pos ho (by omega)
  subst hva
  have ln131d : ln131 ≤ 9 := by obtain ⟨q, hq, hm⟩ := hoi; have := hm.len; omega
  have HOL128 := hid hoi
  obtain ⟨ln131a, ln131b⟩ := And.intro hl1 hl2
  clear ho ht hg hoi hln131 hl1 hl2
  go_wp2_with fail
  refine (nextB_any B0 k _ _ (by omega) (H126.out.tape)).mono ?_
  rintro e w133 ⟨x132, rfl, x132a, x132b, htn, hgn, hsn⟩
  have H134 := hid (H126.out.next htn hgn)
  clear htn hgn hsn
  by_cases c135 : (x132 : Int) = 3
  · obtain ⟨c135c, c135d⟩ : (x132 : Int) ≤ 3 ∧ (3 : Int) ≤ x132 := by omega
    have c135a : ((x132 : Int) == (3)) = true := by simpa using c135
    have c135b : ((x132 : Int) != (3)) = false := by simpa using c135
    have c135h := hid c135
    clear c135
    go_wp2_with fail
    refine (nextB_any B0 k _ _ (by omega) (H134.out.tape)).mono ?_
    rintro e w137 ⟨x136, rfl, x136a, x136b, htn, hgn, hsn⟩
    have H138 := hid (H134.out.next htn hgn)
    clear htn hgn hsn
    obtain ⟨D139, hD139⟩ : ∃ D, w137.heap.size = D := ⟨_, rfl⟩
    go_wp2_with fail
    have H140 := hid (show Tk B0 k B W [.cells D139 #[.int .i64 0, .int .i64 1, .int .i64 25, .int .i64 4294967297] 3, .arr (60) 2 (.slice (some ⟨g129, 0, none⟩) ln131 c130) ln131 (prV L128)] (w137.alloc (.cells #[.int .i64 0, .int .i64 1, .int .i64 25, .int .i64 4294967297] 3)) from (H138.out.alloc #[.int .i64 0, .int .i64 1, .int .i64 25, .int .i64 4294967297] 3 hD139))
    first | refine gen_tcode H140.out ?_ | refine gen_tlist H140.out ?_ | refine gen_tcalls H140.out ?_
    intro w141 hG
    clear H140
    have H140 := hid hG
    clear hG
    clear hD139
    refine (pickB_any B0 k _ 4 4 [0, 1, 25, 4294967297] _ (by omega) (by omega) (H140.out.tape) (H140.out.lit 0 [0, 1, 25, 4294967297] rfl (by simp)).row (H140.out.far 0 rfl _)).mono ?_
    rintro e w143 ⟨x142, rfl, hx142, htn, hgn, hsn⟩
    have H144 := hid (H140.out.next htn hgn)
    clear htn hgn hsn
    clear hx142
    obtain ⟨D145, hD145⟩ : ∃ D, w143.heap.size = D := ⟨_, rfl⟩
    have H146 := hid (show Tk B0 k B W [.cells D145 #[.int .i64 (x136 - 1), .int .i64 x142] 60, .cells D139 #[.int .i64 0, .int .i64 1, .int .i64 25, .int .i64 4294967297] 3, .arr (60) 2 (.slice (some ⟨g129, 0, none⟩) ln131 c130) ln131 (prV L128)] (w143.alloc (.cells #[.int .i64 (x136 - 1), .int .i64 x142] 60)) from (H144.out.alloc #[.int .i64 (x136 - 1), .int .i64 x142] 60 hD145))
    go_upto_region 7 with (at_builtin; refine append_vals rfl _ _ 31 60 2 16 (.agg #[.int .i64 0, .int .i64 0]) Try.underlying31 info_op rfl (by decide) (by decide) rfl B _ _ _ D145 1 1 [.int .i64 (x136 - 1), .int .i64 x142] rfl rfl rfl (H146.out.arrE 2 rfl) (H146.out.news 0 [.int .i64 (x136 - 1), .int .i64 x142] rfl) (by intro u hu; simp at hu; rcases hu with rfl | rfl <;> rfl) (by omega) H146.out.size ?_; intro v149 w150 ho hg hv; have H147 := hid (H146.out.appendE 2 rfl ho hg hv); clear ho hg hv)
    clear H146
    obtain ⟨g151, c152, hva⟩ := arr_pos (H147.out.arrE 2 rfl) (by omega)
    subst hva
    rw [show prV L128 ++ [.int .i64 (x136 - 1), .int .i64 x142] = prV (L128 ++ [(x136 - 1, x142)]) from by rw [prV_app]; rfl] at H147
    have H148 := hid (show Tk B0 k B W [.cells D139 #[.int .i64 0, .int .i64 1, .int .i64 25, .int .i64 4294967297] 3, .arr (60) 2 (.slice (some ⟨g151, 0, none⟩) (ln131 + 1) c152) (ln131 + 1) (prV (L128 ++ [(x136 - 1, x142)]))] w150 from H147.out.pick [1, 2] rfl (by decide))
    clear hD145
    go_wp2_with fail
    have hll := arr_len (H148.out.arrE 1 rfl)
    go_ret
    exact ⟨_, (L128 ++ [(x136 - 1, x142)]), rfl, trivial, by omega, by omega, by rw [hB, hll]; exact H148.out.arrE 1 rfl, H148.out.tape, H148.out.grown⟩
  · have c135a : ((x132 : Int) == (3)) = false := by simpa using c135
    have c135b : ((x132 : Int) != (3)) = true := by simpa using c135
    have c135h := hid c135
    clear c135
    by_cases c153 : (x132 : Int) = 4
    · obtain ⟨c153c, c153d⟩ : (x132 : Int) ≤ 4 ∧ (4 : Int) ≤ x132 := by omega
      have c153a : ((x132 : Int) == (4)) = true := by simpa using c153
      have c153b : ((x132 : Int) != (4)) = false := by simpa using c153
      have c153h := hid c153
      clear c153
      obtain ⟨D154, hD154⟩ : ∃ D, w133.heap.size = D := ⟨_, rfl⟩
      go_wp2_with fail
      have H155 := hid (show Tk B0 k B W [.cells D154 #[.int .i64 4294967296, .int .i64 (-4294967296), .int .i64 1048576] 3, .arr (60) 2 (.slice (some ⟨g129, 0, none⟩) ln131 c130) ln131 (prV L128)] (w133.alloc (.cells #[.int .i64 4294967296, .int .i64 (-4294967296), .int .i64 1048576] 3)) from (H134.out.alloc #[.int .i64 4294967296, .int .i64 (-4294967296), .int .i64 1048576] 3 hD154))
      first | refine gen_tcode H155.out ?_ | refine gen_tlist H155.out ?_ | refine gen_tcalls H155.out ?_
      intro w156 hG
      clear H155
      have H155 := hid hG
      clear hG
      clear hD154
      refine (pickB_any B0 k _ 3 3 [4294967296, (-4294967296), 1048576] _ (by omega) (by omega) (H155.out.tape) (H155.out.lit 0 [4294967296, (-4294967296), 1048576] rfl (by simp)).row (H155.out.far 0 rfl _)).mono ?_
      rintro e w158 ⟨x157, rfl, hx157, htn, hgn, hsn⟩
      have H159 := hid (H155.out.next htn hgn)
      clear htn hgn hsn
      clear hx157
      obtain ⟨D160, hD160⟩ : ∃ D, w158.heap.size = D := ⟨_, rfl⟩
      have H161 := hid (show Tk B0 k B W [.cells D160 #[.int .i64 2, .int .i64 x157, .int .i64 5, .int .i64 0] 60, .cells D154 #[.int .i64 4294967296, .int .i64 (-4294967296), .int .i64 1048576] 3, .arr (60) 2 (.slice (some ⟨g129, 0, none⟩) ln131 c130) ln131 (prV L128)] (w158.alloc (.cells #[.int .i64 2, .int .i64 x157, .int .i64 5, .int .i64 0] 60)) from (H159.out.alloc #[.int .i64 2, .int .i64 x157, .int .i64 5, .int .i64 0] 60 hD160))
      go_upto_region 7 with (at_builtin; refine append_vals rfl _ _ 31 60 2 16 (.agg #[.int .i64 0, .int .i64 0]) Try.underlying31 info_op rfl (by decide) (by decide) rfl B _ _ _ D160 2 2 [.int .i64 2, .int .i64 x157, .int .i64 5, .int .i64 0] rfl rfl rfl (H161.out.arrE 2 rfl) (H161.out.news 0 [.int .i64 2, .int .i64 x157, .int .i64 5, .int .i64 0] rfl) (by intro u hu; simp at hu; rcases hu with rfl | rfl | rfl | rfl <;> rfl) (by omega) H161.out.size ?_; intro v164 w165 ho hg hv; have H162 := hid (H161.out.appendE 2 rfl ho hg hv); clear ho hg hv)
      clear H161
      obtain ⟨g166, c167, hva⟩ := arr_pos (H162.out.arrE 2 rfl) (by omega)
      subst hva
      rw [show prV L128 ++ [.int .i64 2, .int .i64 x157, .int .i64 5, .int .i64 0] = prV (L128 ++ [(2, x157), (5, 0)]) from by rw [prV_app]; rfl] at H162
      have H163 := hid (show Tk B0 k B W [.cells D154 #[.int .i64 4294967296, .int .i64 (-4294967296), .int .i64 1048576] 3, .arr (60) 2 (.slice (some ⟨g166, 0, none⟩) (ln131 + 2) c167) (ln131 + 2) (prV (L128 ++ [(2, x157), (5, 0)]))] w165 from H162.out.pick [1, 2] rfl (by decide))
      clear hD160
      go_wp2_with fail
      have hll := arr_len (H163.out.arrE 1 rfl)
      go_ret
      exact ⟨_, (L128 ++ [(2, x157), (5, 0)]), rfl, trivial, by omega, by omega, by rw [hB, hll]; exact H163.out.arrE 1 rfl, H163.out.tape, H163.out.grown⟩
    · have c153a : ((x132 : Int) == (4)) = false := by simpa using c153
      have c153b : ((x132 : Int) != (4)) = true := by simpa using c153
      have c153h := hid c153
      clear c153
      go_wp2_with fail
      have hll := arr_len (H134.out.arrE 0 rfl)
      go_ret
      exact ⟨_, L128, rfl, trivial, by omega, by omega, by rw [hB, hll]; exact H134.out.arrE 0 rfl, H134.out.tape, H134.out.grown⟩
end Go.Proofs.Ytnnpnljdefmmcaa
