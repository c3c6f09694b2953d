/-
  The walk of PointwisePrograms: programs are valid, and have the intervals and values, or the errors, of the reference.
-/
import Derived.Test.YtnnpnljdefmmcaaPwProg
import Derived.Test.YtnnpnljdefmmcaaPw11
namespace Go.Proofs.Ytnnpnljdefmmcaa
open Go.RowKit
attribute [local go_sem ↓] Go.wp_at_zero Go.wp_at_succ
set_option linter.unusedVariables false
set_option linter.unusedSimpArgs false

set_option maxRecDepth 100000 in
set_option maxHeartbeats 12800000 in
theorem walk_PointwisePrograms (a : Option Addr) (n c : Nat) (zs : List Int) (la : Option Addr) (lx lc : Nat) (ls : List (Int × Int)) (two : Bool) (p q : Int) (W : World) (hr : RowIn .i64 W a n c zs) (hl : Prs W la lx lc ls) (_ : I64 p) (_ : I64 q) :
    Calls Try.prog 6 #[.slice a n c, .slice la lx lc, .bool two, .int .i64 p, .int .i64 q] W fun e w' => e = .returned (.bool true) ∧ Below W.heap.size W w' := by
  obtain ⟨B, hB⟩ : ∃ B, W.heap.size = B := ⟨_, rfl⟩
  have HI0 := hid (St.init hB)
  have HN := hid (nearRow hr hB)
  have HR := hid hr
  clear hr
  have HLP := hid hl
  clear hl
  go_enter Try.func6, Try.ntmps6
  go_wp2_with fail
  obtain ⟨K122, hK122⟩ : ∃ D, W.heap.size = D := ⟨_, rfl⟩
  refine (newB_any B _ _ _ _ _ HR.out.len (HI0.out.oldRow HR.out.row) HN.out HI0.out.size).mono ?_
  rintro e w123 ⟨rfl, ht, hb, hs⟩
  rw [hK122] at ht ⊢
  have H124 := hid (HI0.out.newTape ht hb hK122)
  clear ht hb hs hK122
  go_wp2_with fail
  go_loopw [12] (fun i wr => ∃ j : Nat, j ≤ 6 ∧ i = .int .i64 j ∧ St B W [.tape K122] [] wr) (fun i _ => 6 - (intOf i).toNat)
  case atStart => exact ⟨0, by omega, rfl, H124.out⟩
  case round =>
    obtain ⟨j, hj, rfl, hst⟩ := hrel
    obtain ⟨u125, rfl⟩ : ∃ u125 : World, u125 = wr := ⟨_, rfl⟩
    have H126 := hid hst
    clear hst
    by_cases c127 : (j : Int) < 6
    · skip
      go_wp2_with fail
      refine (program_any B K122 _ (H126.out.tapeAt 0 rfl)).mono ?_
      rintro e w128 ⟨v130, L131, rfl, _, hl1, hl2, ho, ht, hg⟩
      obtain ⟨ln134, hln134⟩ : ∃ q, L131.length = q := ⟨_, rfl⟩
      rw [hln134] at ho hl1 hl2
      have H129 := hid (H126.out.addE (H126.out.next 0 rfl ht hg) ho)
      obtain ⟨g132, c133, hva⟩ := arr_pos ho (by omega)
      subst hva
      obtain ⟨ln134a, ln134b⟩ := And.intro hl1 hl2
      clear ho ht hg hln134 hl1 hl2
      obtain ⟨D135, hD135⟩ : ∃ D, w128.heap.size = D := ⟨_, rfl⟩
      go_wp2_with fail
      have H136 := hid (show St B W [.cells D135 #[.int .i64 255, .int .i64 65535, .int .i64 4294967296, .int .i64 0] 3, .arr (60) 2 (.slice (some ⟨g132, 0, none⟩) ln134 c133) ln134 (prV L131), .tape K122] [] (w128.alloc (.cells #[.int .i64 255, .int .i64 65535, .int .i64 4294967296, .int .i64 0] 3)) from (H129.out.alloc #[.int .i64 255, .int .i64 65535, .int .i64 4294967296, .int .i64 0] 3 hD135))
      first | refine gen_code H136.out ?_ | refine gen_list H136.out ?_ | refine gen_calls H136.out ?_
      intro w137 hG
      clear H136
      have H136 := hid hG
      clear hG
      clear hD135
      refine (pickB_any B K122 _ 4 4 [255, 65535, 4294967296, 0] _ (by omega) (by omega) (H136.out.tapeAt 2 rfl) (H136.out.lit 0 [255, 65535, 4294967296, 0] rfl (by simp)).row (.inr ⟨_, rfl, H136.out.ne 0 2 rfl rfl (by decide) rfl rfl⟩)).mono ?_
      rintro e w139 ⟨x138, rfl, hx138, htn, hgn, hsn⟩
      have H140 := hid (H136.out.next 2 rfl htn hgn)
      clear htn hgn hsn
      clear hx138
      obtain ⟨D141, hD141⟩ : ∃ D, w139.heap.size = D := ⟨_, rfl⟩
      go_wp2_with fail
      have H142 := hid (show St B W [.cells D141 #[.int .i64 255, .int .i64 1, .int .i64 4294967297] 3, .cells D135 #[.int .i64 255, .int .i64 65535, .int .i64 4294967296, .int .i64 0] 3, .arr (60) 2 (.slice (some ⟨g132, 0, none⟩) ln134 c133) ln134 (prV L131), .tape K122] [] (w139.alloc (.cells #[.int .i64 255, .int .i64 1, .int .i64 4294967297] 3)) from (H140.out.alloc #[.int .i64 255, .int .i64 1, .int .i64 4294967297] 3 hD141))
      first | refine gen_code H142.out ?_ | refine gen_list H142.out ?_ | refine gen_calls H142.out ?_
      intro w143 hG
      clear H142
      have H142 := hid hG
      clear hG
      clear hD141
      refine (pickB_any B K122 _ 3 3 [255, 1, 4294967297] _ (by omega) (by omega) (H142.out.tapeAt 3 rfl) (H142.out.lit 0 [255, 1, 4294967297] rfl (by simp)).row (.inr ⟨_, rfl, H142.out.ne 0 3 rfl rfl (by decide) rfl rfl⟩)).mono ?_
      rintro e w145 ⟨x144, rfl, hx144, htn, hgn, hsn⟩
      have H146 := hid (H142.out.next 3 rfl htn hgn)
      clear htn hgn hsn
      clear hx144
      go_wp2_with fail
      refine (nextB_any B K122 _ _ (by omega) (H146.out.tapeAt 3 rfl)).mono ?_
      rintro e w148 ⟨x147, rfl, x147a, x147b, htn, hgn, hsn⟩
      have H149 := hid (H146.out.next 3 rfl htn hgn)
      clear htn hgn hsn
      go_wp2_with fail
      refine (nextB_any B K122 _ _ (by omega) (H149.out.tapeAt 3 rfl)).mono ?_
      rintro e w151 ⟨x150, rfl, x150a, x150b, htn, hgn, hsn⟩
      have H152 := hid (H149.out.next 3 rfl htn hgn)
      clear htn hgn hsn
      by_cases hN : j = 5
      · skip
        subst hN
        go_wp2_with fail
        refine (pinterval_any _ _ _ ls _ _ _ (H152.out.oldPrs HLP.out)).mono ?_
        rintro e w153 ⟨rfl, hb⟩
        have H154 := hid (H152.out.call hb)
        clear hb
        obtain ⟨n155, hn155⟩ : ∃ xx', (ivR ls p q).1 = xx' := ⟨_, rfl⟩
        rw [hn155]
        have HNn155 := hid hn155
        clear hn155
        obtain ⟨n156, hn156⟩ : ∃ xx', (ivR ls p q).2.1 = xx' := ⟨_, rfl⟩
        rw [hn156]
        have HNn156 := hid hn156
        clear hn156
        obtain ⟨c157, hc157⟩ : ∃ xx', (ivR ls p q).2.2 = xx' := ⟨_, rfl⟩
        rw [hc157]
        have HNc157 := hid hc157
        clear hc157
        go_wp2_with fail
        refine (rinterval_any _ _ _ ls _ _ _ (H154.out.oldPrs HLP.out)).mono ?_
        rintro e w158 ⟨rfl, hb⟩
        have H159 := hid (H154.out.call hb)
        clear hb
        rw [HNn155.out]
        rw [HNn156.out]
        rw [HNc157.out]
        go_wp2_with fail
        refine (peval_any _ _ _ ls _ _ _ (H159.out.oldPrs HLP.out)).mono ?_
        rintro e w160 ⟨rfl, hb⟩
        have H161 := hid (H159.out.call hb)
        clear hb
        obtain ⟨n162, hn162⟩ : ∃ xx', (evR ls p q).1 = xx' := ⟨_, rfl⟩
        rw [hn162]
        have HNn162 := hid hn162
        clear hn162
        obtain ⟨c163, hc163⟩ : ∃ xx', (evR ls p q).2 = xx' := ⟨_, rfl⟩
        rw [hc163]
        have HNc163 := hid hc163
        clear hc163
        go_wp2_with fail
        refine (reval_any _ _ _ ls _ _ _ (H161.out.oldPrs HLP.out)).mono ?_
        rintro e w164 ⟨rfl, hb⟩
        have H165 := hid (H161.out.call hb)
        clear hb
        rw [HNn162.out]
        rw [HNc163.out]
        go_wp2_with fail
        refine (pvalid_any14 _ _ _ ls two _ (H165.out.oldPrs HLP.out)).mono ?_
        rintro e w166 ⟨rfl, hb⟩
        have H167 := hid (H165.out.call hb)
        clear hb
        obtain ⟨c168, hc168⟩ : ∃ xx', vCode ls two = xx' := ⟨_, rfl⟩
        rw [hc168]
        have HNc168 := hid hc168
        clear hc168
        go_wp2_with fail
        refine (rvalid_any14 _ _ _ ls two _ (H167.out.oldPrs HLP.out)).mono ?_
        rintro e w169 ⟨rfl, hb⟩
        have H170 := hid (H167.out.call hb)
        clear hb
        rw [HNc168.out]
        go_wp2_with fail
        refine (pvalid_any14 _ _ _ ls (!two) _ (H170.out.oldPrs HLP.out)).mono ?_
        rintro e w171 ⟨rfl, hb⟩
        have H172 := hid (H170.out.call hb)
        clear hb
        obtain ⟨c173, hc173⟩ : ∃ xx', vCode ls (!two) = xx' := ⟨_, rfl⟩
        rw [hc173]
        have HNc173 := hid hc173
        clear hc173
        go_wp2_with fail
        refine (rvalid_any14 _ _ _ ls (!two) _ (H172.out.oldPrs HLP.out)).mono ?_
        rintro e w174 ⟨rfl, hb⟩
        have H175 := hid (H172.out.call hb)
        clear hb
        rw [HNc173.out]
        go_wp2_with fail
        go_roundw
        case rel => exact ⟨5 + 1, by omega, by go_num, H175.out.pick [3] rfl (by decide)⟩
        case measure => first | (simp [intOf]; omega) | (simp [intOf]; done)
      · skip
        have hN5 : ((j : Int) == 5) = false := by simp; omega
        clear hN
        go_wp2_with fail
        refine (pinterval_any _ _ _ L131 _ _ _ (H152.out.prs 2 rfl)).mono ?_
        rintro e w176 ⟨rfl, hb⟩
        have H177 := hid (H152.out.call hb)
        clear hb
        obtain ⟨n178, hn178⟩ : ∃ xx', (ivR L131 x138 x144).1 = xx' := ⟨_, rfl⟩
        rw [hn178]
        have HNn178 := hid hn178
        clear hn178
        obtain ⟨n179, hn179⟩ : ∃ xx', (ivR L131 x138 x144).2.1 = xx' := ⟨_, rfl⟩
        rw [hn179]
        have HNn179 := hid hn179
        clear hn179
        obtain ⟨c180, hc180⟩ : ∃ xx', (ivR L131 x138 x144).2.2 = xx' := ⟨_, rfl⟩
        rw [hc180]
        have HNc180 := hid hc180
        clear hc180
        go_wp2_with fail
        refine (rinterval_any _ _ _ L131 _ _ _ (H177.out.prs 2 rfl)).mono ?_
        rintro e w181 ⟨rfl, hb⟩
        have H182 := hid (H177.out.call hb)
        clear hb
        rw [HNn178.out]
        rw [HNn179.out]
        rw [HNc180.out]
        go_wp2_with fail
        refine (peval_any _ _ _ L131 _ _ _ (H182.out.prs 2 rfl)).mono ?_
        rintro e w183 ⟨rfl, hb⟩
        have H184 := hid (H182.out.call hb)
        clear hb
        obtain ⟨n185, hn185⟩ : ∃ xx', (evR L131 x147 x150).1 = xx' := ⟨_, rfl⟩
        rw [hn185]
        have HNn185 := hid hn185
        clear hn185
        obtain ⟨c186, hc186⟩ : ∃ xx', (evR L131 x147 x150).2 = xx' := ⟨_, rfl⟩
        rw [hc186]
        have HNc186 := hid hc186
        clear hc186
        go_wp2_with fail
        refine (reval_any _ _ _ L131 _ _ _ (H184.out.prs 2 rfl)).mono ?_
        rintro e w187 ⟨rfl, hb⟩
        have H188 := hid (H184.out.call hb)
        clear hb
        rw [HNn185.out]
        rw [HNc186.out]
        go_wp2_with fail
        refine (pvalid_any14 _ _ _ L131 two _ (H188.out.prs 2 rfl)).mono ?_
        rintro e w189 ⟨rfl, hb⟩
        have H190 := hid (H188.out.call hb)
        clear hb
        obtain ⟨c191, hc191⟩ : ∃ xx', vCode L131 two = xx' := ⟨_, rfl⟩
        rw [hc191]
        have HNc191 := hid hc191
        clear hc191
        go_wp2_with fail
        refine (rvalid_any14 _ _ _ L131 two _ (H190.out.prs 2 rfl)).mono ?_
        rintro e w192 ⟨rfl, hb⟩
        have H193 := hid (H190.out.call hb)
        clear hb
        rw [HNc191.out]
        go_wp2_with fail
        refine (pvalid_any14 _ _ _ L131 (!two) _ (H193.out.prs 2 rfl)).mono ?_
        rintro e w194 ⟨rfl, hb⟩
        have H195 := hid (H193.out.call hb)
        clear hb
        obtain ⟨c196, hc196⟩ : ∃ xx', vCode L131 (!two) = xx' := ⟨_, rfl⟩
        rw [hc196]
        have HNc196 := hid hc196
        clear hc196
        go_wp2_with fail
        refine (rvalid_any14 _ _ _ L131 (!two) _ (H195.out.prs 2 rfl)).mono ?_
        rintro e w197 ⟨rfl, hb⟩
        have H198 := hid (H195.out.call hb)
        clear hb
        rw [HNc196.out]
        go_wp2_with fail
        go_roundw
        case rel => exact ⟨j + 1, by omega, by go_num, H198.out.pick [3] rfl (by decide)⟩
        case measure => first | (simp [intOf]; omega) | (simp [intOf]; done)
    · skip
      go_wp2_with fail
      refine (sane14 _).mono ?_
      rintro e w199 ⟨rfl, hb⟩
      have H200 := hid (H126.out.call hb)
      clear hb
      go_wp2_with fail
      go_ret
      exact ⟨rfl, by first | exact H200.out.below | exact H200.out.below'⟩
end Go.Proofs.Ytnnpnljdefmmcaa
