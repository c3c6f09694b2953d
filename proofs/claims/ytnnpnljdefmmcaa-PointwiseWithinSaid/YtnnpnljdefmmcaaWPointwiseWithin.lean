/-
  The walk of PointwiseWithin: values are within the interval of a program.
-/
import Derived.Test.YtnnpnljdefmmcaaPwProg
namespace Go.Proofs.Ytnnpnljdefmmcaa
open Go.RowKit
attribute [local go_sem ↓] Go.wp_at_zero Go.wp_at_succ
set_option linter.unusedVariables false
set_option linter.unusedSimpArgs false

set_option maxRecDepth 100000 in
set_option maxHeartbeats 12800000 in
theorem walk_PointwiseWithin (a : Option Addr) (n c : Nat) (zs : List Int) (p q : Int) (W : World) (hr : RowIn .i64 W a n c zs) (_ : I64 p) (_ : I64 q) :
    Calls Try.prog 7 #[.slice a n c, .int .i64 p, .int .i64 q] W fun e w' => e = .returned (.bool true) ∧ Below W.heap.size W w' := by
  obtain ⟨B, hB⟩ : ∃ B, W.heap.size = B := ⟨_, rfl⟩
  have HI0 := hid (St.init hB)
  have HN := hid (nearRow hr hB)
  have HR := hid hr
  clear hr
  go_enter Try.func7, Try.ntmps7
  go_wp2_with fail
  obtain ⟨K122, hK122⟩ : ∃ D, W.heap.size = D := ⟨_, rfl⟩
  refine (newB_any B _ _ _ _ _ HR.out.len (HI0.out.oldRow HR.out.row) HN.out HI0.out.size).mono ?_
  rintro e w123 ⟨rfl, ht, hb, hs⟩
  rw [hK122] at ht ⊢
  have H124 := hid (HI0.out.newTape ht hb hK122)
  clear ht hb hs hK122
  go_wp2_with fail
  refine (program_any B K122 _ (H124.out.tapeAt 0 rfl)).mono ?_
  rintro e w125 ⟨v127, L128, rfl, _, hl1, hl2, ho, ht, hg⟩
  obtain ⟨ln131, hln131⟩ : ∃ q, L128.length = q := ⟨_, rfl⟩
  rw [hln131] at ho hl1 hl2
  have H126 := hid (H124.out.addE (H124.out.next 0 rfl ht hg) ho)
  obtain ⟨g129, c130, hva⟩ := arr_pos ho (by omega)
  subst hva
  obtain ⟨ln131a, ln131b⟩ := And.intro hl1 hl2
  clear ho ht hg hln131 hl1 hl2
  go_wp2_with fail
  refine (nextB_any B K122 _ _ (by omega) (H126.out.tapeAt 1 rfl)).mono ?_
  rintro e w133 ⟨x132, rfl, x132a, x132b, htn, hgn, hsn⟩
  have H134 := hid (H126.out.next 1 rfl htn hgn)
  clear htn hgn hsn
  go_wp2_with fail
  refine (nextB_any B K122 _ _ (by omega) (H134.out.tapeAt 1 rfl)).mono ?_
  rintro e w136 ⟨x135, rfl, x135a, x135b, htn, hgn, hsn⟩
  have H137 := hid (H134.out.next 1 rfl htn hgn)
  clear htn hgn hsn
  go_wp2_with fail
  refine (pinterval_any _ _ _ L128 _ _ _ (H137.out.prs 0 rfl)).mono ?_
  rintro e w138 ⟨rfl, hb⟩
  have H139 := hid (H137.out.call hb)
  clear hb
  obtain ⟨n140, hn140⟩ : ∃ xx', (ivR L128 (1 + x132) (1 + x135)).1 = xx' := ⟨_, rfl⟩
  rw [hn140]
  have HNn140 := hid hn140
  clear hn140
  obtain ⟨n141, hn141⟩ : ∃ xx', (ivR L128 (1 + x132) (1 + x135)).2.1 = xx' := ⟨_, rfl⟩
  rw [hn141]
  have HNn141 := hid hn141
  clear hn141
  obtain ⟨n142, hn142⟩ : ∃ xx', (ivR L128 (1 + x132) (1 + x135)).2.2 = xx' := ⟨_, rfl⟩
  rw [hn142]
  have HNn142 := hid hn142
  clear hn142
  go_wp2_with fail
  refine (mod_any _ _ _ (by omega) (by omega)).mono ?_
  rintro e w143 ⟨rfl, hsw⟩
  have hsw2 : w138 = w143 := by first | exact hsw | exact hsw.symm
  clear hsw
  subst hsw2
  obtain ⟨md144, hmd144⟩ : ∃ xx', p % (1 + x132 + 1) = xx' := ⟨_, rfl⟩
  rw [hmd144]
  obtain ⟨md144a, md144b⟩ : 0 ≤ md144 ∧ md144 < 1 + x132 + 1 := by rw [← hmd144]; exact ⟨Int.emod_nonneg _ (by omega), Int.emod_lt_of_pos _ (by omega)⟩
  clear hmd144
  go_wp2_with fail
  refine (mod_any _ _ _ (by omega) (by omega)).mono ?_
  rintro e w145 ⟨rfl, hsw⟩
  have hsw2 : w138 = w145 := by first | exact hsw | exact hsw.symm
  clear hsw
  subst hsw2
  obtain ⟨md146, hmd146⟩ : ∃ xx', q % (1 + x135 + 1) = xx' := ⟨_, rfl⟩
  rw [hmd146]
  obtain ⟨md146a, md146b⟩ : 0 ≤ md146 ∧ md146 < 1 + x135 + 1 := by rw [← hmd146]; exact ⟨Int.emod_nonneg _ (by omega), Int.emod_lt_of_pos _ (by omega)⟩
  clear hmd146
  go_wp2_with fail
  refine (peval_any _ _ _ L128 _ _ _ (H139.out.prs 0 rfl)).mono ?_
  rintro e w147 ⟨rfl, hb⟩
  have H148 := hid (H139.out.call hb)
  clear hb
  obtain ⟨n149, hn149⟩ : ∃ xx', (evR L128 md144 md146).1 = xx' := ⟨_, rfl⟩
  rw [hn149]
  have HNn149 := hid hn149
  clear hn149
  obtain ⟨n150, hn150⟩ : ∃ xx', (evR L128 md144 md146).2 = xx' := ⟨_, rfl⟩
  rw [hn150]
  have HNn150 := hid hn150
  clear hn150
  have HWI := hid (within_all (l := L128) (a := 1 + x132) (b := 1 + x135) (u := md144) (v := md146) (by omega) (by omega))
  rw [HNn140.out, HNn141.out, HNn142.out, HNn149.out, HNn150.out] at HWI
  go_upto_region 5 with fail
  by_cases he : n142 = 0
  · skip
    obtain ⟨hf, hlo, hhi⟩ := HWI.out.1 he
    clear HWI
    subst he
    subst hf
    go_wp2_with fail
    refine (sane14 _).mono ?_
    rintro e w151 ⟨rfl, hb⟩
    have H152 := hid (H148.out.call hb)
    clear hb
    go_wp2_with fail
    go_ret
    exact ⟨rfl, by first | exact H152.out.below | exact H152.out.below'⟩
  · skip
    obtain ⟨hlo, hhi⟩ := HWI.out.2 he
    clear HWI
    subst hlo
    subst hhi
    have hea : ((n142 : Int) == 0) = false := by simpa using he
    have heb : ((n142 : Int) != 0) = true := by simpa using he
    clear he
    go_wp2_with fail
    refine (sane14 _).mono ?_
    rintro e w153 ⟨rfl, hb⟩
    have H154 := hid (H148.out.call hb)
    clear hb
    go_wp2_with fail
    go_ret
    exact ⟨rfl, by first | exact H154.out.below | exact H154.out.below'⟩
end Go.Proofs.Ytnnpnljdefmmcaa
