/-
  The walk of PointwiseTiles: the tiles of programs for pixels are those of the reference.
-/
import Derived.Test.YtnnpnljdefmmcaaPwProg
import Derived.Test.YtnnpnljdefmmcaaPwQTile
import Derived.Test.YtnnpnljdefmmcaaKG
import Derived.Test.YtnnpnljdefmmcaaKD
namespace Go.Proofs.Ytnnpnljdefmmcaa
open Go.RowKit
attribute [local go_sem ↓] Go.wp_at_zero Go.wp_at_succ
set_option linter.unusedVariables false
set_option linter.unusedSimpArgs false

set_option maxRecDepth 100000 in
set_option maxHeartbeats 12800000 in
theorem walk_PointwiseTiles (a : Option Addr) (n c : Nat) (zs : List Int) (r0 r1 r2 r3 : Int) (W : World) (hr : RowIn .i64 W a n c zs) (_ : I64 r0) (_ : I64 r1) (_ : I64 r2) (_ : I64 r3) :
    Calls Try.prog 11 #[.slice a n c, .agg #[.int .i64 r0, .int .i64 r1, .int .i64 r2, .int .i64 r3]] W fun e w' => e = .returned (.bool true) ∧ Below W.heap.size W w' := by
  obtain ⟨B, hB⟩ : ∃ B, W.heap.size = B := ⟨_, rfl⟩
  have HI0 := hid (St.init hB)
  have HN := hid (nearRow hr hB)
  have HR := hid hr
  clear hr
  go_enter Try.func11, Try.ntmps11
  go_upto_region 1 with fail
  have H122 := hid (show St B W [.cells B #[.int .i64 r0, .int .i64 r1, .int .i64 r2, .int .i64 r3] 24] [] (W.alloc (.cells #[.int .i64 r0, .int .i64 r1, .int .i64 r2, .int .i64 r3] 24)) from (HI0.out.alloc #[.int .i64 r0, .int .i64 r1, .int .i64 r2, .int .i64 r3] 24 hB))
  first | refine gen_code H122.out ?_ | refine gen_list H122.out ?_ | refine gen_calls H122.out ?_
  intro w123 hG
  clear H122
  have H122 := hid hG
  clear hG
  go_wp2_with fail
  obtain ⟨K124, hK124⟩ : ∃ D, w123.heap.size = D := ⟨_, rfl⟩
  refine (newB_any B _ _ _ _ _ HR.out.len (H122.out.oldRow HR.out.row) HN.out H122.out.size).mono ?_
  rintro e w125 ⟨rfl, ht, hb, hs⟩
  rw [hK124] at ht ⊢
  have H126 := hid (H122.out.newTape ht hb hK124)
  clear ht hb hs hK124
  go_wp2_with fail
  go_loopw [6] (fun i wr => ∃ j : Nat, j ≤ 4 ∧ i = .int .i64 j ∧ St B W [.tape K124, .cells B #[.int .i64 r0, .int .i64 r1, .int .i64 r2, .int .i64 r3] 24] [] wr) (fun i _ => 4 - (intOf i).toNat)
  case atStart => exact ⟨0, by omega, rfl, H126.out.pick [0, 1] rfl (by decide)⟩
  case round =>
    obtain ⟨j, hj, rfl, hst⟩ := hrel
    obtain ⟨u127, rfl⟩ : ∃ u127 : World, u127 = wr := ⟨_, rfl⟩
    have H128 := hid hst
    clear hst
    by_cases c129 : (j : Int) < 4
    · skip
      go_wp2_with fail
      refine (plane_any B K124 _ (H128.out.tapeAt 0 rfl)).mono ?_
      rintro e w131 ⟨pw130, ph130, pw1301, pw1302, ph1301, ph1302, pm130, pv130, ps130, rfl, hv, hm, ho, ht, hg⟩
      have H132 := hid (H128.out.add (H128.out.next 0 rfl ht hg) ho)
      have HVps130 := hid hv
      have HMps130 := hid hm
      obtain ⟨pv130a, pv130c, rfl, _⟩ := ho.slc
      clear hv hm ho ht hg
      obtain ⟨D133, hD133⟩ : ∃ D, w131.heap.size = D := ⟨_, rfl⟩
      go_upto_region 6 with fail
      have H134 := hid (show St B W [.cells D133 #[.int .i64 pw130, .int .i64 ph130, .int .i64 pm130, .slice pv130a ps130.length pv130c] 66, .own (.slice pv130a ps130.length pv130c) ps130, .tape K124, .cells B #[.int .i64 r0, .int .i64 r1, .int .i64 r2, .int .i64 r3] 24] [] (w131.alloc (.cells #[.int .i64 pw130, .int .i64 ph130, .int .i64 pm130, .slice pv130a ps130.length pv130c] 66)) from (H132.out.alloc #[.int .i64 pw130, .int .i64 ph130, .int .i64 pm130, .slice pv130a ps130.length pv130c] 66 hD133))
      first | refine gen_code H134.out ?_ | refine gen_list H134.out ?_ | refine gen_calls H134.out ?_
      intro w135 hG
      clear H134
      have H134 := hid hG
      clear hG
      clear hD133
      have z136 := H134.out.cell 0 rfl 0 rfl
      have z137 := H134.out.cell 0 rfl 1 rfl
      have z138 := H134.out.cell 0 rfl 2 rfl
      have z139 := H134.out.cell 0 rfl 3 rfl
      go_wp2_with fail
      clear z136 z137 z138 z139
      refine (sized_any B K124 _ _ _ (by omega) (by omega) (by omega) (by omega) (H134.out.tapeAt 2 rfl)).mono ?_
      rintro e w141 ⟨pm140, pv140, ps140, rfl, hv, hm, ho, ht, hg⟩
      have H142 := hid (H134.out.add (H134.out.next 2 rfl ht hg) ho)
      have HVps140 := hid hv
      have HMps140 := hid hm
      obtain ⟨pv140a, pv140c, rfl, _⟩ := ho.slc
      clear hv hm ho ht hg
      obtain ⟨D143, hD143⟩ : ∃ D, w141.heap.size = D := ⟨_, rfl⟩
      go_upto_region 7 with fail
      have H144 := hid (show St B W [.cells D143 #[.int .i64 pw130, .int .i64 ph130, .int .i64 pm140, .slice pv140a ps140.length pv140c] 66, .own (.slice pv140a ps140.length pv140c) ps140, .cells D133 #[.int .i64 pw130, .int .i64 ph130, .int .i64 pm130, .slice pv130a ps130.length pv130c] 66, .own (.slice pv130a ps130.length pv130c) ps130, .tape K124, .cells B #[.int .i64 r0, .int .i64 r1, .int .i64 r2, .int .i64 r3] 24] [] (w141.alloc (.cells #[.int .i64 pw130, .int .i64 ph130, .int .i64 pm140, .slice pv140a ps140.length pv140c] 66)) from (H142.out.alloc #[.int .i64 pw130, .int .i64 ph130, .int .i64 pm140, .slice pv140a ps140.length pv140c] 66 hD143))
      first | refine gen_code H144.out ?_ | refine gen_list H144.out ?_ | refine gen_calls H144.out ?_
      intro w145 hG
      clear H144
      have H144 := hid hG
      clear hG
      clear hD143
      go_cut [9, 10, 11] (fun s s1 s2 wx => ∃ (RQ og ol oc : Nat) (ops : List (Int × Int)) (two : Bool) (q0 q1 q2 q3 : Int), s = .slice (some ⟨og, 0, none⟩) ol oc ∧ s1 = .bool two ∧ s2 = .pointer (some ⟨RQ, 0, none⟩) ∧ St B W [.arr (60) 2 (.slice (some ⟨og, 0, none⟩) ol oc) ol (prV ops), .cells RQ #[.int .i64 q0, .int .i64 q1, .int .i64 q2, .int .i64 q3] 24, .cells D143 #[.int .i64 pw130, .int .i64 ph130, .int .i64 pm140, .slice pv140a ps140.length pv140c] 66, .own (.slice pv140a ps140.length pv140c) ps140, .cells D133 #[.int .i64 pw130, .int .i64 ph130, .int .i64 pm130, .slice pv130a ps130.length pv130c] 66, .own (.slice pv130a ps130.length pv130c) ps130, .tape K124, .cells B #[.int .i64 r0, .int .i64 r1, .int .i64 r2, .int .i64 r3] 24] [] wx)
      case first =>
        go_upto_region 7 with fail
        have H146 := hid H144.out.drew
        refine wp_region_held_drew (S := (fun w' => w'.cell? ⟨D133, 0, none⟩ = some (.int .i64 pw130) ∧ w'.cell? ⟨D133, 1, none⟩ = some (.int .i64 ph130) ∧ w'.cell? ⟨D133, 2, none⟩ = some (.int .i64 pm130) ∧ w'.cell? ⟨D133, 3, none⟩ = some (.slice pv130a ps130.length pv130c))) (by kernel_rfl) ⟨H146.out.cell 2 rfl 0 rfl, H146.out.cell 2 rfl 1 rfl, H146.out.cell 2 rfl 2 rfl, H146.out.cell 2 rfl 3 rfl⟩ (fun hHeld => ?_)
        generalize w145.drew = k147 at *
        refine tkA 0 ?_
        try simp only [Act.put, p1, p2, p3, p4, p5, p6]
        refine tkA 2 ?_
        try simp only [Act.put, p1, p2, p3, p4, p5, p6]
        refine tkA 5 ?_
        try simp only [Act.put, p1, p2, p3, p4, p5, p6]
        refine tkA 6 ?_
        try simp only [Act.put, p1, p2, p3, p4, p5, p6]
        refine tkA 7 ?_
        try simp only [Act.put, p1, p2, p3, p4, p5, p6]
        refine tkA 8 ?_
        try simp only [Act.put, p1, p2, p3, p4, p5, p6]
        refine tkA 9 ?_
        try simp only [Act.put, p1, p2, p3, p4, p5, p6]
        refine wpAnyH_ready (rs := [1, 11]) (by kernel_rfl) (by simp) (AllReadyH.cons (o := _) rfl (fun K hK => ?_) (AllReadyH.cons (o := _) rfl (fun K hK => ?_) AllReadyH.nil))
        · go_simp
          go_at_call 31
          refine (program_any B K124 _ (H146.out.tapeAt 4 rfl)).mono ?_
          rintro e w148 ⟨v150, L151, rfl, _, hl1, hl2, ho, ht, hg⟩
          obtain ⟨ln154, hln154⟩ : ∃ q, L151.length = q := ⟨_, rfl⟩
          rw [hln154] at ho hl1 hl2
          have H149 := hid (H146.out.addE (H146.out.next 4 rfl ht hg) ho)
          obtain ⟨g152, c153, hva⟩ := arr_pos ho (by omega)
          subst hva
          obtain ⟨ln154a, ln154b⟩ := And.intro hl1 hl2
          clear ho ht hg hln154 hl1 hl2
          refine hK.out _ _ ?_ (fun hHeld2 => ?_)
          focus ((try dsimp only); (exact ⟨H149.out.cell 3 rfl 0 rfl, H149.out.cell 3 rfl 1 rfl, H149.out.cell 3 rfl 2 rfl, H149.out.cell 3 rfl 3 rfl⟩))
          clear hK K
          try simp only [Act.put, p1, p2, p3, p4, p5, p6]
          clear hHeld
          have hHeld := hHeld2
          clear hHeld2
          refine wpAnyH_ready (rs := [3, 11]) (by kernel_rfl) (by simp) (AllReadyH.cons (o := _) rfl (fun K hK => ?_) (AllReadyH.cons (o := _) rfl (fun K hK => ?_) AllReadyH.nil))
          · go_simp
            go_at_call 15
            refine (nextB_any B K124 _ _ (by omega) (H149.out.tapeAt 5 rfl)).mono ?_
            rintro e w156 ⟨x155, rfl, x155a, x155b, htn, hgn, hsn⟩
            have H157 := hid (H149.out.next 5 rfl htn hgn)
            clear htn hgn hsn
            refine hK.out _ _ ?_ (fun hHeld2 => ?_)
            focus ((try dsimp only); (exact ⟨H157.out.cell 3 rfl 0 rfl, H157.out.cell 3 rfl 1 rfl, H157.out.cell 3 rfl 2 rfl, H157.out.cell 3 rfl 3 rfl⟩))
            clear hK K
            try simp only [Act.put, p1, p2, p3, p4, p5, p6]
            clear hHeld
            have hHeld := hHeld2
            clear hHeld2
            refine tkA 4 ?_
            try simp only [Act.put, p1, p2, p3, p4, p5, p6]
            refine wpAnyH_ready (rs := [10, 11]) (by kernel_rfl) (by simp) (AllReadyH.cons (o := _) rfl (fun K hK => ?_) (AllReadyH.cons (o := _) rfl (fun K hK => ?_) AllReadyH.nil))
            · go_simp
              go_at_call 28
              refine (within_any B K124 _ _ _ (by omega) (by omega) (by omega) (by omega) (H157.out.tapeAt 5 rfl)).mono ?_
              rintro e w159 ⟨q158_0, q158_1, q158_2, q158_3, rfl, hq158, ht, hg⟩
              have H160 := hid (H157.out.next 5 rfl ht hg)
              have HWq158 := hid hq158
              clear hq158 ht hg
              refine hK.out _ _ ?_ (fun hHeld2 => ?_)
              focus ((try dsimp only); (exact ⟨H160.out.cell 3 rfl 0 rfl, H160.out.cell 3 rfl 1 rfl, H160.out.cell 3 rfl 2 rfl, H160.out.cell 3 rfl 3 rfl⟩))
              clear hK K
              try simp only [Act.put, p1, p2, p3, p4, p5, p6]
              clear hHeld
              have hHeld := hHeld2
              clear hHeld2
              refine wpAnyH_ready (rs := [11]) (by kernel_rfl) (by simp) (AllReadyH.cons (o := _) rfl (fun K hK => ?_) AllReadyH.nil)
              obtain ⟨D161, hD161⟩ : ∃ D, w159.heap.size = D := ⟨_, rfl⟩
              have H162 := hid (H160.out.alloc #[.int .i64 0, .int .i64 0, .int .i64 0, .int .i64 0] 24 hD161)
              go_simp
              refine hK.out _ _ ?_ (fun hHeld2 => ?_)
              focus ((try dsimp only); (exact ⟨H162.out.cell 4 rfl 0 rfl, H162.out.cell 4 rfl 1 rfl, H162.out.cell 4 rfl 2 rfl, H162.out.cell 4 rfl 3 rfl⟩))
              clear hK K hHeld
              try simp only [Act.put, p1, p2, p3, p4, p5, p6]
              clear hD161
              generalize (w159.alloc (.cells #[.int .i64 0, .int .i64 0, .int .i64 0, .int .i64 0] 24)) = k163 at *
              have hHeld := hHeld2
              clear hHeld2
              refine tkA 12 ?_
              try simp only [Act.put, p1, p2, p3, p4, p5, p6]
              refine tkA 13 ?_
              try simp only [Act.put, p1, p2, p3, p4, p5, p6]
              refine wpAnyH_ready (rs := [14]) (by kernel_rfl) (by simp) (AllReadyH.cons (o := _) rfl (fun K hK => ?_) AllReadyH.nil)
              have z164 := H162.out.cell 0 rfl 0 rfl
              have z165 := H162.out.free 0 rfl 0
              have z166 := H162.out.cell 0 rfl 1 rfl
              have z167 := H162.out.free 0 rfl 1
              have z168 := H162.out.cell 0 rfl 2 rfl
              have z169 := H162.out.free 0 rfl 2
              have z170 := H162.out.cell 0 rfl 3 rfl
              have z171 := H162.out.free 0 rfl 3
              have H172 := hid (show St B W [.cells D161 #[.int .i64 q158_0, .int .i64 q158_1, .int .i64 q158_2, .int .i64 q158_3] 24, .arr (60) 2 (.slice (some ⟨g152, 0, none⟩) ln154 c153) ln154 (prV L151), .cells D143 #[.int .i64 pw130, .int .i64 ph130, .int .i64 pm140, .slice pv140a ps140.length pv140c] 66, .own (.slice pv140a ps140.length pv140c) ps140, .cells D133 #[.int .i64 pw130, .int .i64 ph130, .int .i64 pm130, .slice pv130a ps130.length pv130c] 66, .own (.slice pv130a ps130.length pv130c) ps130, .tape K124, .cells B #[.int .i64 r0, .int .i64 r1, .int .i64 r2, .int .i64 r3] 24] [] ((((k163.setCell ⟨D161, 0, none⟩ (.int .i64 q158_0)).setCell ⟨D161, 1, none⟩ (.int .i64 q158_1)).setCell ⟨D161, 2, none⟩ (.int .i64 q158_2)).setCell ⟨D161, 3, none⟩ (.int .i64 q158_3)) from (H162.out.set4 0 rfl (.int .i64 q158_0) (.int .i64 q158_1) (.int .i64 q158_2) (.int .i64 q158_3)))
              go_simp
              refine hK.out _ _ ?_ (fun hHeld2 => ?_)
              focus ((try dsimp only); (exact ⟨H172.out.cell 4 rfl 0 rfl, H172.out.cell 4 rfl 1 rfl, H172.out.cell 4 rfl 2 rfl, H172.out.cell 4 rfl 3 rfl⟩))
              clear hK K hHeld
              try simp only [Act.put, p1, p2, p3, p4, p5, p6]
              clear z164 z165 z166 z167 z168 z169 z170 z171
              generalize ((((k163.setCell ⟨D161, 0, none⟩ (.int .i64 q158_0)).setCell ⟨D161, 1, none⟩ (.int .i64 q158_1)).setCell ⟨D161, 2, none⟩ (.int .i64 q158_2)).setCell ⟨D161, 3, none⟩ (.int .i64 q158_3)) = k173 at *
              have hHeld := hHeld2
              clear hHeld2
              refine wpAnyH_done (by kernel_rfl) ?_ _
              try clear hHeld
              go_wp2_with fail
              go_meet
              exact ⟨D161, g152, ln154, c153, _, _, _, _, _, _, rfl, rfl, rfl, H172.out.pick [1, 0, 2, 3, 4, 5, 6, 7] rfl (by decide)⟩
            · obtain ⟨D174, hD174⟩ : ∃ D, w156.heap.size = D := ⟨_, rfl⟩
              have H175 := hid (H157.out.alloc #[.int .i64 0, .int .i64 0, .int .i64 0, .int .i64 0] 24 hD174)
              go_simp
              refine hK.out _ _ ?_ (fun hHeld2 => ?_)
              focus ((try dsimp only); (exact ⟨H175.out.cell 4 rfl 0 rfl, H175.out.cell 4 rfl 1 rfl, H175.out.cell 4 rfl 2 rfl, H175.out.cell 4 rfl 3 rfl⟩))
              clear hK K hHeld
              try simp only [Act.put, p1, p2, p3, p4, p5, p6]
              clear hD174
              generalize (w156.alloc (.cells #[.int .i64 0, .int .i64 0, .int .i64 0, .int .i64 0] 24)) = k176 at *
              have hHeld := hHeld2
              clear hHeld2
              refine wpAnyH_ready (rs := [10]) (by kernel_rfl) (by simp) (AllReadyH.cons (o := _) rfl (fun K hK => ?_) AllReadyH.nil)
              go_simp
              go_at_call 28
              refine (within_any B K124 _ _ _ (by omega) (by omega) (by omega) (by omega) (H175.out.tapeAt 6 rfl)).mono ?_
              rintro e w178 ⟨q177_0, q177_1, q177_2, q177_3, rfl, hq177, ht, hg⟩
              have H179 := hid (H175.out.next 6 rfl ht hg)
              have HWq177 := hid hq177
              clear hq177 ht hg
              refine hK.out _ _ ?_ (fun hHeld2 => ?_)
              focus ((try dsimp only); (exact ⟨H179.out.cell 4 rfl 0 rfl, H179.out.cell 4 rfl 1 rfl, H179.out.cell 4 rfl 2 rfl, H179.out.cell 4 rfl 3 rfl⟩))
              clear hK K
              try simp only [Act.put, p1, p2, p3, p4, p5, p6]
              clear hHeld
              have hHeld := hHeld2
              clear hHeld2
              refine tkA 12 ?_
              try simp only [Act.put, p1, p2, p3, p4, p5, p6]
              refine tkA 13 ?_
              try simp only [Act.put, p1, p2, p3, p4, p5, p6]
              refine wpAnyH_ready (rs := [14]) (by kernel_rfl) (by simp) (AllReadyH.cons (o := _) rfl (fun K hK => ?_) AllReadyH.nil)
              have z180 := H179.out.cell 0 rfl 0 rfl
              have z181 := H179.out.free 0 rfl 0
              have z182 := H179.out.cell 0 rfl 1 rfl
              have z183 := H179.out.free 0 rfl 1
              have z184 := H179.out.cell 0 rfl 2 rfl
              have z185 := H179.out.free 0 rfl 2
              have z186 := H179.out.cell 0 rfl 3 rfl
              have z187 := H179.out.free 0 rfl 3
              have H188 := hid (show St B W [.cells D174 #[.int .i64 q177_0, .int .i64 q177_1, .int .i64 q177_2, .int .i64 q177_3] 24, .arr (60) 2 (.slice (some ⟨g152, 0, none⟩) ln154 c153) ln154 (prV L151), .cells D143 #[.int .i64 pw130, .int .i64 ph130, .int .i64 pm140, .slice pv140a ps140.length pv140c] 66, .own (.slice pv140a ps140.length pv140c) ps140, .cells D133 #[.int .i64 pw130, .int .i64 ph130, .int .i64 pm130, .slice pv130a ps130.length pv130c] 66, .own (.slice pv130a ps130.length pv130c) ps130, .tape K124, .cells B #[.int .i64 r0, .int .i64 r1, .int .i64 r2, .int .i64 r3] 24] [] ((((w178.setCell ⟨D174, 0, none⟩ (.int .i64 q177_0)).setCell ⟨D174, 1, none⟩ (.int .i64 q177_1)).setCell ⟨D174, 2, none⟩ (.int .i64 q177_2)).setCell ⟨D174, 3, none⟩ (.int .i64 q177_3)) from (H179.out.set4 0 rfl (.int .i64 q177_0) (.int .i64 q177_1) (.int .i64 q177_2) (.int .i64 q177_3)))
              go_simp
              refine hK.out _ _ ?_ (fun hHeld2 => ?_)
              focus ((try dsimp only); (exact ⟨H188.out.cell 4 rfl 0 rfl, H188.out.cell 4 rfl 1 rfl, H188.out.cell 4 rfl 2 rfl, H188.out.cell 4 rfl 3 rfl⟩))
              clear hK K hHeld
              try simp only [Act.put, p1, p2, p3, p4, p5, p6]
              clear z180 z181 z182 z183 z184 z185 z186 z187
              generalize ((((w178.setCell ⟨D174, 0, none⟩ (.int .i64 q177_0)).setCell ⟨D174, 1, none⟩ (.int .i64 q177_1)).setCell ⟨D174, 2, none⟩ (.int .i64 q177_2)).setCell ⟨D174, 3, none⟩ (.int .i64 q177_3)) = k189 at *
              have hHeld := hHeld2
              clear hHeld2
              refine wpAnyH_done (by kernel_rfl) ?_ _
              try clear hHeld
              go_wp2_with fail
              go_meet
              exact ⟨D174, g152, ln154, c153, _, _, _, _, _, _, rfl, rfl, rfl, H188.out.pick [1, 0, 2, 3, 4, 5, 6, 7] rfl (by decide)⟩
          · obtain ⟨D190, hD190⟩ : ∃ D, w148.heap.size = D := ⟨_, rfl⟩
            have H191 := hid (H149.out.alloc #[.int .i64 0, .int .i64 0, .int .i64 0, .int .i64 0] 24 hD190)
            go_simp
            refine hK.out _ _ ?_ (fun hHeld2 => ?_)
            focus ((try dsimp only); (exact ⟨H191.out.cell 4 rfl 0 rfl, H191.out.cell 4 rfl 1 rfl, H191.out.cell 4 rfl 2 rfl, H191.out.cell 4 rfl 3 rfl⟩))
            clear hK K hHeld
            try simp only [Act.put, p1, p2, p3, p4, p5, p6]
            clear hD190
            generalize (w148.alloc (.cells #[.int .i64 0, .int .i64 0, .int .i64 0, .int .i64 0] 24)) = k192 at *
            have hHeld := hHeld2
            clear hHeld2
            refine wpAnyH_ready (rs := [3]) (by kernel_rfl) (by simp) (AllReadyH.cons (o := _) rfl (fun K hK => ?_) AllReadyH.nil)
            go_simp
            go_at_call 15
            refine (nextB_any B K124 _ _ (by omega) (H191.out.tapeAt 6 rfl)).mono ?_
            rintro e w194 ⟨x193, rfl, x193a, x193b, htn, hgn, hsn⟩
            have H195 := hid (H191.out.next 6 rfl htn hgn)
            clear htn hgn hsn
            refine hK.out _ _ ?_ (fun hHeld2 => ?_)
            focus ((try dsimp only); (exact ⟨H195.out.cell 4 rfl 0 rfl, H195.out.cell 4 rfl 1 rfl, H195.out.cell 4 rfl 2 rfl, H195.out.cell 4 rfl 3 rfl⟩))
            clear hK K
            try simp only [Act.put, p1, p2, p3, p4, p5, p6]
            clear hHeld
            have hHeld := hHeld2
            clear hHeld2
            refine tkA 4 ?_
            try simp only [Act.put, p1, p2, p3, p4, p5, p6]
            refine wpAnyH_ready (rs := [10]) (by kernel_rfl) (by simp) (AllReadyH.cons (o := _) rfl (fun K hK => ?_) AllReadyH.nil)
            go_simp
            go_at_call 28
            refine (within_any B K124 _ _ _ (by omega) (by omega) (by omega) (by omega) (H195.out.tapeAt 6 rfl)).mono ?_
            rintro e w197 ⟨q196_0, q196_1, q196_2, q196_3, rfl, hq196, ht, hg⟩
            have H198 := hid (H195.out.next 6 rfl ht hg)
            have HWq196 := hid hq196
            clear hq196 ht hg
            refine hK.out _ _ ?_ (fun hHeld2 => ?_)
            focus ((try dsimp only); (exact ⟨H198.out.cell 4 rfl 0 rfl, H198.out.cell 4 rfl 1 rfl, H198.out.cell 4 rfl 2 rfl, H198.out.cell 4 rfl 3 rfl⟩))
            clear hK K
            try simp only [Act.put, p1, p2, p3, p4, p5, p6]
            clear hHeld
            have hHeld := hHeld2
            clear hHeld2
            refine tkA 12 ?_
            try simp only [Act.put, p1, p2, p3, p4, p5, p6]
            refine tkA 13 ?_
            try simp only [Act.put, p1, p2, p3, p4, p5, p6]
            refine wpAnyH_ready (rs := [14]) (by kernel_rfl) (by simp) (AllReadyH.cons (o := _) rfl (fun K hK => ?_) AllReadyH.nil)
            have z199 := H198.out.cell 0 rfl 0 rfl
            have z200 := H198.out.free 0 rfl 0
            have z201 := H198.out.cell 0 rfl 1 rfl
            have z202 := H198.out.free 0 rfl 1
            have z203 := H198.out.cell 0 rfl 2 rfl
            have z204 := H198.out.free 0 rfl 2
            have z205 := H198.out.cell 0 rfl 3 rfl
            have z206 := H198.out.free 0 rfl 3
            have H207 := hid (show St B W [.cells D190 #[.int .i64 q196_0, .int .i64 q196_1, .int .i64 q196_2, .int .i64 q196_3] 24, .arr (60) 2 (.slice (some ⟨g152, 0, none⟩) ln154 c153) ln154 (prV L151), .cells D143 #[.int .i64 pw130, .int .i64 ph130, .int .i64 pm140, .slice pv140a ps140.length pv140c] 66, .own (.slice pv140a ps140.length pv140c) ps140, .cells D133 #[.int .i64 pw130, .int .i64 ph130, .int .i64 pm130, .slice pv130a ps130.length pv130c] 66, .own (.slice pv130a ps130.length pv130c) ps130, .tape K124, .cells B #[.int .i64 r0, .int .i64 r1, .int .i64 r2, .int .i64 r3] 24] [] ((((w197.setCell ⟨D190, 0, none⟩ (.int .i64 q196_0)).setCell ⟨D190, 1, none⟩ (.int .i64 q196_1)).setCell ⟨D190, 2, none⟩ (.int .i64 q196_2)).setCell ⟨D190, 3, none⟩ (.int .i64 q196_3)) from (H198.out.set4 0 rfl (.int .i64 q196_0) (.int .i64 q196_1) (.int .i64 q196_2) (.int .i64 q196_3)))
            go_simp
            refine hK.out _ _ ?_ (fun hHeld2 => ?_)
            focus ((try dsimp only); (exact ⟨H207.out.cell 4 rfl 0 rfl, H207.out.cell 4 rfl 1 rfl, H207.out.cell 4 rfl 2 rfl, H207.out.cell 4 rfl 3 rfl⟩))
            clear hK K hHeld
            try simp only [Act.put, p1, p2, p3, p4, p5, p6]
            clear z199 z200 z201 z202 z203 z204 z205 z206
            generalize ((((w197.setCell ⟨D190, 0, none⟩ (.int .i64 q196_0)).setCell ⟨D190, 1, none⟩ (.int .i64 q196_1)).setCell ⟨D190, 2, none⟩ (.int .i64 q196_2)).setCell ⟨D190, 3, none⟩ (.int .i64 q196_3)) = k208 at *
            have hHeld := hHeld2
            clear hHeld2
            refine wpAnyH_done (by kernel_rfl) ?_ _
            try clear hHeld
            go_wp2_with fail
            go_meet
            exact ⟨D190, g152, ln154, c153, _, _, _, _, _, _, rfl, rfl, rfl, H207.out.pick [1, 0, 2, 3, 4, 5, 6, 7] rfl (by decide)⟩
        · obtain ⟨D209, hD209⟩ : ∃ D, k147.heap.size = D := ⟨_, rfl⟩
          have H210 := hid (H146.out.alloc #[.int .i64 0, .int .i64 0, .int .i64 0, .int .i64 0] 24 hD209)
          go_simp
          refine hK.out _ _ ?_ (fun hHeld2 => ?_)
          focus ((try dsimp only); (exact ⟨H210.out.cell 3 rfl 0 rfl, H210.out.cell 3 rfl 1 rfl, H210.out.cell 3 rfl 2 rfl, H210.out.cell 3 rfl 3 rfl⟩))
          clear hK K hHeld
          try simp only [Act.put, p1, p2, p3, p4, p5, p6]
          clear hD209
          generalize (k147.alloc (.cells #[.int .i64 0, .int .i64 0, .int .i64 0, .int .i64 0] 24)) = k211 at *
          have hHeld := hHeld2
          clear hHeld2
          refine wpAnyH_ready (rs := [1]) (by kernel_rfl) (by simp) (AllReadyH.cons (o := _) rfl (fun K hK => ?_) AllReadyH.nil)
          go_simp
          go_at_call 31
          refine (program_any B K124 _ (H210.out.tapeAt 5 rfl)).mono ?_
          rintro e w212 ⟨v214, L215, rfl, _, hl1, hl2, ho, ht, hg⟩
          obtain ⟨ln218, hln218⟩ : ∃ q, L215.length = q := ⟨_, rfl⟩
          rw [hln218] at ho hl1 hl2
          have H213 := hid (H210.out.addE (H210.out.next 5 rfl ht hg) ho)
          obtain ⟨g216, c217, hva⟩ := arr_pos ho (by omega)
          subst hva
          obtain ⟨ln218a, ln218b⟩ := And.intro hl1 hl2
          clear ho ht hg hln218 hl1 hl2
          refine hK.out _ _ ?_ (fun hHeld2 => ?_)
          focus ((try dsimp only); (exact ⟨H213.out.cell 4 rfl 0 rfl, H213.out.cell 4 rfl 1 rfl, H213.out.cell 4 rfl 2 rfl, H213.out.cell 4 rfl 3 rfl⟩))
          clear hK K
          try simp only [Act.put, p1, p2, p3, p4, p5, p6]
          clear hHeld
          have hHeld := hHeld2
          clear hHeld2
          refine wpAnyH_ready (rs := [3]) (by kernel_rfl) (by simp) (AllReadyH.cons (o := _) rfl (fun K hK => ?_) AllReadyH.nil)
          go_simp
          go_at_call 15
          refine (nextB_any B K124 _ _ (by omega) (H213.out.tapeAt 6 rfl)).mono ?_
          rintro e w220 ⟨x219, rfl, x219a, x219b, htn, hgn, hsn⟩
          have H221 := hid (H213.out.next 6 rfl htn hgn)
          clear htn hgn hsn
          refine hK.out _ _ ?_ (fun hHeld2 => ?_)
          focus ((try dsimp only); (exact ⟨H221.out.cell 4 rfl 0 rfl, H221.out.cell 4 rfl 1 rfl, H221.out.cell 4 rfl 2 rfl, H221.out.cell 4 rfl 3 rfl⟩))
          clear hK K
          try simp only [Act.put, p1, p2, p3, p4, p5, p6]
          clear hHeld
          have hHeld := hHeld2
          clear hHeld2
          refine tkA 4 ?_
          try simp only [Act.put, p1, p2, p3, p4, p5, p6]
          refine wpAnyH_ready (rs := [10]) (by kernel_rfl) (by simp) (AllReadyH.cons (o := _) rfl (fun K hK => ?_) AllReadyH.nil)
          go_simp
          go_at_call 28
          refine (within_any B K124 _ _ _ (by omega) (by omega) (by omega) (by omega) (H221.out.tapeAt 6 rfl)).mono ?_
          rintro e w223 ⟨q222_0, q222_1, q222_2, q222_3, rfl, hq222, ht, hg⟩
          have H224 := hid (H221.out.next 6 rfl ht hg)
          have HWq222 := hid hq222
          clear hq222 ht hg
          refine hK.out _ _ ?_ (fun hHeld2 => ?_)
          focus ((try dsimp only); (exact ⟨H224.out.cell 4 rfl 0 rfl, H224.out.cell 4 rfl 1 rfl, H224.out.cell 4 rfl 2 rfl, H224.out.cell 4 rfl 3 rfl⟩))
          clear hK K
          try simp only [Act.put, p1, p2, p3, p4, p5, p6]
          clear hHeld
          have hHeld := hHeld2
          clear hHeld2
          refine tkA 12 ?_
          try simp only [Act.put, p1, p2, p3, p4, p5, p6]
          refine tkA 13 ?_
          try simp only [Act.put, p1, p2, p3, p4, p5, p6]
          refine wpAnyH_ready (rs := [14]) (by kernel_rfl) (by simp) (AllReadyH.cons (o := _) rfl (fun K hK => ?_) AllReadyH.nil)
          have z225 := H224.out.cell 1 rfl 0 rfl
          have z226 := H224.out.free 1 rfl 0
          have z227 := H224.out.cell 1 rfl 1 rfl
          have z228 := H224.out.free 1 rfl 1
          have z229 := H224.out.cell 1 rfl 2 rfl
          have z230 := H224.out.free 1 rfl 2
          have z231 := H224.out.cell 1 rfl 3 rfl
          have z232 := H224.out.free 1 rfl 3
          have H233 := hid (show St B W [.arr (60) 2 (.slice (some ⟨g216, 0, none⟩) ln218 c217) ln218 (prV L215), .cells D209 #[.int .i64 q222_0, .int .i64 q222_1, .int .i64 q222_2, .int .i64 q222_3] 24, .cells D143 #[.int .i64 pw130, .int .i64 ph130, .int .i64 pm140, .slice pv140a ps140.length pv140c] 66, .own (.slice pv140a ps140.length pv140c) ps140, .cells D133 #[.int .i64 pw130, .int .i64 ph130, .int .i64 pm130, .slice pv130a ps130.length pv130c] 66, .own (.slice pv130a ps130.length pv130c) ps130, .tape K124, .cells B #[.int .i64 r0, .int .i64 r1, .int .i64 r2, .int .i64 r3] 24] [] ((((w223.setCell ⟨D209, 0, none⟩ (.int .i64 q222_0)).setCell ⟨D209, 1, none⟩ (.int .i64 q222_1)).setCell ⟨D209, 2, none⟩ (.int .i64 q222_2)).setCell ⟨D209, 3, none⟩ (.int .i64 q222_3)) from (H224.out.set4 1 rfl (.int .i64 q222_0) (.int .i64 q222_1) (.int .i64 q222_2) (.int .i64 q222_3)))
          go_simp
          refine hK.out _ _ ?_ (fun hHeld2 => ?_)
          focus ((try dsimp only); (exact ⟨H233.out.cell 4 rfl 0 rfl, H233.out.cell 4 rfl 1 rfl, H233.out.cell 4 rfl 2 rfl, H233.out.cell 4 rfl 3 rfl⟩))
          clear hK K hHeld
          try simp only [Act.put, p1, p2, p3, p4, p5, p6]
          clear z225 z226 z227 z228 z229 z230 z231 z232
          generalize ((((w223.setCell ⟨D209, 0, none⟩ (.int .i64 q222_0)).setCell ⟨D209, 1, none⟩ (.int .i64 q222_1)).setCell ⟨D209, 2, none⟩ (.int .i64 q222_2)).setCell ⟨D209, 3, none⟩ (.int .i64 q222_3)) = k234 at *
          have hHeld := hHeld2
          clear hHeld2
          refine wpAnyH_done (by kernel_rfl) ?_ _
          try clear hHeld
          go_wp2_with fail
          go_meet
          exact ⟨D209, g216, ln218, c217, _, _, _, _, _, _, rfl, rfl, rfl, H233.out.pick [0, 1, 2, 3, 4, 5, 6, 7] rfl (by decide)⟩
      case rest =>
        obtain ⟨RQ, og, ol, oc, ops, two, q0, q1, q2, q3, rfl, rfl, rfl, hst⟩ := hcut
        obtain ⟨u235, rfl⟩ : ∃ u235 : World, u235 = wc := ⟨_, rfl⟩
        have H236 := hid hst
        clear hst
        go_upto_block 2 with fail
        go_cut [] (fun wx => ∃ (xw xh xm : Int) (xa : Option Addr) (xc : Nat) (xl : List Int) (y0 y1 y2 y3 : Int), pValid xw xh xm xl = true ∧ St B W [.cells D143 #[.int .i64 xw, .int .i64 xh, .int .i64 xm, .slice xa xl.length xc] 66, .own (.slice xa xl.length xc) xl, .cells RQ #[.int .i64 y0, .int .i64 y1, .int .i64 y2, .int .i64 y3] 24, .arr (60) 2 (.slice (some ⟨og, 0, none⟩) ol oc) ol (prV ops), .cells D133 #[.int .i64 pw130, .int .i64 ph130, .int .i64 pm130, .slice pv130a ps130.length pv130c] 66, .own (.slice pv130a ps130.length pv130c) ps130, .tape K124, .cells B #[.int .i64 r0, .int .i64 r1, .int .i64 r2, .int .i64 r3] 24] [] wx)
        case first =>
          by_cases hN : j = 2
          · skip
            subst hN
            have z237 := H236.out.cell 7 rfl 0 rfl
            have z238 := H236.out.cell 7 rfl 1 rfl
            have z239 := H236.out.cell 7 rfl 2 rfl
            have z240 := H236.out.cell 7 rfl 3 rfl
            have z241 := H236.out.cell 1 rfl 0 rfl
            have z242 := H236.out.free 1 rfl 0
            have z243 := H236.out.cell 1 rfl 1 rfl
            have z244 := H236.out.free 1 rfl 1
            have z245 := H236.out.cell 1 rfl 2 rfl
            have z246 := H236.out.free 1 rfl 2
            have z247 := H236.out.cell 1 rfl 3 rfl
            have z248 := H236.out.free 1 rfl 3
            go_wp2_with fail
            clear z237 z238 z239 z240 z241 z242 z243 z244 z245 z246 z247 z248
            have H249 := hid (show St B W [.arr (60) 2 (.slice (some ⟨og, 0, none⟩) ol oc) ol (prV ops), .cells RQ #[.int .i64 r0, .int .i64 r1, .int .i64 r2, .int .i64 r3] 24, .cells D143 #[.int .i64 pw130, .int .i64 ph130, .int .i64 pm140, .slice pv140a ps140.length pv140c] 66, .own (.slice pv140a ps140.length pv140c) ps140, .cells D133 #[.int .i64 pw130, .int .i64 ph130, .int .i64 pm130, .slice pv130a ps130.length pv130c] 66, .own (.slice pv130a ps130.length pv130c) ps130, .tape K124, .cells B #[.int .i64 r0, .int .i64 r1, .int .i64 r2, .int .i64 r3] 24] [] ((((u235.setCell ⟨RQ, 0, none⟩ (.int .i64 r0)).setCell ⟨RQ, 1, none⟩ (.int .i64 r1)).setCell ⟨RQ, 2, none⟩ (.int .i64 r2)).setCell ⟨RQ, 3, none⟩ (.int .i64 r3)) from (H236.out.set4 1 rfl (.int .i64 r0) (.int .i64 r1) (.int .i64 r2) (.int .i64 r3)))
            go_meet
            exact ⟨_, _, _, _, _, _, _, _, _, _, HVps140.out, H249.out.pick [2, 3, 1, 0, 4, 5, 6, 7] rfl (by decide)⟩
          · skip
            have hN2 : ((j : Int) == 2) = false := by simp; omega
            clear hN
            by_cases hN : j = 3
            · skip
              subst hN
              go_wp2_with fail
              refine (plane_any B K124 _ (H236.out.tapeAt 6 rfl)).mono ?_
              rintro e w251 ⟨pw250, ph250, pw2501, pw2502, ph2501, ph2502, pm250, pv250, ps250, rfl, hv, hm, ho, ht, hg⟩
              have H252 := hid (H236.out.add (H236.out.next 6 rfl ht hg) ho)
              have HVps250 := hid hv
              have HMps250 := hid hm
              obtain ⟨pv250a, pv250c, rfl, _⟩ := ho.slc
              clear hv hm ho ht hg
              have z253 := H252.out.cell 3 rfl 0 rfl
              have z254 := H252.out.free 3 rfl 0
              have z255 := H252.out.cell 3 rfl 1 rfl
              have z256 := H252.out.free 3 rfl 1
              have z257 := H252.out.cell 3 rfl 2 rfl
              have z258 := H252.out.free 3 rfl 2
              have z259 := H252.out.cell 3 rfl 3 rfl
              have z260 := H252.out.free 3 rfl 3
              go_wp2_with fail
              clear z253 z254 z255 z256 z257 z258 z259 z260
              have H261 := hid (show St B W [.own (.slice pv250a ps250.length pv250c) ps250, .arr (60) 2 (.slice (some ⟨og, 0, none⟩) ol oc) ol (prV ops), .cells RQ #[.int .i64 q0, .int .i64 q1, .int .i64 q2, .int .i64 q3] 24, .cells D143 #[.int .i64 pw250, .int .i64 ph250, .int .i64 pm250, .slice pv250a ps250.length pv250c] 66, .own (.slice pv140a ps140.length pv140c) ps140, .cells D133 #[.int .i64 pw130, .int .i64 ph130, .int .i64 pm130, .slice pv130a ps130.length pv130c] 66, .own (.slice pv130a ps130.length pv130c) ps130, .tape K124, .cells B #[.int .i64 r0, .int .i64 r1, .int .i64 r2, .int .i64 r3] 24] [] ((((w251.setCell ⟨D143, 0, none⟩ (.int .i64 pw250)).setCell ⟨D143, 1, none⟩ (.int .i64 ph250)).setCell ⟨D143, 2, none⟩ (.int .i64 pm250)).setCell ⟨D143, 3, none⟩ (.slice pv250a ps250.length pv250c)) from (H252.out.set4 3 rfl (.int .i64 pw250) (.int .i64 ph250) (.int .i64 pm250) (.slice pv250a ps250.length pv250c)))
              go_meet
              exact ⟨_, _, _, _, _, _, _, _, _, _, HVps250.out, H261.out.pick [3, 0, 2, 1, 5, 6, 7, 8] rfl (by decide)⟩
            · skip
              have hN3 : ((j : Int) == 3) = false := by simp; omega
              clear hN
              go_wp2_with fail
              go_meet
              exact ⟨_, _, _, _, _, _, _, _, _, _, HVps140.out, H236.out.pick [2, 3, 1, 0, 4, 5, 6, 7] rfl (by decide)⟩
        case rest =>
          obtain ⟨xw, xh, xm, xa, xc, xl, y0, y1, y2, y3, hvx, hst⟩ := hcut
          obtain ⟨u262, rfl⟩ : ∃ u262 : World, u262 = wc := ⟨_, rfl⟩
          have H263 := hid hst
          clear hst
          have HVxl := hid hvx
          clear hvx
          go_wp2_with fail
          refine (nextB_any B K124 _ _ (by omega) (H263.out.tapeAt 6 rfl)).mono ?_
          rintro e w265 ⟨x264, rfl, x264a, x264b, htn, hgn, hsn⟩
          have H266 := hid (H263.out.next 6 rfl htn hgn)
          clear htn hgn hsn
          go_upto_if 51 with fail
          go_cut [] (fun wx => ∃ (zw zh zm : Int) (za : Option Addr) (zc : Nat) (zl : List Int), St B W [.cells D143 #[.int .i64 zw, .int .i64 zh, .int .i64 zm, .slice za zl.length zc] 66, .own (.slice za zl.length zc) zl, .cells RQ #[.int .i64 y0, .int .i64 y1, .int .i64 y2, .int .i64 y3] 24, .arr (60) 2 (.slice (some ⟨og, 0, none⟩) ol oc) ol (prV ops), .cells D133 #[.int .i64 pw130, .int .i64 ph130, .int .i64 pm130, .slice pv130a ps130.length pv130c] 66, .own (.slice pv130a ps130.length pv130c) ps130, .tape K124, .cells B #[.int .i64 r0, .int .i64 r1, .int .i64 r2, .int .i64 r3] 24] [] wx)
          case first =>
            by_cases c267 : (x264 : Int) = 9
            · obtain ⟨c267c, c267d⟩ : (x264 : Int) ≤ 9 ∧ (9 : Int) ≤ x264 := by omega
              have c267a : ((x264 : Int) == (9)) = true := by simpa using c267
              have c267b : ((x264 : Int) != (9)) = false := by simpa using c267
              have c267h := hid c267
              clear c267
              have z268 := H266.out.cell 0 rfl 0 rfl
              have z269 := H266.out.cell 0 rfl 1 rfl
              have z270 := H266.out.cell 0 rfl 2 rfl
              have z271 := H266.out.cell 0 rfl 3 rfl
              go_wp2_with fail
              clear z268 z269 z270 z271
              refine (spoil_any B K124 _ _ _ _ _ _ _ _ (H266.out.slc 1 rfl) (H266.out.farSlc 1 6 rfl rfl (by decide) rfl) HVxl.out (H266.out.tapeAt 6 rfl)).mono ?_
              rintro e w273 ⟨pw272, ph272, pm272, pv272, ps272, rfl, ho, ht, hg⟩
              have H274 := hid (H266.out.add (H266.out.next 6 rfl ht hg) ho)
              obtain ⟨pv272a, pv272c, rfl, _⟩ := ho.slc
              clear ho ht hg
              have z275 := H274.out.cell 1 rfl 0 rfl
              have z276 := H274.out.free 1 rfl 0
              have z277 := H274.out.cell 1 rfl 1 rfl
              have z278 := H274.out.free 1 rfl 1
              have z279 := H274.out.cell 1 rfl 2 rfl
              have z280 := H274.out.free 1 rfl 2
              have z281 := H274.out.cell 1 rfl 3 rfl
              have z282 := H274.out.free 1 rfl 3
              go_wp2_with fail
              clear z275 z276 z277 z278 z279 z280 z281 z282
              have H283 := hid (show St B W [.own (.slice pv272a ps272.length pv272c) ps272, .cells D143 #[.int .i64 pw272, .int .i64 ph272, .int .i64 pm272, .slice pv272a ps272.length pv272c] 66, .own (.slice xa xl.length xc) xl, .cells RQ #[.int .i64 y0, .int .i64 y1, .int .i64 y2, .int .i64 y3] 24, .arr (60) 2 (.slice (some ⟨og, 0, none⟩) ol oc) ol (prV ops), .cells D133 #[.int .i64 pw130, .int .i64 ph130, .int .i64 pm130, .slice pv130a ps130.length pv130c] 66, .own (.slice pv130a ps130.length pv130c) ps130, .tape K124, .cells B #[.int .i64 r0, .int .i64 r1, .int .i64 r2, .int .i64 r3] 24] [] ((((w273.setCell ⟨D143, 0, none⟩ (.int .i64 pw272)).setCell ⟨D143, 1, none⟩ (.int .i64 ph272)).setCell ⟨D143, 2, none⟩ (.int .i64 pm272)).setCell ⟨D143, 3, none⟩ (.slice pv272a ps272.length pv272c)) from (H274.out.set4 1 rfl (.int .i64 pw272) (.int .i64 ph272) (.int .i64 pm272) (.slice pv272a ps272.length pv272c)))
              go_meet
              exact ⟨_, _, _, _, _, _, H283.out.pick [1, 0, 3, 4, 5, 6, 7, 8] rfl (by decide)⟩
            · have c267a : ((x264 : Int) == (9)) = false := by simpa using c267
              have c267b : ((x264 : Int) != (9)) = true := by simpa using c267
              have c267h := hid c267
              clear c267
              go_wp2_with fail
              go_meet
              exact ⟨_, _, _, _, _, _, H266.out.pick [0, 1, 2, 3, 4, 5, 6, 7] rfl (by decide)⟩
          case rest =>
            obtain ⟨zw, zh, zm, za, zc, zl, hst⟩ := hcut
            obtain ⟨u284, rfl⟩ : ∃ u284 : World, u284 = wc := ⟨_, rfl⟩
            have H285 := hid hst
            clear hst
            have z286 := H285.out.cell 4 rfl 0 rfl
            have z287 := H285.out.cell 4 rfl 1 rfl
            have z288 := H285.out.cell 4 rfl 2 rfl
            have z289 := H285.out.cell 4 rfl 3 rfl
            have z290 := H285.out.cell 0 rfl 0 rfl
            have z291 := H285.out.cell 0 rfl 1 rfl
            have z292 := H285.out.cell 0 rfl 2 rfl
            have z293 := H285.out.cell 0 rfl 3 rfl
            have z294 := H285.out.cell 2 rfl 0 rfl
            have z295 := H285.out.cell 2 rfl 1 rfl
            have z296 := H285.out.cell 2 rfl 2 rfl
            have z297 := H285.out.cell 2 rfl 3 rfl
            go_wp2_with fail
            clear z286 z287 z288 z289 z290 z291 z292 z293 z294 z295 z296 z297
            refine (ptile14 _ _ _ _ _ _ ps130 _ _ _ _ _ _ zl two _ _ _ ops _ _ _ _ _ _ (H285.out.slc 5 rfl) (H285.out.slc 1 rfl) (H285.out.prs 3 rfl)).mono ?_
            rintro e w298 ⟨v299, rfl, ho, hb⟩
            obtain ⟨c301, hc301⟩ : ∃ xx', pwTC pw130 ph130 pm130 ps130 zw zh zm zl two ops 255 y0 y1 y2 y3 = xx' := ⟨_, rfl⟩
            rw [hc301] at ho ⊢
            have HNc301 := hid hc301
            clear hc301
            obtain ⟨l302, hl302⟩ : ∃ xx', pwL pw130 ps130 two zl ops 255 y0 y1 y2 y3 = xx' := ⟨_, rfl⟩
            rw [hl302] at ho
            have HNl302 := hid hl302
            clear hl302
            obtain ⟨l303, hl303⟩ : ∃ xx', tL c301 l302 = xx' := ⟨_, rfl⟩
            rw [hl303] at ho
            have HNl303 := hid hl303
            clear hl303
            obtain ⟨t304, ht304⟩ : ∃ xx', tI c301 (y2 - y0) = xx' := ⟨_, rfl⟩
            rw [ht304]
            have HNt304 := hid ht304
            clear ht304
            obtain ⟨t305, ht305⟩ : ∃ xx', tI c301 (y3 - y1) = xx' := ⟨_, rfl⟩
            rw [ht305]
            have HNt305 := hid ht305
            clear ht305
            obtain ⟨t306, ht306⟩ : ∃ xx', tI c301 255 = xx' := ⟨_, rfl⟩
            rw [ht306]
            have HNt306 := hid ht306
            clear ht306
            have H300 := hid (H285.out.grow hb ho)
            obtain ⟨v299a, v299c, rfl, _⟩ := ho.slc
            clear ho hb
            obtain ⟨D307, hD307⟩ : ∃ D, w298.heap.size = D := ⟨_, rfl⟩
            go_upto_region 16 with fail
            have H308 := hid (show St B W [.cells D307 #[.int .i64 t304, .int .i64 t305, .int .i64 t306, .slice v299a l303.length v299c] 66, .own (.slice v299a l303.length v299c) l303, .cells D143 #[.int .i64 zw, .int .i64 zh, .int .i64 zm, .slice za zl.length zc] 66, .own (.slice za zl.length zc) zl, .cells RQ #[.int .i64 y0, .int .i64 y1, .int .i64 y2, .int .i64 y3] 24, .arr (60) 2 (.slice (some ⟨og, 0, none⟩) ol oc) ol (prV ops), .cells D133 #[.int .i64 pw130, .int .i64 ph130, .int .i64 pm130, .slice pv130a ps130.length pv130c] 66, .own (.slice pv130a ps130.length pv130c) ps130, .tape K124, .cells B #[.int .i64 r0, .int .i64 r1, .int .i64 r2, .int .i64 r3] 24] [] (w298.alloc (.cells #[.int .i64 t304, .int .i64 t305, .int .i64 t306, .slice v299a l303.length v299c] 66)) from (H300.out.alloc #[.int .i64 t304, .int .i64 t305, .int .i64 t306, .slice v299a l303.length v299c] 66 hD307))
            first | refine gen_code H308.out ?_ | refine gen_list H308.out ?_ | refine gen_calls H308.out ?_
            intro w309 hG
            clear H308
            have H308 := hid hG
            clear hG
            clear hD307
            have z310 := H308.out.cell 6 rfl 0 rfl
            have z311 := H308.out.cell 6 rfl 1 rfl
            have z312 := H308.out.cell 6 rfl 2 rfl
            have z313 := H308.out.cell 6 rfl 3 rfl
            have z314 := H308.out.cell 2 rfl 0 rfl
            have z315 := H308.out.cell 2 rfl 1 rfl
            have z316 := H308.out.cell 2 rfl 2 rfl
            have z317 := H308.out.cell 2 rfl 3 rfl
            have z318 := H308.out.cell 4 rfl 0 rfl
            have z319 := H308.out.cell 4 rfl 1 rfl
            have z320 := H308.out.cell 4 rfl 2 rfl
            have z321 := H308.out.cell 4 rfl 3 rfl
            go_wp2_with fail
            clear z310 z311 z312 z313 z314 z315 z316 z317 z318 z319 z320 z321
            refine (rtile14 _ _ _ _ _ _ ps130 _ _ _ _ _ _ zl two _ _ _ ops _ _ _ _ _ _ (H308.out.slc 7 rfl) (H308.out.slc 3 rfl) (H308.out.prs 5 rfl)).mono ?_
            rintro e w322 ⟨v323, rfl, ho, hb⟩
            rw [HNc301.out] at ho ⊢
            rw [HNl302.out] at ho
            rw [HNl303.out] at ho
            rw [HNt304.out]
            rw [HNt305.out]
            rw [HNt306.out]
            have H324 := hid (H308.out.grow hb ho)
            obtain ⟨v323a, v323c, rfl, _⟩ := ho.slc
            clear ho hb
            obtain ⟨D325, hD325⟩ : ∃ D, w322.heap.size = D := ⟨_, rfl⟩
            go_upto_region 17 with fail
            have H326 := hid (show St B W [.cells D325 #[.int .i64 t304, .int .i64 t305, .int .i64 t306, .slice v323a l303.length v323c] 66, .own (.slice v323a l303.length v323c) l303, .cells D307 #[.int .i64 t304, .int .i64 t305, .int .i64 t306, .slice v299a l303.length v299c] 66, .own (.slice v299a l303.length v299c) l303, .cells D143 #[.int .i64 zw, .int .i64 zh, .int .i64 zm, .slice za zl.length zc] 66, .own (.slice za zl.length zc) zl, .cells RQ #[.int .i64 y0, .int .i64 y1, .int .i64 y2, .int .i64 y3] 24, .arr (60) 2 (.slice (some ⟨og, 0, none⟩) ol oc) ol (prV ops), .cells D133 #[.int .i64 pw130, .int .i64 ph130, .int .i64 pm130, .slice pv130a ps130.length pv130c] 66, .own (.slice pv130a ps130.length pv130c) ps130, .tape K124, .cells B #[.int .i64 r0, .int .i64 r1, .int .i64 r2, .int .i64 r3] 24] [] (w322.alloc (.cells #[.int .i64 t304, .int .i64 t305, .int .i64 t306, .slice v323a l303.length v323c] 66)) from (H324.out.alloc #[.int .i64 t304, .int .i64 t305, .int .i64 t306, .slice v323a l303.length v323c] 66 hD325))
            first | refine gen_code H326.out ?_ | refine gen_list H326.out ?_ | refine gen_calls H326.out ?_
            intro w327 hG
            clear H326
            have H326 := hid hG
            clear hG
            clear hD325
            have z328 := H326.out.cell 2 rfl 0 rfl
            have z329 := H326.out.cell 2 rfl 1 rfl
            have z330 := H326.out.cell 2 rfl 2 rfl
            have z331 := H326.out.cell 2 rfl 3 rfl
            have z332 := H326.out.cell 0 rfl 0 rfl
            have z333 := H326.out.cell 0 rfl 1 rfl
            have z334 := H326.out.cell 0 rfl 2 rfl
            have z335 := H326.out.cell 0 rfl 3 rfl
            go_wp2_with fail
            clear z328 z329 z330 z331 z332 z333 z334 z335
            refine (qequal_any _ _ _ _ _ _ l303 _ _ _ _ _ _ l303 _ (H326.out.slc 3 rfl) (H326.out.slc 1 rfl)).mono ?_
            rintro e w336 ⟨rfl, hb⟩
            have H337 := hid (H326.out.call hb)
            clear hb
            rw [show pEq t304 t305 t306 l303 t304 t305 t306 l303 = true from by simp [pEq]]
            go_wp2_with fail
            go_roundw
            case rel => exact ⟨j + 1, by omega, by go_num, H337.out.pick [10, 11] rfl (by decide)⟩
            case measure => first | (simp [intOf]; omega) | (simp [intOf]; done)
    · skip
      go_wp2_with fail
      refine (sane14 _).mono ?_
      rintro e w338 ⟨rfl, hb⟩
      have H339 := hid (H128.out.call hb)
      clear hb
      go_wp2_with fail
      go_ret
      exact ⟨rfl, by first | exact H339.out.below | exact H339.out.below'⟩
end Go.Proofs.Ytnnpnljdefmmcaa
