/-
  The walk of PointwiseJoins: a program behind another one computes the composition.
-/
import Derived.Test.YtnnpnljdefmmcaaPwProg
namespace Go.Proofs.Ytnnpnljdefmmcaa
open Go.RowKit
attribute [local go_sem ↓] Go.wp_at_zero Go.wp_at_succ
set_option linter.unusedVariables false
set_option linter.unusedSimpArgs false

section
variable {P : Program}
theorem oper_append_from {o : Oper} {a : Act} {Q : Exit → Act → World → Prop} {K : Act → World → Prop} {w : World} (s x : Operand) (t e : TypeId) (size bytes : Nat) (z : Value)
    (hu : P.underlying t = some (.slice e)) (hinf : (P.info? e).map (fun i => (i.zero, i.size, i.bytes)) = some (some z, size, bytes)) (hzs : z.cells.size = size) (hsz : 0 < size) (hby : bytes ≤ 64)
    (ho : o.op = .call { callee := .builtin .append, args := #[s, x], argTypes := #[t, t] })
    (base : Nat) (v : Value) (n : Nat) (vs : List Value) (b off m c : Nat) (news : List Value) (hs : a.eval s = v) (hx : a.eval x = .slice (some ⟨b, off, none⟩) m c) (hl : news.length = m * size) (hown : w.ownsRow base e size v n vs)
    (hc : ∀ j u, news[j]? = some u → w.cell? ⟨b, off + j, none⟩ = some u) (h1 : ∀ u ∈ news, u.oneCell' = true) (hlen : n + m ≤ 1000000000) (hbase : base ≤ w.heap.size)
    (h : ∀ v' w', w'.ownsRow base e size v' (n + m) (vs ++ news) → w.grownBy w' v.ownBlock → (v'.ownBlock = v.ownBlock ∨ v'.ownBlock = some w.heap.size) → K (a.put o.dst v') w') :
    o.wp P a w K Q := by
  obtain ⟨i0, hi, hz0, hz1, hz2⟩ := info_parts hinf
  obtain ⟨v', w', hr, h2, h3, h4, h5⟩ := run_append_own_at (P := P) w base t o.type e i0 z size bytes hu hi hz0 hz1 hz2 hzs hsz v n vs hown ⟨b, off, none⟩ m c news hl
    (by intro j u hj
        have := hc j u hj
        simp only [Addr.add]
        split
        · rename_i e0; subst e0; rw [Nat.add_zero] at this; exact this
        · exact this) h1 (by unfold maxLen; omega) (Nat.le_trans (Nat.mul_le_mul hlen hby) (by decide)) hbase
  unfold Oper.wp execOp
  simp only [ho, resolve, invoke, builtin, Sem.run_bind, Sem.run_pure, Result.andThen_ok, List.map_toArray, List.map_cons, List.map_nil, hs, hx, hr]
  exact h v' w' h2 h3 h5
end
theorem arr_cells {B : Nat} {w : World} {e : TypeId} {sz n g c : Nat} {vs : List Value} (h : w.ownsRow B e sz (.slice (some ⟨g, 0, none⟩) n c) n vs) : ∀ j u, vs[j]? = some u → w.cell? ⟨g, 0 + j, none⟩ = some u := fun j u hj => by
  rcases ownsRow_form h with ⟨e, _⟩ | ⟨g', c', e, _, _, _, h3⟩
  · cases e
  · cases e; rw [Nat.zero_add]; exact h3 j u hj
theorem arr_tail {B : Nat} {w : World} {e : TypeId} {n g c : Nat} {L t : List (Int × Int)} {x : Int × Int} (h : w.ownsRow B e 2 (.slice (some ⟨g, 0, none⟩) n c) n (prV L)) (hL : L = x :: t) : ∀ j u, (prV t)[j]? = some u → w.cell? ⟨g, 2 + j, none⟩ = some u := fun j u hj => by
  have h3 := arr_cells h (2 + j) u (by rw [hL]; have e : prV (x :: t) = .int .i64 x.1 :: .int .i64 x.2 :: prV t := by simp [prV]
                                       rw [e, show 2 + j = j + 1 + 1 by omega]; simpa using hj)
  rwa [Nat.zero_add] at h3

set_option maxRecDepth 100000 in
set_option maxHeartbeats 12800000 in
theorem walk_PointwiseJoins (a : Option Addr) (n c : Nat) (zs : List Int) (p q : Int) (W : World) (hr : RowIn .i64 W a n c zs) (_ : I64 p) (_ : I64 q) :
    Calls Try.prog 8 #[.slice a n c, .int .i64 p, .int .i64 q] W fun e w' => e = .returned (.bool true) ∧ Below W.heap.size W w' := by
  obtain ⟨B, hB⟩ : ∃ B, W.heap.size = B := ⟨_, rfl⟩
  have HI0 := hid (St.init hB)
  have HN := hid (nearRow hr hB)
  have HR := hid hr
  clear hr
  go_enter Try.func8, Try.ntmps8
  go_wp2_with fail
  obtain ⟨K122, hK122⟩ : ∃ D, W.heap.size = D := ⟨_, rfl⟩
  refine (newB_any B _ _ _ _ _ HR.out.len (HI0.out.oldRow HR.out.row) HN.out HI0.out.size).mono ?_
  rintro e w123 ⟨rfl, ht, hb, hs⟩
  rw [hK122] at ht ⊢
  have H124 := hid (HI0.out.newTape ht hb hK122)
  clear ht hb hs hK122
  go_wp2_with fail
  refine (ops_any B K122 true _ (H124.out.tapeAt 0 rfl)).mono ?_
  rintro e w125 ⟨v127, L128, rfl, hoi, hl1, hl2, ho, ht, hg⟩
  obtain ⟨ln131, hln131⟩ : ∃ q, L128.length = q := ⟨_, rfl⟩
  rw [hln131] at ho hl1 hl2
  have HLNL128 := hid hln131
  have H126 := hid (H124.out.addE (H124.out.next 0 rfl ht hg) ho)
  obtain ⟨g129, c130, hva⟩ := arr_pos ho (by omega)
  subst hva
  have ln131d : ln131 ≤ 9 := by obtain ⟨q, hq, hm⟩ := hoi; have := hm.len; omega
  have HOL128 := hid hoi
  obtain ⟨ln131a, ln131b⟩ := And.intro hl1 hl2
  clear ho ht hg hoi hln131 hl1 hl2
  go_wp2_with fail
  refine (ops_any B K122 false _ (H126.out.tapeAt 1 rfl)).mono ?_
  rintro e w132 ⟨v134, L135, rfl, hoi, hl1, hl2, ho, ht, hg⟩
  obtain ⟨ln138, hln138⟩ : ∃ q, L135.length = q := ⟨_, rfl⟩
  rw [hln138] at ho hl1 hl2
  have HLNL135 := hid hln138
  have H133 := hid (H126.out.addE (H126.out.next 1 rfl ht hg) ho)
  obtain ⟨g136, c137, hva⟩ := arr_pos ho (by omega)
  subst hva
  have ln138d : ln138 ≤ 9 := by obtain ⟨q, hq, hm⟩ := hoi; have := hm.len; omega
  have HOL135 := hid hoi
  obtain ⟨ln138a, ln138b⟩ := And.intro hl1 hl2
  clear ho ht hg hoi hln138 hl1 hl2
  go_wp2_with fail
  refine (mod_any _ _ _ (by omega) (by omega)).mono ?_
  rintro e w139 ⟨rfl, hsw⟩
  have hsw2 : w132 = w139 := by first | exact hsw | exact hsw.symm
  clear hsw
  subst hsw2
  obtain ⟨md140, hmd140⟩ : ∃ xx', p % 256 = xx' := ⟨_, rfl⟩
  rw [hmd140]
  have HNmd140 := hid hmd140
  clear hmd140
  obtain ⟨md140a, md140b⟩ : 0 ≤ md140 ∧ md140 < 256 := by rw [← HNmd140.out]; exact ⟨Int.emod_nonneg _ (by omega), Int.emod_lt_of_pos _ (by omega)⟩
  go_wp2_with fail
  refine (mod_any _ _ _ (by omega) (by omega)).mono ?_
  rintro e w141 ⟨rfl, hsw⟩
  have hsw2 : w132 = w141 := by first | exact hsw | exact hsw.symm
  clear hsw
  subst hsw2
  obtain ⟨md142, hmd142⟩ : ∃ xx', q % 256 = xx' := ⟨_, rfl⟩
  rw [hmd142]
  have HNmd142 := hid hmd142
  clear hmd142
  obtain ⟨md142a, md142b⟩ : 0 ≤ md142 ∧ md142 < 256 := by rw [← HNmd142.out]; exact ⟨Int.emod_nonneg _ (by omega), Int.emod_lt_of_pos _ (by omega)⟩
  go_wp2_with fail
  refine (peval_any _ _ _ L128 _ _ _ (H133.out.prs 1 rfl)).mono ?_
  rintro e w143 ⟨rfl, hb⟩
  have H144 := hid (H133.out.call hb)
  clear hb
  obtain ⟨k1, hk1, hm1⟩ := HOL128.out
  obtain ⟨k2, hk2, hm2⟩ := HOL135.out
  obtain ⟨tt, htt, _⟩ := hm2.head rfl
  have HTT := hid htt
  have HJ := hid (joins_all hm1 hk1 hm2 hk2 htt (u := md140) (v := md142) (by omega) (by omega))
  have hln2 := HLNL135.out
  have HTL := hid (show tt.length + 1 = ln138 from by rw [← hln2, htt]; rfl)
  clear hm1 hm2 htt hk1 hk2 hln2
  obtain ⟨r145, hr145⟩ : ∃ xx', (evR L128 md140 md142).1 = xx' := ⟨_, rfl⟩
  rw [hr145]
  have HNr145 := hid hr145
  clear hr145
  rw [HJ.out.1]
  have hl0 : ((ln138 : Int) == 0) = false := by simp; omega
  by_cases c146 : (r145 : Int) < 0
  · skip
    go_wp2_with fail
    refine (sane14 _).mono ?_
    rintro e w147 ⟨rfl, hb⟩
    have H148 := hid (H144.out.call hb)
    clear hb
    go_wp2_with fail
    go_ret
    exact ⟨rfl, by first | exact H148.out.below | exact H148.out.below'⟩
  · skip
    by_cases c149 : (1000 : Int) < r145
    · skip
      go_wp2_with fail
      refine (sane14 _).mono ?_
      rintro e w150 ⟨rfl, hb⟩
      have H151 := hid (H144.out.call hb)
      clear hb
      go_wp2_with fail
      go_ret
      exact ⟨rfl, by first | exact H151.out.below | exact H151.out.below'⟩
    · skip
      go_upto_region 8 with fail
      clear hl0
      have hcc := arr_cap (H144.out.arrE 0 rfl)
      obtain ⟨M, hM⟩ : ∃ M, tt.length = M := ⟨_, rfl⟩
      obtain ⟨q1, q2⟩ : ln138 ≤ M + 1 ∧ M + 1 ≤ ln138 := by have := HTL.out; omega
      have HMM := hid hM
      clear hM
      by_cases hc1 : c137 = 1
      · skip
        obtain rfl : M = 0 := by omega
        obtain rfl : ln138 = 1 := by omega
        subst hc1
        go_upto_region 8 with fail
        have H152 := hid H144.out.drew
        refine wp_region_held_drew (S := (fun _ => True)) (by kernel_rfl) trivial (fun hHeld => ?_)
        generalize w143.drew = k153 at *
        refine wpAnyH_take (i := 1) (oi := _) (v := ?_) rfl (by kernel_rfl) (by kernel_rfl) (by kernel_rfl) (fun _ _ _ h => h) (Or.inl ⟨by rfl, ?_⟩) (by assumption) ?_
        rotate_left
        focus (intro wS hSw; (try dsimp only at hSw); go_simp; (try with_reducible rfl))
        try simp only [Act.put, List.getElem_toArray, List.getElem_cons_zero, List.getElem_cons_succ, List.setIfInBounds_toArray, List.set_cons_zero, List.set_cons_succ]
        refine wpAnyH_take (i := 3) (oi := _) (v := ?_) rfl (by kernel_rfl) (by kernel_rfl) (by kernel_rfl) (fun _ _ _ h => h) (Or.inl ⟨by rfl, ?_⟩) (by assumption) ?_
        rotate_left
        focus (intro wS hSw; (try dsimp only at hSw); go_simp; (try with_reducible rfl))
        try simp only [Act.put, List.getElem_toArray, List.getElem_cons_zero, List.getElem_cons_succ, List.setIfInBounds_toArray, List.set_cons_zero, List.set_cons_succ]
        refine wpAnyH_take (i := 4) (oi := _) (v := ?_) rfl (by kernel_rfl) (by kernel_rfl) (by kernel_rfl) (fun _ _ _ h => h) (Or.inl ⟨by rfl, ?_⟩) (by assumption) ?_
        rotate_left
        focus (intro wS hSw; (try dsimp only at hSw); go_simp; (try with_reducible rfl))
        try simp only [Act.put, List.getElem_toArray, List.getElem_cons_zero, List.getElem_cons_succ, List.setIfInBounds_toArray, List.set_cons_zero, List.set_cons_succ]
        refine wpAnyH_ready (rs := [0]) (by kernel_rfl) (by simp) (AllReadyH.cons (o := _) rfl (fun K hK => ?_) AllReadyH.nil)
        obtain ⟨D154, hD154⟩ : ∃ D, k153.heap.size = D := ⟨_, rfl⟩
        have H155 := hid (H152.out.alloc #[] 60 hD154)
        go_simp
        refine hK.out _ _ ?_ (fun hHeld2 => ?_)
        focus ((try dsimp only); (try exact trivial))
        clear hK K hHeld
        try simp only [Act.put, List.getElem_toArray, List.getElem_cons_zero, List.getElem_cons_succ, List.setIfInBounds_toArray, List.set_cons_zero, List.set_cons_succ]
        clear hD154
        generalize (k153.alloc (.cells #[] 60)) = k156 at *
        have hHeld := hHeld2
        clear hHeld2
        refine wpAnyH_ready (rs := [2]) (by kernel_rfl) (by simp) (AllReadyH.cons (o := _) rfl (fun K hK => ?_) AllReadyH.nil)
        rw [if_pos (by rfl)]
        have H157 := hid (H155.out.litArr 0 2 0 [] rfl rfl (by decide))
        refine oper_append_from _ _ 31 60 2 16 (.agg #[.int .i64 0, .int .i64 0]) Try.underlying31 info_op rfl (by decide) (by decide) rfl B _ _ _ g129 0 _ _ (prV L128) rfl rfl (by rw [prV_len, HLNL128.out]) (H157.out.arrE 0 rfl) (arr_cells (H157.out.arrE 2 rfl)) (prV_one _) (by omega) H157.out.size ?_
        intro v9a k159 ho hg hv
        have H158 := hid (H157.out.appendE 0 rfl ho hg hv)
        clear ho hg hv
        obtain ⟨g160, c161, hva⟩ := arr_pos (H158.out.arrE 0 rfl) (by omega)
        subst hva
        rw [List.nil_append] at H158
        simp only [Nat.zero_add] at H158 ⊢
        refine hK.out _ _ ?_ (fun hHeld2 => ?_)
        focus ((try dsimp only); (try exact trivial))
        clear hK K
        try simp only [Act.put, List.getElem_toArray, List.getElem_cons_zero, List.getElem_cons_succ, List.setIfInBounds_toArray, List.set_cons_zero, List.set_cons_succ]
        clear hHeld
        have hHeld := hHeld2
        clear hHeld2
        refine wpAnyH_ready (rs := [5]) (by kernel_rfl) (by simp) (AllReadyH.cons (o := _) rfl (fun K hK => ?_) AllReadyH.nil)
        rw [if_pos (by rfl)]
        refine oper_append_from _ _ 31 60 2 16 (.agg #[.int .i64 0, .int .i64 0]) Try.underlying31 info_op rfl (by decide) (by decide) rfl B _ _ _ g136 0 0 _ [] rfl rfl rfl (H158.out.arrE 0 rfl) (fun j u hj => by simp at hj) (by intro u hu; cases hu) (by omega) H158.out.size ?_
        intro v9b k163 ho hg hv
        have H162 := hid (H158.out.appendE 0 rfl ho hg hv)
        clear ho hg hv
        obtain ⟨g164, c165, hva⟩ := arr_pos (H162.out.arrE 0 rfl) (by omega)
        subst hva
        have htn : tt = [] := List.eq_nil_of_length_eq_zero HMM.out
        rw [show prV L128 ++ [] = prV (L128 ++ tt) from by rw [htn]; simp] at H162
        clear htn
        simp only [Nat.add_zero] at H162 ⊢
        refine hK.out _ _ ?_ (fun hHeld2 => ?_)
        focus ((try dsimp only); (try exact trivial))
        clear hK K
        try simp only [Act.put, List.getElem_toArray, List.getElem_cons_zero, List.getElem_cons_succ, List.setIfInBounds_toArray, List.set_cons_zero, List.set_cons_succ]
        clear hHeld
        have hHeld := hHeld2
        clear hHeld2
        refine wpAnyH_take (i := 6) (oi := _) (v := ?_) rfl (by kernel_rfl) (by kernel_rfl) (by kernel_rfl) (fun _ _ _ h => h) (Or.inl ⟨by rfl, ?_⟩) (by assumption) ?_
        rotate_left
        focus (intro wS hSw; (try dsimp only at hSw); go_simp; (try with_reducible rfl))
        try simp only [Act.put, List.getElem_toArray, List.getElem_cons_zero, List.getElem_cons_succ, List.setIfInBounds_toArray, List.set_cons_zero, List.set_cons_succ]
        refine wpAnyH_done (by kernel_rfl) ?_ _
        try clear hHeld
        go_wp2_with fail
        refine (mod_any _ _ _ (by omega) (by omega)).mono ?_
        rintro e w166 ⟨rfl, hsw⟩
        have hsw2 : k163 = w166 := by first | exact hsw | exact hsw.symm
        clear hsw
        subst hsw2
        rw [HNmd140.out]
        go_wp2_with fail
        refine (mod_any _ _ _ (by omega) (by omega)).mono ?_
        rintro e w167 ⟨rfl, hsw⟩
        have hsw2 : k163 = w167 := by first | exact hsw | exact hsw.symm
        clear hsw
        subst hsw2
        rw [HNmd142.out]
        go_wp2_with fail
        refine (peval_any _ _ _ (L128 ++ tt) _ _ _ (H162.out.prs 0 rfl)).mono ?_
        rintro e w168 ⟨rfl, hb⟩
        have H169 := hid (H162.out.call hb)
        clear hb
        obtain ⟨n170, hn170⟩ : ∃ xx', (evR (L128 ++ tt) md140 md142).1 = xx' := ⟨_, rfl⟩
        rw [hn170]
        have HNn170 := hid hn170
        clear hn170
        have HJ2 := hid (HJ.out.2 (by rw [HNr145.out]; omega) (by rw [HNr145.out]; omega))
        rw [HJ2.out.1]
        go_wp2_with fail
        refine (peval_any _ _ _ L135 _ _ _ (H169.out.prs 1 rfl)).mono ?_
        rintro e w171 ⟨rfl, hb⟩
        have H172 := hid (H169.out.call hb)
        clear hb
        rw [show (evR L135 r145 0).2 = 0 from by rw [← HNr145.out]; exact HJ2.out.2.1, show (evR L135 r145 0).1 = n170 from by rw [← HNr145.out, ← HNn170.out]; exact HJ2.out.2.2.symm]
        go_wp2_with fail
        refine (sane14 _).mono ?_
        rintro e w173 ⟨rfl, hb⟩
        have H174 := hid (H172.out.call hb)
        clear hb
        go_wp2_with fail
        go_ret
        exact ⟨rfl, by first | exact H174.out.below | exact H174.out.below'⟩
      · skip
        have hk1 : ((1 : Int)) ≤ ln138 := by omega
        have hk2 : ((ln138 : Int)) ≤ c137 := by omega
        have hk3 : ¬ (c137 = 1) := hc1
        have hk4 : (1 : Int) ≤ c137 := by omega
        go_upto_region 8 with fail
        have H175 := hid H144.out.drew
        refine wp_region_held_drew (S := (fun _ => True)) (by kernel_rfl) trivial (fun hHeld => ?_)
        generalize w143.drew = k176 at *
        refine wpAnyH_take (i := 1) (oi := _) (v := ?_) rfl (by kernel_rfl) (by kernel_rfl) (by kernel_rfl) (fun _ _ _ h => h) (Or.inl ⟨by rfl, ?_⟩) (by assumption) ?_
        rotate_left
        focus (intro wS hSw; (try dsimp only at hSw); go_simp; (try with_reducible rfl))
        try simp only [Act.put, List.getElem_toArray, List.getElem_cons_zero, List.getElem_cons_succ, List.setIfInBounds_toArray, List.set_cons_zero, List.set_cons_succ]
        refine wpAnyH_take (i := 3) (oi := _) (v := ?_) rfl (by kernel_rfl) (by kernel_rfl) (by kernel_rfl) (fun _ _ _ h => h) (Or.inl ⟨by rfl, ?_⟩) (by assumption) ?_
        rotate_left
        focus (intro wS hSw; (try dsimp only at hSw); go_simp; (try with_reducible rfl))
        try simp only [Act.put, List.getElem_toArray, List.getElem_cons_zero, List.getElem_cons_succ, List.setIfInBounds_toArray, List.set_cons_zero, List.set_cons_succ]
        refine wpAnyH_take (i := 4) (oi := _) (v := ?_) rfl (by kernel_rfl) (by kernel_rfl) (by kernel_rfl) (fun _ _ _ h => h) (Or.inl ⟨by rfl, ?_⟩) (by assumption) ?_
        rotate_left
        focus (intro wS hSw; (try dsimp only at hSw); go_simp; (try with_reducible rfl))
        try simp only [Act.put, List.getElem_toArray, List.getElem_cons_zero, List.getElem_cons_succ, List.setIfInBounds_toArray, List.set_cons_zero, List.set_cons_succ]
        refine wpAnyH_ready (rs := [0]) (by kernel_rfl) (by simp) (AllReadyH.cons (o := _) rfl (fun K hK => ?_) AllReadyH.nil)
        obtain ⟨D177, hD177⟩ : ∃ D, k176.heap.size = D := ⟨_, rfl⟩
        have H178 := hid (H175.out.alloc #[] 60 hD177)
        go_simp
        refine hK.out _ _ ?_ (fun hHeld2 => ?_)
        focus ((try dsimp only); (try exact trivial))
        clear hK K hHeld
        try simp only [Act.put, List.getElem_toArray, List.getElem_cons_zero, List.getElem_cons_succ, List.setIfInBounds_toArray, List.set_cons_zero, List.set_cons_succ]
        clear hD177
        generalize (k176.alloc (.cells #[] 60)) = k179 at *
        have hHeld := hHeld2
        clear hHeld2
        refine wpAnyH_ready (rs := [2]) (by kernel_rfl) (by simp) (AllReadyH.cons (o := _) rfl (fun K hK => ?_) AllReadyH.nil)
        rw [if_pos (by rfl)]
        have H180 := hid (H178.out.litArr 0 2 0 [] rfl rfl (by decide))
        refine oper_append_from _ _ 31 60 2 16 (.agg #[.int .i64 0, .int .i64 0]) Try.underlying31 info_op rfl (by decide) (by decide) rfl B _ _ _ g129 0 _ _ (prV L128) rfl rfl (by rw [prV_len, HLNL128.out]) (H180.out.arrE 0 rfl) (arr_cells (H180.out.arrE 2 rfl)) (prV_one _) (by omega) H180.out.size ?_
        intro v9a k182 ho hg hv
        have H181 := hid (H180.out.appendE 0 rfl ho hg hv)
        clear ho hg hv
        obtain ⟨g183, c184, hva⟩ := arr_pos (H181.out.arrE 0 rfl) (by omega)
        subst hva
        rw [List.nil_append] at H181
        simp only [Nat.zero_add] at H181 ⊢
        refine hK.out _ _ ?_ (fun hHeld2 => ?_)
        focus ((try dsimp only); (try exact trivial))
        clear hK K
        try simp only [Act.put, List.getElem_toArray, List.getElem_cons_zero, List.getElem_cons_succ, List.setIfInBounds_toArray, List.set_cons_zero, List.set_cons_succ]
        clear hHeld
        have hHeld := hHeld2
        clear hHeld2
        refine wpAnyH_ready (rs := [5]) (by kernel_rfl) (by simp) (AllReadyH.cons (o := _) rfl (fun K hK => ?_) AllReadyH.nil)
        rw [if_pos (by rfl)]
        refine oper_append_from _ _ 31 60 2 16 (.agg #[.int .i64 0, .int .i64 0]) Try.underlying31 info_op rfl (by decide) (by decide) rfl B _ _ _ g136 2 (ln138 - 1) _ (prV tt) rfl rfl (by rw [prV_len, HMM.out, show M = ln138 - 1 from by omega]) (H181.out.arrE 0 rfl) (arr_tail (H181.out.arrE 1 rfl) HTT.out) (prV_one _) (by omega) H181.out.size ?_
        intro v9b k186 ho hg hv
        have H185 := hid (H181.out.appendE 0 rfl ho hg hv)
        clear ho hg hv
        obtain ⟨g187, c188, hva⟩ := arr_pos (H185.out.arrE 0 rfl) (by omega)
        subst hva
        rw [← prV_app] at H185
        refine hK.out _ _ ?_ (fun hHeld2 => ?_)
        focus ((try dsimp only); (try exact trivial))
        clear hK K
        try simp only [Act.put, List.getElem_toArray, List.getElem_cons_zero, List.getElem_cons_succ, List.setIfInBounds_toArray, List.set_cons_zero, List.set_cons_succ]
        clear hHeld
        have hHeld := hHeld2
        clear hHeld2
        refine wpAnyH_take (i := 6) (oi := _) (v := ?_) rfl (by kernel_rfl) (by kernel_rfl) (by kernel_rfl) (fun _ _ _ h => h) (Or.inl ⟨by rfl, ?_⟩) (by assumption) ?_
        rotate_left
        focus (intro wS hSw; (try dsimp only at hSw); go_simp; (try with_reducible rfl))
        try simp only [Act.put, List.getElem_toArray, List.getElem_cons_zero, List.getElem_cons_succ, List.setIfInBounds_toArray, List.set_cons_zero, List.set_cons_succ]
        refine wpAnyH_done (by kernel_rfl) ?_ _
        try clear hHeld
        go_wp2_with fail
        refine (mod_any _ _ _ (by omega) (by omega)).mono ?_
        rintro e w189 ⟨rfl, hsw⟩
        have hsw2 : k186 = w189 := by first | exact hsw | exact hsw.symm
        clear hsw
        subst hsw2
        rw [HNmd140.out]
        go_wp2_with fail
        refine (mod_any _ _ _ (by omega) (by omega)).mono ?_
        rintro e w190 ⟨rfl, hsw⟩
        have hsw2 : k186 = w190 := by first | exact hsw | exact hsw.symm
        clear hsw
        subst hsw2
        rw [HNmd142.out]
        go_wp2_with fail
        refine (peval_any _ _ _ (L128 ++ tt) _ _ _ (H185.out.prs 0 rfl)).mono ?_
        rintro e w191 ⟨rfl, hb⟩
        have H192 := hid (H185.out.call hb)
        clear hb
        obtain ⟨n193, hn193⟩ : ∃ xx', (evR (L128 ++ tt) md140 md142).1 = xx' := ⟨_, rfl⟩
        rw [hn193]
        have HNn193 := hid hn193
        clear hn193
        have HJ2 := hid (HJ.out.2 (by rw [HNr145.out]; omega) (by rw [HNr145.out]; omega))
        rw [HJ2.out.1]
        go_wp2_with fail
        refine (peval_any _ _ _ L135 _ _ _ (H192.out.prs 1 rfl)).mono ?_
        rintro e w194 ⟨rfl, hb⟩
        have H195 := hid (H192.out.call hb)
        clear hb
        rw [show (evR L135 r145 0).2 = 0 from by rw [← HNr145.out]; exact HJ2.out.2.1, show (evR L135 r145 0).1 = n193 from by rw [← HNr145.out, ← HNn193.out]; exact HJ2.out.2.2.symm]
        go_wp2_with fail
        refine (sane14 _).mono ?_
        rintro e w196 ⟨rfl, hb⟩
        have H197 := hid (H195.out.call hb)
        clear hb
        go_wp2_with fail
        go_ret
        exact ⟨rfl, by first | exact H197.out.below | exact H197.out.below'⟩
end Go.Proofs.Ytnnpnljdefmmcaa
