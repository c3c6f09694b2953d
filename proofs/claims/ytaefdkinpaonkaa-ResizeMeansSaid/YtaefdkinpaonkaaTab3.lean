/-
  Contracts: division by largest remainders, in the program and in the reference.
-/
import Derived.Test.YtaefdkinpaonkaaTab1
namespace Go.Proofs.Ytaefdkinpaonkaa
open Go.RowKit
attribute [local go_sem ↓] Go.wp_at_zero Go.wp_at_succ
set_option linter.unusedVariables false
set_option linter.unusedSimpArgs false

theorem set_getT {ol : List Int} {j : Nat} {v : Int} (hj : j < ol.length) (i : Nat) : (ol.set j v).getD i 0 = if i = j then v else ol.getD i 0 := by
  rw [List.getD_eq_getElem?_getD, List.getElem?_set]
  by_cases h : j = i
  · subst h; simp [hj]
  · rw [if_neg h, if_neg (fun e => h e.symm), List.getD_eq_getElem?_getD]
/-- Two lists that are filled from the left. -/
structure DvTo (total n : Int) (l ws rs : List Int) (j : Nat) : Prop where
  lw : ws.length = l.length
  lr : rs.length = l.length
  vw : ∀ i, i < j → ws.getD i 0 = total * l.getD i 0 / n
  vr : ∀ i, i < j → rs.getD i 0 = total * l.getD i 0 % n
theorem DvTo.zero {total n : Int} {l : List Int} {k : Nat} (h : k = l.length) : DvTo total n l (List.replicate k 0) (List.replicate k 0) 0 := ⟨by simp [h], by simp [h], fun i hi => by omega, fun i hi => by omega⟩
theorem DvTo.next {total n : Int} {l ws rs : List Int} {j : Nat} (h : DvTo total n l ws rs j) (hj : j < l.length) {x y : Int} (hx : total * l.getD j 0 / n = x) (hy : total * l.getD j 0 % n = y) : DvTo total n l (ws.set j x) (rs.set j y) (j + 1) := by
  refine ⟨by simp [h.lw], by simp [h.lr], fun i hi => ?_, fun i hi => ?_⟩
  · rw [set_getT (by rw [h.lw]; exact hj)]; split
    · rename_i e; rw [e, hx]
    · exact h.vw i (by omega)
  · rw [set_getT (by rw [h.lr]; exact hj)]; split
    · rename_i e; rw [e, hy]
    · exact h.vr i (by omega)
theorem eqD {a b : List Int} (hl : a.length = b.length) (h : ∀ i, i < a.length → a.getD i 0 = b.getD i 0) : a = b := by
  refine List.ext_getElem hl fun i h1 h2 => ?_
  have := h i h1
  rwa [List.getD_eq_getElem?_getD, List.getD_eq_getElem?_getD, List.getElem?_eq_getElem h1, List.getElem?_eq_getElem h2] at this
theorem DvTo.all {total n : Int} {l ws rs : List Int} (h : DvTo total n l ws rs l.length) : ws = dvF total n l ∧ rs = dvR total n l :=
  ⟨eqD (by rw [h.lw, dvF_len]) fun i hi => by rw [dvF_get]; exact h.vw i (by rw [h.lw] at hi; exact hi), eqD (by rw [h.lr, dvR_len]) fun i hi => by rw [dvR_get]; exact h.vr i (by rw [h.lr] at hi; exact hi)⟩
/-- Bounds of what is divided. -/
structure DvIn (total n : Int) (l : List Int) : Prop where
  t0 : 0 ≤ total
  t1 : total ≤ 16384
  n0 : 1 ≤ n
  n1 : n ≤ 128
  ln : l.length ≤ 128
  l0 : 1 ≤ l.length
  all : ∀ i, 0 ≤ l.getD i 0 ∧ l.getD i 0 ≤ 128
theorem DvIn.one {total n : Int} {l : List Int} (h : DvIn total n l) (i : Nat) : 0 ≤ total * l.getD i 0 ∧ total * l.getD i 0 ≤ 2097152 ∧ 0 ≤ total * l.getD i 0 / n ∧ total * l.getD i 0 / n ≤ 2097152 ∧ 0 ≤ total * l.getD i 0 % n ∧ total * l.getD i 0 % n < n := by
  obtain ⟨a1, a2⟩ := h.all i
  have h1 : 0 ≤ total * l.getD i 0 := Int.mul_nonneg h.t0 a1
  have h2 : total * l.getD i 0 ≤ 16384 * 128 := Int.mul_le_mul h.t1 a2 a1 (by omega)
  have h3 := h.n0
  have h4 := Int.ediv_le_self n h1
  exact ⟨h1, by omega, Int.ediv_nonneg h1 (by omega), by omega, Int.emod_nonneg _ (by omega), Int.emod_lt_of_pos _ (by omega)⟩
theorem dvM_bd {total n : Int} {l : List Int} (h : DvIn total n l) (j : Nat) : total - 2097152 * (j : Int) ≤ dvM total n l j ∧ dvM total n l j ≤ total := by
  unfold dvM
  have : 0 ≤ sumN (fun i => total * l.getD i 0 / n) j ∧ sumN (fun i => total * l.getD i 0 / n) j ≤ 2097152 * (j : Int) := by
    induction j with
    | zero => simp [sumN]
    | succ j ih => have := h.one j; simp only [sumN]; omega
  omega
theorem dvGo_step (p : List Int × List Int) (k : Nat) : dvGo p (k + 1) = dvStep (dvGo p k) := rfl
/-- While weights are handed out. -/
structure DvGo (total n : Int) (l ws rs : List Int) (k : Nat) : Prop where
  eq : (ws, rs) = dvGo (dvF total n l, dvR total n l) k
theorem DvGo.lw {total n : Int} {l ws rs : List Int} {k : Nat} (h : DvGo total n l ws rs k) : ws.length = l.length := by have := congrArg (fun p => p.1.length) h.eq; simp only at this; rw [this, (dvGo_len _ _).1, dvF_len]
theorem DvGo.lr {total n : Int} {l ws rs : List Int} {k : Nat} (h : DvGo total n l ws rs k) : rs.length = l.length := by have := congrArg (fun p => p.2.length) h.eq; simp only at this; rw [this, (dvGo_len _ _).2, dvR_len]
theorem DvGo.next {total n : Int} {l ws rs : List Int} {k g : Nat} (h : DvGo total n l ws rs k) (hg : g = amax rs rs.length) {x : Int} (hx : ws.getD g 0 = x) : DvGo total n l (ws.set g (x + 1)) (rs.set g (-1)) (k + 1) := by
  refine ⟨?_⟩
  rw [dvGo_step, ← h.eq, hg] at *
  subst hx
  rfl
def DvPost (total n : Int) (l : List Int) (W : World) (e : Ending) (w' : World) : Prop := ∃ v, e = .returned v ∧ Own W.heap.size w' v (dvW total n l) ∧ Below W.heap.size W w'
/-- The numbers that are handed out stay small. -/
theorem DvGo.bd {total n : Int} {l ws rs : List Int} {k : Nat} (hi : DvIn total n l) (h : DvGo total n l ws rs k) (g : Nat) : 0 ≤ ws.getD g 0 ∧ ws.getD g 0 ≤ 2097152 + (k : Int) ∧ -1 ≤ rs.getD g 0 ∧ rs.getD g 0 ≤ 128 := by
  have gen : ∀ k, ∀ g, 0 ≤ (dvGo (dvF total n l, dvR total n l) k).1.getD g 0 ∧ (dvGo (dvF total n l, dvR total n l) k).1.getD g 0 ≤ 2097152 + (k : Int) ∧ -1 ≤ (dvGo (dvF total n l, dvR total n l) k).2.getD g 0 ∧ (dvGo (dvF total n l, dvR total n l) k).2.getD g 0 ≤ 128 := by
    intro k
    induction k with
    | zero =>
      intro g
      have := hi.one g; have := hi.n1
      simp only [dvGo]; rw [dvF_get, dvR_get]; omega
    | succ k ih =>
      intro g
      obtain ⟨p, hp⟩ : ∃ p, dvGo (dvF total n l, dvR total n l) k = p := ⟨_, rfl⟩
      simp only [dvGo]
      rw [hp] at ih ⊢
      unfold dvStep
      obtain ⟨b, hb⟩ : ∃ b, amax p.2 p.2.length = b := ⟨_, rfl⟩
      rw [hb]
      have hs : ∀ (q : List Int) (v : Int), (q.set b v).getD g 0 = q.getD g 0 ∨ (q.set b v).getD g 0 = v := by
        intro q v
        rw [List.getD_eq_getElem?_getD, List.getElem?_set]
        split
        · split
          · right; rfl
          · rename_i e1 e2; subst e1; left; rw [List.getD_eq_getElem?_getD, List.getElem?_eq_none (by omega)]
        · left; rw [List.getD_eq_getElem?_getD]
      have i1 := ih g
      have i2 := ih b
      simp only
      rcases hs p.1 (p.1.getD b 0 + 1) with e1 | e1 <;> rcases hs p.2 (-1) with e2 | e2 <;> rw [e1, e2] <;> omega
  have e := h.eq
  have := gen k g
  rw [← e] at this
  exact this
theorem sumN_bd128 {total n : Int} {l : List Int} (h : DvIn total n l) (j : Nat) : 0 ≤ sumN (fun i => l.getD i 0) j ∧ sumN (fun i => l.getD i 0) j ≤ 128 * (j : Int) := by
  induction j with
  | zero => simp [sumN]
  | succ j ih => have := h.all j; simp only [sumN]; omega

set_option maxRecDepth 100000 in
set_option maxHeartbeats 6400000 in
theorem divide_any (total n : Int) (a : Option Addr) (N c : Nat) (l : List Int) (W : World) (hs : Slc W a N c l) (hi : DvIn total n l) : Calls Try.prog 58 #[.int .i64 total, .int .i64 n, .slice a N c] W (DvPost total n l W) := by
  have HI := hid hi
  have HL := hid hs.len
  obtain ⟨N1, N2⟩ : 1 ≤ N ∧ N ≤ 128 := by have := hi.ln; have := hi.l0; have := hs.len; omega
  obtain ⟨t1, t2, n1, n2⟩ : 0 ≤ total ∧ total ≤ 16384 ∧ 1 ≤ n ∧ n ≤ 128 := ⟨hi.t0, hi.t1, hi.n0, hi.n1⟩
  obtain ⟨pb, po, hpa⟩ := row_at hs.row (by omega)
  subst hpa
  have HS := hid hs
  clear hs hi
  have nd0 : ¬ (n = 0) := by omega
  obtain ⟨B, hB⟩ : ∃ B, W.heap.size = B := ⟨_, rfl⟩
  have HI0 := hid (St.init hB)
  go_enter Try.func58, Try.ntmps58
  obtain ⟨DA, hDA⟩ : ∃ L, W.heap.size = L := ⟨_, rfl⟩
  have hBDA : B ≤ DA := by have := HI0.out.size; omega
  go_upto_region 2 with (at_make; refine make_int rfl _ _ rfl DA _ _ N rfl rfl (by rfl) (by rfl) (by omega) (by omega) ?_; intro w1 ho hb; rw [hDA] at ho ⊢; have H2 := hid (HI0.out.made hDA ho hb); clear ho hb hDA hBDA)
  obtain ⟨DB, hDB⟩ : ∃ L, w1.heap.size = L := ⟨_, rfl⟩
  have hBDB : B ≤ DB := by have := H2.out.size; omega
  go_upto_region 3 with (at_make; refine make_int rfl _ _ rfl DB _ _ N rfl rfl (by rfl) (by rfl) (by omega) (by omega) ?_; intro w3 ho hb; rw [hDB] at ho ⊢; have H4 := hid (H2.out.made hDB ho hb); clear ho hb hDB hBDB)
  go_wp2_with fail
  go_loopw [24, 9] (fun i x wr => ∃ (j : Nat) (ws rs : List Int) (mi : Int), j ≤ N ∧ DvTo total n l ws rs j ∧ mi = dvM total n l j ∧ i = .int .i64 j ∧ x = .int .i64 mi ∧ St B W [.own (.slice (some ⟨DA, 0, none⟩) N N) ws, .own (.slice (some ⟨DB, 0, none⟩) N N) rs] [] wr) (fun i _ _ => N - (intOf i).toNat)
  case atStart => exact ⟨0, _, _, _, by omega, DvTo.zero HL.out.symm, by unfold dvM; simp [sumN], rfl, rfl, H4.out.pick [1, 0] rfl (by decide)⟩
  case round =>
    obtain ⟨j, ws, rs, mi, hj, hto, hmi, rfl, rfl, hst⟩ := hrel
    obtain ⟨u5, rfl⟩ : ∃ u5 : World, u5 = wr := ⟨_, rfl⟩
    have H6 := hid hst
    clear hst
    have hmb : -268435456 ≤ mi ∧ mi ≤ 16384 := by have := dvM_bd HI.out j; omega
    obtain ⟨mb1, mb2⟩ := hmb
    have HTO := hid hto
    have HMI := hid hmi
    clear hto hmi
    by_cases hjn : j < N
    · skip
      have hjn' : (j : Int) < N := by omega
      obtain ⟨z, hz⟩ : ∃ z, l.getD j 0 = z := ⟨_, rfl⟩
      obtain ⟨x1, x2, x3, x4, x5, x6⟩ := HI.out.one j
      obtain ⟨zb1, zb2⟩ := HI.out.all j
      rw [hz] at x1 x2 x3 x4 x5 x6 zb1 zb2
      obtain ⟨X, hX⟩ : ∃ X, total * z = X := ⟨_, rfl⟩
      rw [hX] at x1 x2 x3 x4 x5 x6
      obtain ⟨q, hq⟩ : ∃ q, X / n = q := ⟨_, rfl⟩
      obtain ⟨r, hr⟩ : ∃ q, X % n = q := ⟨_, rfl⟩
      rw [hq] at x3 x4
      rw [hr] at x5 x6
      have tq : Int.tdiv X n = q := by rw [Int.tdiv_eq_ediv_of_nonneg (by omega)]; exact hq
      have tr : Int.tmod X n = r := by rw [Int.tmod_eq_emod_of_nonneg (by omega)]; exact hr
      have wX : IntKind.i64.wrap X = X := IntWalk.i64_in _ (by omega)
      have wq : IntKind.i64.wrap q = q := IntWalk.i64_in _ (by omega)
      have wr : IntKind.i64.wrap r = r := IntWalk.i64_in _ (by omega)
      have HQ := hid (show total * l.getD j 0 / n = q from by rw [hz, hX, hq])
      have HR := hid (show total * l.getD j 0 % n = r from by rw [hz, hX, hr])
      have HZ := hid hz
      clear hz
      have cz := row_cell (H6.out.old HS.out).row (j := j) hjn
      rw [HZ.out] at cz
      go_upto_region 7 with fail
      obtain ⟨s1, s2⟩ := H6.out.get 0 rfl (j := j) (by rw [HTO.out.lw, HL.out]; exact hjn)
      go_upto_region 8 with fail
      have H7 := hid (show St B W [.own (.slice (some ⟨DA, 0, none⟩) N N) (ws.set j q), .own (.slice (some ⟨DB, 0, none⟩) N N) rs] [] (u5.setCell ⟨DA, j, none⟩ (.int .i64 q)) from (H6.out.store 0 rfl j q))
      first | refine gen_code H7.out ?_ | refine gen_list H7.out ?_ | refine gen_calls H7.out ?_
      intro w8 hG
      clear H7
      have H7 := hid hG
      clear hG
      clear s1 s2
      obtain ⟨s1, s2⟩ := H7.out.get 1 rfl (j := j) (by rw [HTO.out.lr, HL.out]; exact hjn)
      have cz := row_cell (H7.out.old HS.out).row (j := j) hjn
      rw [HZ.out] at cz
      go_upto_region 9 with fail
      have H9 := hid (show St B W [.own (.slice (some ⟨DA, 0, none⟩) N N) (ws.set j q), .own (.slice (some ⟨DB, 0, none⟩) N N) (rs.set j r)] [] (w8.setCell ⟨DB, j, none⟩ (.int .i64 r)) from (H7.out.store 1 rfl j r))
      first | refine gen_code H9.out ?_ | refine gen_list H9.out ?_ | refine gen_calls H9.out ?_
      intro w10 hG
      clear H9
      have H9 := hid hG
      clear hG
      clear s1 s2
      have s3 := (H9.out.get 0 rfl (j := j) (by rw [List.length_set, HTO.out.lw, HL.out]; exact hjn)).1
      rw [set_getT (by rw [HTO.out.lw, HL.out]; exact hjn), if_pos rfl] at s3
      go_wp2_with fail
      go_roundw
      case rel => exact ⟨j + 1, _, _, _, by omega, HTO.out.next (by rw [HL.out]; exact hjn) HQ.out HR.out, by unfold dvM; simp only [sumN]; rw [HQ.out]; have := HMI.out; unfold dvM at this; omega, by go_num, rfl, H9.out.pick [0, 1] rfl (by decide)⟩
      case measure => first | (simp [intOf]; omega) | (simp [intOf]; done)
    · skip
      have hjn' : ¬ ((j : Int) < N) := by omega
      have HJN := hid (show j = l.length from by rw [HL.out]; omega)
      go_wp2_with fail
      have HA := hid (show DvGo total n l ws rs 0 from ⟨by rw [HJN.out] at HTO; rw [HTO.out.all.1, HTO.out.all.2]; rfl⟩)
      obtain ⟨M0, hM0⟩ : ∃ M0, dvM total n l l.length = M0 := ⟨_, rfl⟩
      have HM0 := hid hM0
      have HMJ := hid (show mi = M0 from by rw [← hM0, ← HJN.out]; exact HMI.out)
      obtain ⟨mq1, mq2⟩ : -268435456 ≤ M0 ∧ M0 ≤ 16384 := by have := HMJ.out; omega
      clear hM0
      go_loopw [9] (fun x wr => ∃ (k : Nat) (ws rs : List Int) (mi : Int), DvGo total n l ws rs k ∧ mi = M0 - (k : Int) ∧ (0 < k → 0 ≤ mi) ∧ x = .int .i64 mi ∧ St B W [.own (.slice (some ⟨DA, 0, none⟩) N N) ws, .own (.slice (some ⟨DB, 0, none⟩) N N) rs] [] wr) (fun x _ => (intOf x).toNat)
      case atStart => exact ⟨0, _, _, _, HA.out, by have := HMJ.out; omega, fun h => by omega, rfl, H6.out.pick [0, 1] rfl (by decide)⟩
      case round =>
        obtain ⟨k, ws, rs, mi, hgo, hmi, hkm, rfl, hst⟩ := hrel
        obtain ⟨u11, rfl⟩ : ∃ u11 : World, u11 = wr := ⟨_, rfl⟩
        have H12 := hid hst
        clear hst
        have HGO := hid hgo
        have HMI := hid hmi
        have HKM := hid hkm
        obtain ⟨mi1, mi2, k1⟩ : -268435456 ≤ mi ∧ mi ≤ 16384 ∧ (k : Int) ≤ 16384 := by by_cases q : 0 < k; have := hkm q; omega; omega
        have HWL := hid (hgo.lw.trans HL.out)
        have HRL := hid (hgo.lr.trans HL.out)
        clear hgo hmi hkm
        by_cases hm0 : 0 < mi
        · skip
          go_wp2_with fail
          go_loopw [58, 12] (fun i y wr => ∃ q g : Nat, q ≤ N ∧ g = amax rs q ∧ g < N ∧ i = .int .i64 q ∧ y = .int .i64 g ∧ St B W [.own (.slice (some ⟨DA, 0, none⟩) N N) ws, .own (.slice (some ⟨DB, 0, none⟩) N N) rs] [] wr) (fun i _ _ => N - (intOf i).toNat)
          case atStart => exact ⟨0, 0, by omega, by first | rfl | exact (amax_one rs).symm, by omega, rfl, rfl, H12.out.pick [0, 1] rfl (by decide)⟩
          case round =>
            obtain ⟨q, g, hq, hg, hgn, rfl, rfl, hst⟩ := hrel
            obtain ⟨u13, rfl⟩ : ∃ u13 : World, u13 = wr := ⟨_, rfl⟩
            have H14 := hid hst
            clear hst
            have HG := hid hg
            clear hg
            by_cases hqn : q < N
            · skip
              have hqn' : (q : Int) < N := by omega
              obtain ⟨u, hu⟩ : ∃ u, rs.getD q 0 = u := ⟨_, rfl⟩
              obtain ⟨v, hv⟩ : ∃ u, rs.getD g 0 = u := ⟨_, rfl⟩
              obtain ⟨-, -, ub1, ub2⟩ := HGO.out.bd HI.out q
              obtain ⟨-, -, vb1, vb2⟩ := HGO.out.bd HI.out g
              rw [hu] at ub1 ub2
              rw [hv] at vb1 vb2
              have HUV := hid (And.intro hu hv)
              have s3 := (H14.out.get 1 rfl (j := q) (by rw [HRL.out]; exact hqn)).1
              have s4 := (H14.out.get 1 rfl (j := g) (by rw [HRL.out]; exact hgn)).1
              rw [hu] at s3
              rw [hv] at s4
              clear hu hv
              by_cases hvu : v < u
              · skip
                have HBN := hid (show q = amax rs (q + 1) from by simp only [amax]; rw [← HG.out, HUV.out.1, HUV.out.2, if_pos hvu])
                go_wp2_with fail
                go_roundw
                case rel => exact ⟨q + 1, _, by omega, HBN.out, by omega, by go_num, by first | rfl | go_num, H14.out⟩
                case measure => first | (simp [intOf]; omega) | (simp [intOf]; done)
              · skip
                have HBN := hid (show g = amax rs (q + 1) from by simp only [amax]; rw [← HG.out, HUV.out.1, HUV.out.2, if_neg hvu])
                go_wp2_with fail
                go_roundw
                case rel => exact ⟨q + 1, _, by omega, HBN.out, by omega, by go_num, by first | rfl | go_num, H14.out⟩
                case measure => first | (simp [intOf]; omega) | (simp [intOf]; done)
            · skip
              have hqn' : ¬ ((q : Int) < N) := by omega
              have HGM := hid (show g = amax rs rs.length from by rw [HRL.out, HG.out, show q = N by omega])
              go_upto_region 20 with fail
              obtain ⟨u, hu⟩ : ∃ u, ws.getD g 0 = u := ⟨_, rfl⟩
              obtain ⟨ub1, ub2, -, -⟩ := HGO.out.bd HI.out g
              rw [hu] at ub1 ub2
              obtain ⟨s3, s4⟩ := H14.out.get 0 rfl (j := g) (by rw [HWL.out]; exact hgn)
              rw [hu] at s3
              have HU := hid hu
              clear hu
              go_upto_region 21 with fail
              have H15 := hid (show St B W [.own (.slice (some ⟨DA, 0, none⟩) N N) (ws.set g (u + 1)), .own (.slice (some ⟨DB, 0, none⟩) N N) rs] [] (u13.setCell ⟨DA, g, none⟩ (.int .i64 (u + 1))) from (H14.out.store 0 rfl g (u + 1)))
              first | refine gen_code H15.out ?_ | refine gen_list H15.out ?_ | refine gen_calls H15.out ?_
              intro w16 hG
              clear H15
              have H15 := hid hG
              clear hG
              clear s3 s4
              obtain ⟨s3, s4⟩ := H15.out.get 1 rfl (j := g) (by rw [HRL.out]; exact hgn)
              go_upto_region 12 with fail
              have H17 := hid (show St B W [.own (.slice (some ⟨DA, 0, none⟩) N N) (ws.set g (u + 1)), .own (.slice (some ⟨DB, 0, none⟩) N N) (rs.set g (-1))] [] (w16.setCell ⟨DB, g, none⟩ (.int .i64 (-1))) from (H15.out.store 1 rfl g (-1)))
              first | refine gen_code H17.out ?_ | refine gen_list H17.out ?_ | refine gen_calls H17.out ?_
              intro w18 hG
              clear H17
              have H17 := hid hG
              clear hG
              go_wp2_with fail
              go_roundw
              case rel => exact ⟨k + 1, _, _, _, HGO.out.next HGM.out HU.out, by have := HMI.out; omega, fun _ => by omega, rfl, H17.out.pick [0, 1] rfl (by decide)⟩
              case measure => first | (simp [intOf]; omega) | (simp [intOf]; done)
        · skip
          have HKK := hid (show k = M0.toNat from by have h1 := HMI.out; by_cases q : 0 < k; have := HKM.out q; omega; omega)
          go_wp2_with fail
          go_ret
          exact ⟨_, rfl, by rw [hB, show dvW total n l = ws from by unfold dvW; rw [HM0.out, ← HKK.out, ← HGO.out.eq]]; exact H12.out.own 0 rfl, by first | exact H12.out.below | exact H12.out.below'⟩

set_option maxRecDepth 100000 in
set_option maxHeartbeats 6400000 in
theorem rdivide_any (total n : Int) (a : Option Addr) (N c : Nat) (l : List Int) (W : World) (hs : Slc W a N c l) (hi : DvIn total n l) (hsum : sumN (fun i => l.getD i 0) l.length = n) : Calls Try.prog 60 #[.int .i64 total, .slice a N c] W (DvPost total n l W) := by
  have HI := hid hi
  have HL := hid hs.len
  obtain ⟨N1, N2⟩ : 1 ≤ N ∧ N ≤ 128 := by have := hi.ln; have := hi.l0; have := hs.len; omega
  obtain ⟨t1, t2, n1, n2⟩ : 0 ≤ total ∧ total ≤ 16384 ∧ 1 ≤ n ∧ n ≤ 128 := ⟨hi.t0, hi.t1, hi.n0, hi.n1⟩
  obtain ⟨pb, po, hpa⟩ := row_at hs.row (by omega)
  subst hpa
  have HS := hid hs
  have HSU := hid hsum
  clear hsum
  clear hs hi
  have nd0 : ¬ (n = 0) := by omega
  obtain ⟨B, hB⟩ : ∃ B, W.heap.size = B := ⟨_, rfl⟩
  have HI0 := hid (St.init hB)
  go_enter Try.func60, Try.ntmps60
  go_wp2_with fail
  go_loopw [6, 5] (fun i x wr => ∃ (j : Nat) (su : Int), j ≤ N ∧ su = sumN (fun i => l.getD i 0) j ∧ i = .int .i64 j ∧ x = .int .i64 su ∧ St B W [] [] wr) (fun i _ _ => N - (intOf i).toNat)
  case atStart => exact ⟨0, _, by omega, rfl, rfl, rfl, HI0.out⟩
  case round =>
    obtain ⟨j, su, hj, hsu, rfl, rfl, hst⟩ := hrel
    obtain ⟨u19, rfl⟩ : ∃ u19 : World, u19 = wr := ⟨_, rfl⟩
    have H20 := hid hst
    clear hst
    have HSJ := hid hsu
    have hsb : 0 ≤ su ∧ su ≤ 128 * (j : Int) := by rw [hsu]; exact sumN_bd128 HI.out j
    obtain ⟨sb1, sb2⟩ := hsb
    clear hsu
    by_cases hjn : j < N
    · skip
      have hjn' : (j : Int) < N := by omega
      obtain ⟨z, hz⟩ : ∃ z, l.getD j 0 = z := ⟨_, rfl⟩
      obtain ⟨zb1, zb2⟩ := HI.out.all j
      rw [hz] at zb1 zb2
      have HZ := hid hz
      clear hz
      have cz := row_cell (H20.out.old HS.out).row (j := j) hjn
      rw [HZ.out] at cz
      go_wp2_with fail
      go_roundw
      case rel => exact ⟨j + 1, _, by omega, by simp only [sumN]; rw [← HSJ.out, HZ.out], by go_num, rfl, H20.out⟩
      case measure => first | (simp [intOf]; omega) | (simp [intOf]; done)
    · skip
      have hjn' : ¬ ((j : Int) < N) := by omega
      obtain rfl : n = su := by rw [HSJ.out, ← HSU.out, HL.out, show j = N by omega]
      go_upto_region 6 with fail
      have H21 := hid H20.out.drew
      refine wp_region_held_drew (S := (fun _ => True)) (by kernel_rfl) trivial (fun hHeld => ?_)
      generalize u19.drew = k22 at *
      refine wpAnyH_take (i := 0) (oi := _) (v := ?_) rfl (by kernel_rfl) (by kernel_rfl) (by kernel_rfl) (fun _ _ _ h => h) (Or.inl ⟨by rfl, ?_⟩) (by assumption) ?_
      rotate_left
      focus (intro wS hSw; (try dsimp only at hSw); go_simp; (try with_reducible rfl))
      try simp only [Act.put, List.getElem_toArray, List.getElem_cons_zero, List.getElem_cons_succ, List.setIfInBounds_toArray, List.set_cons_zero, List.set_cons_succ]
      refine wpAnyH_take (i := 1) (oi := _) (v := ?_) rfl (by kernel_rfl) (by kernel_rfl) (by kernel_rfl) (fun _ _ _ h => h) (Or.inl ⟨by rfl, ?_⟩) (by assumption) ?_
      rotate_left
      focus (intro wS hSw; (try dsimp only at hSw); go_simp; (try with_reducible rfl))
      try simp only [Act.put, List.getElem_toArray, List.getElem_cons_zero, List.getElem_cons_succ, List.setIfInBounds_toArray, List.set_cons_zero, List.set_cons_succ]
      refine wpAnyH_take (i := 3) (oi := _) (v := ?_) rfl (by kernel_rfl) (by kernel_rfl) (by kernel_rfl) (fun _ _ _ h => h) (Or.inl ⟨by rfl, ?_⟩) (by assumption) ?_
      rotate_left
      focus (intro wS hSw; (try dsimp only at hSw); go_simp; (try with_reducible rfl))
      try simp only [Act.put, List.getElem_toArray, List.getElem_cons_zero, List.getElem_cons_succ, List.setIfInBounds_toArray, List.set_cons_zero, List.set_cons_succ]
      refine wpAnyH_take (i := 4) (oi := _) (v := ?_) rfl (by kernel_rfl) (by kernel_rfl) (by kernel_rfl) (fun _ _ _ h => h) (Or.inl ⟨by rfl, ?_⟩) (by assumption) ?_
      rotate_left
      focus (intro wS hSw; (try dsimp only at hSw); go_simp; (try with_reducible rfl))
      try simp only [Act.put, List.getElem_toArray, List.getElem_cons_zero, List.getElem_cons_succ, List.setIfInBounds_toArray, List.set_cons_zero, List.set_cons_succ]
      refine wpAnyH_ready (rs := [2, 5]) (by kernel_rfl) (by simp) (AllReadyH.cons (o := _) rfl (fun K hK => ?_) (AllReadyH.cons (o := _) rfl (fun K hK => ?_) AllReadyH.nil))
      · skip
        obtain ⟨DA, hDA⟩ : ∃ L, k22.heap.size = L := ⟨_, rfl⟩
        have hBDA : B ≤ DA := by have := H21.out.size; omega
        rw [if_pos (by rfl)]
        refine oper_make_int _ _ rfl DA _ _ N rfl rfl (by rfl) (by rfl) (by omega) (by omega) ?_
        intro k23 ho hb
        rw [hDA] at ho ⊢
        have H24 := hid (H21.out.made hDA ho hb)
        clear ho hb hDA hBDA
        refine hK.out _ _ ?_ (fun hHeld2 => ?_)
        focus ((try dsimp only); (try exact trivial))
        clear hK K
        try simp only [Act.put, List.getElem_toArray, List.getElem_cons_zero, List.getElem_cons_succ, List.setIfInBounds_toArray, List.set_cons_zero, List.set_cons_succ]
        clear hHeld
        have hHeld := hHeld2
        clear hHeld2
        refine wpAnyH_take (i := 6) (oi := _) (v := ?_) rfl (by kernel_rfl) (by kernel_rfl) (by kernel_rfl) (fun _ _ _ h => h) (Or.inl ⟨by rfl, ?_⟩) (by assumption) ?_
        rotate_left
        focus (intro wS hSw; (try dsimp only at hSw); go_simp; (try with_reducible rfl))
        try simp only [Act.put, List.getElem_toArray, List.getElem_cons_zero, List.getElem_cons_succ, List.setIfInBounds_toArray, List.set_cons_zero, List.set_cons_succ]
        refine wpAnyH_ready (rs := [5]) (by kernel_rfl) (by simp) (AllReadyH.cons (o := _) rfl (fun K hK => ?_) AllReadyH.nil)
        skip
        obtain ⟨DB, hDB⟩ : ∃ L, k23.heap.size = L := ⟨_, rfl⟩
        have hBDB : B ≤ DB := by have := H24.out.size; omega
        rw [if_pos (by rfl)]
        refine oper_make_int _ _ rfl DB _ _ N rfl rfl (by rfl) (by rfl) (by omega) (by omega) ?_
        intro k25 ho hb
        rw [hDB] at ho ⊢
        have H26 := hid (H24.out.made hDB ho hb)
        clear ho hb hDB hBDB
        refine hK.out _ _ ?_ (fun hHeld2 => ?_)
        focus ((try dsimp only); (try exact trivial))
        clear hK K
        try simp only [Act.put, List.getElem_toArray, List.getElem_cons_zero, List.getElem_cons_succ, List.setIfInBounds_toArray, List.set_cons_zero, List.set_cons_succ]
        clear hHeld
        have hHeld := hHeld2
        clear hHeld2
        refine wpAnyH_take (i := 7) (oi := _) (v := ?_) rfl (by kernel_rfl) (by kernel_rfl) (by kernel_rfl) (fun _ _ _ h => h) (Or.inl ⟨by rfl, ?_⟩) (by assumption) ?_
        rotate_left
        focus (intro wS hSw; (try dsimp only at hSw); go_simp; (try with_reducible rfl))
        try simp only [Act.put, List.getElem_toArray, List.getElem_cons_zero, List.getElem_cons_succ, List.setIfInBounds_toArray, List.set_cons_zero, List.set_cons_succ]
        refine wpAnyH_done (by kernel_rfl) ?_ _
        try clear hHeld
        go_wp2_with fail
        go_loopw [10, 9] (fun i x wr => ∃ (j : Nat) (ws rs : List Int) (mi : Int), j ≤ N ∧ DvTo total n l ws rs j ∧ mi = dvM total n l j ∧ i = .int .i64 j ∧ x = .int .i64 mi ∧ St B W [.own (.slice (some ⟨DA, 0, none⟩) N N) ws, .own (.slice (some ⟨DB, 0, none⟩) N N) rs] [] wr) (fun i _ _ => N - (intOf i).toNat)
        case atStart => exact ⟨0, _, _, _, by omega, DvTo.zero HL.out.symm, by unfold dvM; simp [sumN], rfl, rfl, H26.out.pick [1, 0] rfl (by decide)⟩
        case round =>
          obtain ⟨j, ws, rs, mi, hj, hto, hmi, rfl, rfl, hst⟩ := hrel
          obtain ⟨u27, rfl⟩ : ∃ u27 : World, u27 = wr := ⟨_, rfl⟩
          have H28 := hid hst
          clear hst
          have hmb : -268435456 ≤ mi ∧ mi ≤ 16384 := by have := dvM_bd HI.out j; omega
          obtain ⟨mb1, mb2⟩ := hmb
          have HTO := hid hto
          have HMI := hid hmi
          clear hto hmi
          by_cases hjn : j < N
          · skip
            have hjn' : (j : Int) < N := by omega
            obtain ⟨z, hz⟩ : ∃ z, l.getD j 0 = z := ⟨_, rfl⟩
            obtain ⟨x1, x2, x3, x4, x5, x6⟩ := HI.out.one j
            obtain ⟨zb1, zb2⟩ := HI.out.all j
            rw [hz] at x1 x2 x3 x4 x5 x6 zb1 zb2
            obtain ⟨X, hX⟩ : ∃ X, total * z = X := ⟨_, rfl⟩
            rw [hX] at x1 x2 x3 x4 x5 x6
            obtain ⟨q, hq⟩ : ∃ q, X / n = q := ⟨_, rfl⟩
            obtain ⟨r, hr⟩ : ∃ q, X % n = q := ⟨_, rfl⟩
            rw [hq] at x3 x4
            rw [hr] at x5 x6
            have tq : Int.tdiv X n = q := by rw [Int.tdiv_eq_ediv_of_nonneg (by omega)]; exact hq
            have tr : Int.tmod X n = r := by rw [Int.tmod_eq_emod_of_nonneg (by omega)]; exact hr
            have wX : IntKind.i64.wrap X = X := IntWalk.i64_in _ (by omega)
            have wq : IntKind.i64.wrap q = q := IntWalk.i64_in _ (by omega)
            have wr : IntKind.i64.wrap r = r := IntWalk.i64_in _ (by omega)
            have HQ := hid (show total * l.getD j 0 / n = q from by rw [hz, hX, hq])
            have HR := hid (show total * l.getD j 0 % n = r from by rw [hz, hX, hr])
            have HZ := hid hz
            clear hz
            have cz := row_cell (H28.out.old HS.out).row (j := j) hjn
            rw [HZ.out] at cz
            go_upto_region 11 with fail
            have H29 := hid H28.out.drew
            refine wp_region_held_drew (S := (fun w' => w'.cell? ⟨pb, po + j, none⟩ = some (.int .i64 z))) (by kernel_rfl) (by have := row_cell (H29.out.old HS.out).row (j := j) hjn; rw [HZ.out] at this; exact this) (fun hHeld => ?_)
            generalize u27.drew = k30 at *
            refine wpAnyH_take (i := 0) (oi := _) (v := ?_) rfl (by kernel_rfl) (by kernel_rfl) (by kernel_rfl) (fun _ _ _ h => h) (Or.inl ⟨by rfl, ?_⟩) (by assumption) ?_
            rotate_left
            focus (intro wS hSw; (try dsimp only at hSw); go_simp; (try with_reducible rfl))
            try simp only [Act.put, List.getElem_toArray, List.getElem_cons_zero, List.getElem_cons_succ, List.setIfInBounds_toArray, List.set_cons_zero, List.set_cons_succ]
            refine wpAnyH_take (i := 1) (oi := _) (v := ?_) rfl (by kernel_rfl) (by kernel_rfl) (by kernel_rfl) (fun _ _ _ h => h) (Or.inl ⟨by rfl, ?_⟩) (by assumption) ?_
            rotate_left
            focus (intro wS hSw; (try dsimp only at hSw); go_simp; (try with_reducible rfl))
            try simp only [Act.put, List.getElem_toArray, List.getElem_cons_zero, List.getElem_cons_succ, List.setIfInBounds_toArray, List.set_cons_zero, List.set_cons_succ]
            refine wpAnyH_take (i := 2) (oi := _) (v := ?_) rfl (by kernel_rfl) (by kernel_rfl) (by kernel_rfl) (fun _ _ _ h => h) (Or.inl ⟨by rfl, ?_⟩) (by assumption) ?_
            rotate_left
            focus (intro wS hSw; (try dsimp only at hSw); go_simp; (try with_reducible rfl))
            try simp only [Act.put, List.getElem_toArray, List.getElem_cons_zero, List.getElem_cons_succ, List.setIfInBounds_toArray, List.set_cons_zero, List.set_cons_succ]
            refine wpAnyH_take (i := 3) (oi := _) (v := ?_) rfl (by kernel_rfl) (by kernel_rfl) (by kernel_rfl) (fun _ _ _ h => h) (Or.inl ⟨by rfl, ?_⟩) (by assumption) ?_
            rotate_left
            focus (intro wS hSw; (try dsimp only at hSw); go_simp; (try with_reducible rfl))
            try simp only [Act.put, List.getElem_toArray, List.getElem_cons_zero, List.getElem_cons_succ, List.setIfInBounds_toArray, List.set_cons_zero, List.set_cons_succ]
            refine wpAnyH_take (i := 4) (oi := _) (v := ?_) rfl (by kernel_rfl) (by kernel_rfl) (by kernel_rfl) (fun _ _ _ h => h) (Or.inl ⟨by rfl, ?_⟩) (by assumption) ?_
            rotate_left
            focus (intro wS hSw; (try dsimp only at hSw); go_simp; (try with_reducible rfl))
            try simp only [Act.put, List.getElem_toArray, List.getElem_cons_zero, List.getElem_cons_succ, List.setIfInBounds_toArray, List.set_cons_zero, List.set_cons_succ]
            refine wpAnyH_take (i := 5) (oi := _) (v := ?_) rfl (by kernel_rfl) (by kernel_rfl) (by kernel_rfl) (fun _ _ _ h => h) (Or.inl ⟨by rfl, ?_⟩) (by assumption) ?_
            rotate_left
            focus (intro wS hSw; (try dsimp only at hSw); go_simp; (try with_reducible rfl))
            try simp only [Act.put, List.getElem_toArray, List.getElem_cons_zero, List.getElem_cons_succ, List.setIfInBounds_toArray, List.set_cons_zero, List.set_cons_succ]
            refine wpAnyH_take (i := 6) (oi := _) (v := ?_) rfl (by kernel_rfl) (by kernel_rfl) (by kernel_rfl) (fun _ _ _ h => h) (Or.inl ⟨by rfl, ?_⟩) (by assumption) ?_
            rotate_left
            focus (intro wS hSw; (try dsimp only at hSw); go_simp; (try with_reducible rfl))
            try simp only [Act.put, List.getElem_toArray, List.getElem_cons_zero, List.getElem_cons_succ, List.setIfInBounds_toArray, List.set_cons_zero, List.set_cons_succ]
            refine wpAnyH_take (i := 7) (oi := _) (v := ?_) rfl (by kernel_rfl) (by kernel_rfl) (by kernel_rfl) (fun _ _ _ h => h) (Or.inl ⟨by rfl, ?_⟩) (by assumption) ?_
            rotate_left
            focus (intro wS hSw; (try dsimp only at hSw); go_simp; (try with_reducible rfl))
            try simp only [Act.put, List.getElem_toArray, List.getElem_cons_zero, List.getElem_cons_succ, List.setIfInBounds_toArray, List.set_cons_zero, List.set_cons_succ]
            refine wpAnyH_take (i := 8) (oi := _) (v := ?_) rfl (by kernel_rfl) (by kernel_rfl) (by kernel_rfl) (fun _ _ _ h => h) (Or.inl ⟨by rfl, ?_⟩) (by assumption) ?_
            rotate_left
            focus (intro wS hSw; (try dsimp only at hSw); go_simp; (try with_reducible rfl))
            try simp only [Act.put, List.getElem_toArray, List.getElem_cons_zero, List.getElem_cons_succ, List.setIfInBounds_toArray, List.set_cons_zero, List.set_cons_succ]
            refine wpAnyH_take (i := 9) (oi := _) (v := ?_) rfl (by kernel_rfl) (by kernel_rfl) (by kernel_rfl) (fun _ _ _ h => h) (Or.inl ⟨by rfl, ?_⟩) (by assumption) ?_
            rotate_left
            focus (intro wS hSw; (try dsimp only at hSw); go_simp; (try with_reducible rfl))
            try simp only [Act.put, List.getElem_toArray, List.getElem_cons_zero, List.getElem_cons_succ, List.setIfInBounds_toArray, List.set_cons_zero, List.set_cons_succ]
            refine wpAnyH_take (i := 10) (oi := _) (v := ?_) rfl (by kernel_rfl) (by kernel_rfl) (by kernel_rfl) (fun _ _ _ h => h) (Or.inl ⟨by rfl, ?_⟩) (by assumption) ?_
            rotate_left
            focus (intro wS hSw; (try dsimp only at hSw); go_simp; (try with_reducible rfl))
            try simp only [Act.put, List.getElem_toArray, List.getElem_cons_zero, List.getElem_cons_succ, List.setIfInBounds_toArray, List.set_cons_zero, List.set_cons_succ]
            refine wpAnyH_take (i := 11) (oi := _) (v := ?_) rfl (by kernel_rfl) (by kernel_rfl) (by kernel_rfl) (fun _ _ _ h => h) (Or.inl ⟨by rfl, ?_⟩) (by assumption) ?_
            rotate_left
            focus (intro wS hSw; (try dsimp only at hSw); go_simp; (try with_reducible rfl))
            try simp only [Act.put, List.getElem_toArray, List.getElem_cons_zero, List.getElem_cons_succ, List.setIfInBounds_toArray, List.set_cons_zero, List.set_cons_succ]
            refine wpAnyH_take (i := 12) (oi := _) (v := ?_) rfl (by kernel_rfl) (by kernel_rfl) (by kernel_rfl) (fun _ _ _ h => h) (Or.inl ⟨by rfl, ?_⟩) (by assumption) ?_
            rotate_left
            focus (intro wS hSw; (try dsimp only at hSw); go_simp; (try with_reducible rfl))
            try simp only [Act.put, List.getElem_toArray, List.getElem_cons_zero, List.getElem_cons_succ, List.setIfInBounds_toArray, List.set_cons_zero, List.set_cons_succ]
            refine wpAnyH_take (i := 13) (oi := _) (v := ?_) rfl (by kernel_rfl) (by kernel_rfl) (by kernel_rfl) (fun _ _ _ h => h) (Or.inl ⟨by rfl, ?_⟩) (by assumption) ?_
            rotate_left
            focus (intro wS hSw; (try dsimp only at hSw); go_simp; (try with_reducible rfl))
            try simp only [Act.put, List.getElem_toArray, List.getElem_cons_zero, List.getElem_cons_succ, List.setIfInBounds_toArray, List.set_cons_zero, List.set_cons_succ]
            refine wpAnyH_take (i := 14) (oi := _) (v := ?_) rfl (by kernel_rfl) (by kernel_rfl) (by kernel_rfl) (fun _ _ _ h => h) (Or.inl ⟨by rfl, ?_⟩) (by assumption) ?_
            rotate_left
            focus (intro wS hSw; (try dsimp only at hSw); go_simp; (try with_reducible rfl))
            try simp only [Act.put, List.getElem_toArray, List.getElem_cons_zero, List.getElem_cons_succ, List.setIfInBounds_toArray, List.set_cons_zero, List.set_cons_succ]
            refine wpAnyH_take (i := 15) (oi := _) (v := ?_) rfl (by kernel_rfl) (by kernel_rfl) (by kernel_rfl) (fun _ _ _ h => h) (Or.inl ⟨by rfl, ?_⟩) (by assumption) ?_
            rotate_left
            focus (intro wS hSw; (try dsimp only at hSw); go_simp; (try with_reducible rfl))
            try simp only [Act.put, List.getElem_toArray, List.getElem_cons_zero, List.getElem_cons_succ, List.setIfInBounds_toArray, List.set_cons_zero, List.set_cons_succ]
            refine wpAnyH_take (i := 16) (oi := _) (v := ?_) rfl (by kernel_rfl) (by kernel_rfl) (by kernel_rfl) (fun _ _ _ h => h) (Or.inl ⟨by rfl, ?_⟩) (by assumption) ?_
            rotate_left
            focus (intro wS hSw; (try dsimp only at hSw); go_simp; (try with_reducible rfl))
            try simp only [Act.put, List.getElem_toArray, List.getElem_cons_zero, List.getElem_cons_succ, List.setIfInBounds_toArray, List.set_cons_zero, List.set_cons_succ]
            refine wpAnyH_take (i := 17) (oi := _) (v := ?_) rfl (by kernel_rfl) (by kernel_rfl) (by kernel_rfl) (fun _ _ _ h => h) (Or.inl ⟨by rfl, ?_⟩) (by assumption) ?_
            rotate_left
            focus (intro wS hSw; (try dsimp only at hSw); go_simp; (try with_reducible rfl))
            try simp only [Act.put, List.getElem_toArray, List.getElem_cons_zero, List.getElem_cons_succ, List.setIfInBounds_toArray, List.set_cons_zero, List.set_cons_succ]
            refine wpAnyH_take (i := 18) (oi := _) (v := ?_) rfl (by kernel_rfl) (by kernel_rfl) (by kernel_rfl) (fun _ _ _ h => h) (Or.inl ⟨by rfl, ?_⟩) (by assumption) ?_
            rotate_left
            focus (intro wS hSw; (try dsimp only at hSw); go_simp; (try with_reducible rfl))
            try simp only [Act.put, List.getElem_toArray, List.getElem_cons_zero, List.getElem_cons_succ, List.setIfInBounds_toArray, List.set_cons_zero, List.set_cons_succ]
            refine wpAnyH_take (i := 19) (oi := _) (v := ?_) rfl (by kernel_rfl) (by kernel_rfl) (by kernel_rfl) (fun _ _ _ h => h) (Or.inl ⟨by rfl, ?_⟩) (by assumption) ?_
            rotate_left
            focus (intro wS hSw; (try dsimp only at hSw); go_simp; (try with_reducible rfl))
            try simp only [Act.put, List.getElem_toArray, List.getElem_cons_zero, List.getElem_cons_succ, List.setIfInBounds_toArray, List.set_cons_zero, List.set_cons_succ]
            refine wpAnyH_take (i := 20) (oi := _) (v := ?_) rfl (by kernel_rfl) (by kernel_rfl) (by kernel_rfl) (fun _ _ _ h => h) (Or.inl ⟨by rfl, ?_⟩) (by assumption) ?_
            rotate_left
            focus (intro wS hSw; (try dsimp only at hSw); go_simp; (try with_reducible rfl))
            try simp only [Act.put, List.getElem_toArray, List.getElem_cons_zero, List.getElem_cons_succ, List.setIfInBounds_toArray, List.set_cons_zero, List.set_cons_succ]
            refine wpAnyH_ready (rs := [21]) (by kernel_rfl) (by simp) (AllReadyH.cons (o := _) rfl (fun K hK => ?_) AllReadyH.nil)
            obtain ⟨s31, s32⟩ := H29.out.get 0 rfl (j := j) (by rw [HTO.out.lw, HL.out]; exact hjn)
            have H33 := hid (show St B W [.own (.slice (some ⟨DA, 0, none⟩) N N) (ws.set j q), .own (.slice (some ⟨DB, 0, none⟩) N N) rs] [] (k30.setCell ⟨DA, j, none⟩ (.int .i64 q)) from (H29.out.store 0 rfl j q))
            go_simp
            refine hK.out _ _ ?_ (fun hHeld2 => ?_)
            focus ((try dsimp only); (exact (by have := row_cell (H33.out.old HS.out).row (j := j) hjn; rw [HZ.out] at this; exact this)))
            clear hK K hHeld
            try simp only [Act.put, List.getElem_toArray, List.getElem_cons_zero, List.getElem_cons_succ, List.setIfInBounds_toArray, List.set_cons_zero, List.set_cons_succ]
            clear s31 s32
            generalize (k30.setCell ⟨DA, j, none⟩ (.int .i64 q)) = k34 at *
            have hHeld := hHeld2
            clear hHeld2
            refine wpAnyH_take (i := 22) (oi := _) (v := ?_) rfl (by kernel_rfl) (by kernel_rfl) (by kernel_rfl) (fun _ _ _ h => h) (Or.inl ⟨by rfl, ?_⟩) (by assumption) ?_
            rotate_left
            focus (intro wS hSw; (try dsimp only at hSw); go_simp; (try with_reducible rfl))
            try simp only [Act.put, List.getElem_toArray, List.getElem_cons_zero, List.getElem_cons_succ, List.setIfInBounds_toArray, List.set_cons_zero, List.set_cons_succ]
            refine wpAnyH_ready (rs := [23]) (by kernel_rfl) (by simp) (AllReadyH.cons (o := _) rfl (fun K hK => ?_) AllReadyH.nil)
            obtain ⟨s35, s36⟩ := H33.out.get 1 rfl (j := j) (by rw [HTO.out.lr, HL.out]; exact hjn)
            have H37 := hid (show St B W [.own (.slice (some ⟨DA, 0, none⟩) N N) (ws.set j q), .own (.slice (some ⟨DB, 0, none⟩) N N) (rs.set j r)] [] (k34.setCell ⟨DB, j, none⟩ (.int .i64 r)) from (H33.out.store 1 rfl j r))
            go_simp
            refine hK.out _ _ ?_ (fun hHeld2 => ?_)
            focus ((try dsimp only); (exact (by have := row_cell (H37.out.old HS.out).row (j := j) hjn; rw [HZ.out] at this; exact this)))
            clear hK K hHeld
            try simp only [Act.put, List.getElem_toArray, List.getElem_cons_zero, List.getElem_cons_succ, List.setIfInBounds_toArray, List.set_cons_zero, List.set_cons_succ]
            clear s35 s36
            generalize (k34.setCell ⟨DB, j, none⟩ (.int .i64 r)) = k38 at *
            have hHeld := hHeld2
            clear hHeld2
            refine wpAnyH_done (by kernel_rfl) ?_ _
            try clear hHeld
            have s3 := (H37.out.get 0 rfl (j := j) (by rw [List.length_set, HTO.out.lw, HL.out]; exact hjn)).1
            rw [set_getT (by rw [HTO.out.lw, HL.out]; exact hjn), if_pos rfl] at s3
            go_wp2_with fail
            go_roundw
            case rel => exact ⟨j + 1, _, _, _, by omega, HTO.out.next (by rw [HL.out]; exact hjn) HQ.out HR.out, by unfold dvM; simp only [sumN]; rw [HQ.out]; have := HMI.out; unfold dvM at this; omega, by go_num, rfl, H37.out.pick [0, 1] rfl (by decide)⟩
            case measure => first | (simp [intOf]; omega) | (simp [intOf]; done)
          · skip
            have hjn' : ¬ ((j : Int) < N) := by omega
            have HJN := hid (show j = l.length from by rw [HL.out]; omega)
            go_wp2_with fail
            have HA := hid (show DvGo total n l ws rs 0 from ⟨by rw [HJN.out] at HTO; rw [HTO.out.all.1, HTO.out.all.2]; rfl⟩)
            obtain ⟨M0, hM0⟩ : ∃ M0, dvM total n l l.length = M0 := ⟨_, rfl⟩
            have HM0 := hid hM0
            have HMJ := hid (show mi = M0 from by rw [← hM0, ← HJN.out]; exact HMI.out)
            obtain ⟨mq1, mq2⟩ : -268435456 ≤ M0 ∧ M0 ≤ 16384 := by have := HMJ.out; omega
            clear hM0
            go_loopw [9] (fun x wr => ∃ (k : Nat) (ws rs : List Int) (mi : Int), DvGo total n l ws rs k ∧ mi = M0 - (k : Int) ∧ (0 < k → 0 ≤ mi) ∧ x = .int .i64 mi ∧ St B W [.own (.slice (some ⟨DA, 0, none⟩) N N) ws, .own (.slice (some ⟨DB, 0, none⟩) N N) rs] [] wr) (fun x _ => (intOf x).toNat)
            case atStart => exact ⟨0, _, _, _, HA.out, by have := HMJ.out; omega, fun h => by omega, rfl, H28.out.pick [0, 1] rfl (by decide)⟩
            case round =>
              obtain ⟨k, ws, rs, mi, hgo, hmi, hkm, rfl, hst⟩ := hrel
              obtain ⟨u39, rfl⟩ : ∃ u39 : World, u39 = wr := ⟨_, rfl⟩
              have H40 := hid hst
              clear hst
              have HGO := hid hgo
              have HMI := hid hmi
              have HKM := hid hkm
              obtain ⟨mi1, mi2, k1⟩ : -268435456 ≤ mi ∧ mi ≤ 16384 ∧ (k : Int) ≤ 16384 := by by_cases q : 0 < k; have := hkm q; omega; omega
              have HWL := hid (hgo.lw.trans HL.out)
              have HRL := hid (hgo.lr.trans HL.out)
              clear hgo hmi hkm
              by_cases hm0 : 0 < mi
              · skip
                go_wp2_with fail
                go_loopw [12, 11] (fun i y wr => ∃ q g : Nat, q ≤ N ∧ g = amax rs q ∧ g < N ∧ i = .int .i64 q ∧ y = .int .i64 g ∧ St B W [.own (.slice (some ⟨DA, 0, none⟩) N N) ws, .own (.slice (some ⟨DB, 0, none⟩) N N) rs] [] wr) (fun i _ _ => N - (intOf i).toNat)
                case atStart => exact ⟨1, 0, by omega, by first | rfl | exact (amax_one rs).symm, by omega, rfl, rfl, H40.out.pick [0, 1] rfl (by decide)⟩
                case round =>
                  obtain ⟨q, g, hq, hg, hgn, rfl, rfl, hst⟩ := hrel
                  obtain ⟨u41, rfl⟩ : ∃ u41 : World, u41 = wr := ⟨_, rfl⟩
                  have H42 := hid hst
                  clear hst
                  have HG := hid hg
                  clear hg
                  by_cases hqn : q < N
                  · skip
                    have hqn' : (q : Int) < N := by omega
                    obtain ⟨u, hu⟩ : ∃ u, rs.getD q 0 = u := ⟨_, rfl⟩
                    obtain ⟨v, hv⟩ : ∃ u, rs.getD g 0 = u := ⟨_, rfl⟩
                    obtain ⟨-, -, ub1, ub2⟩ := HGO.out.bd HI.out q
                    obtain ⟨-, -, vb1, vb2⟩ := HGO.out.bd HI.out g
                    rw [hu] at ub1 ub2
                    rw [hv] at vb1 vb2
                    have HUV := hid (And.intro hu hv)
                    clear hu hv
                    go_upto_region 19 with fail
                    have H43 := hid H42.out.drew
                    refine wp_region_held_drew (S := (fun w' => w'.cell? ⟨DB, q, none⟩ = some (.int .i64 u) ∧ w'.cell? ⟨DB, g, none⟩ = some (.int .i64 v))) (by kernel_rfl) ⟨(by have := (H43.out.get 1 rfl (j := q) (by rw [HRL.out]; exact hqn)).1; rw [HUV.out.1] at this; exact this), (by have := (H43.out.get 1 rfl (j := g) (by rw [HRL.out]; exact hgn)).1; rw [HUV.out.2] at this; exact this)⟩ (fun hHeld => ?_)
                    generalize u41.drew = k44 at *
                    refine wpAnyH_take (i := 0) (oi := _) (v := ?_) rfl (by kernel_rfl) (by kernel_rfl) (by kernel_rfl) (fun _ _ _ h => h) (Or.inl ⟨by rfl, ?_⟩) (by assumption) ?_
                    rotate_left
                    focus (intro wS hSw; (try dsimp only at hSw); go_simp; (try with_reducible rfl))
                    try simp only [Act.put, List.getElem_toArray, List.getElem_cons_zero, List.getElem_cons_succ, List.setIfInBounds_toArray, List.set_cons_zero, List.set_cons_succ]
                    refine wpAnyH_take (i := 1) (oi := _) (v := ?_) rfl (by kernel_rfl) (by kernel_rfl) (by kernel_rfl) (fun _ _ _ h => h) (Or.inl ⟨by rfl, ?_⟩) (by assumption) ?_
                    rotate_left
                    focus (intro wS hSw; (try dsimp only at hSw); go_simp; (try with_reducible rfl))
                    try simp only [Act.put, List.getElem_toArray, List.getElem_cons_zero, List.getElem_cons_succ, List.setIfInBounds_toArray, List.set_cons_zero, List.set_cons_succ]
                    refine wpAnyH_take (i := 2) (oi := _) (v := ?_) rfl (by kernel_rfl) (by kernel_rfl) (by kernel_rfl) (fun _ _ _ h => h) (Or.inl ⟨by rfl, ?_⟩) (by assumption) ?_
                    rotate_left
                    focus (intro wS hSw; (try dsimp only at hSw); go_simp; (try with_reducible rfl))
                    try simp only [Act.put, List.getElem_toArray, List.getElem_cons_zero, List.getElem_cons_succ, List.setIfInBounds_toArray, List.set_cons_zero, List.set_cons_succ]
                    refine wpAnyH_take (i := 3) (oi := _) (v := ?_) rfl (by kernel_rfl) (by kernel_rfl) (by kernel_rfl) (fun _ _ _ h => h) (Or.inl ⟨by rfl, ?_⟩) (by assumption) ?_
                    rotate_left
                    focus (intro wS hSw; (try dsimp only at hSw); go_simp; (try with_reducible rfl))
                    try simp only [Act.put, List.getElem_toArray, List.getElem_cons_zero, List.getElem_cons_succ, List.setIfInBounds_toArray, List.set_cons_zero, List.set_cons_succ]
                    refine wpAnyH_take (i := 4) (oi := _) (v := ?_) rfl (by kernel_rfl) (by kernel_rfl) (by kernel_rfl) (fun _ _ _ h => h) (Or.inl ⟨by rfl, ?_⟩) (by assumption) ?_
                    rotate_left
                    focus (intro wS hSw; (try dsimp only at hSw); go_simp; (try with_reducible rfl))
                    try simp only [Act.put, List.getElem_toArray, List.getElem_cons_zero, List.getElem_cons_succ, List.setIfInBounds_toArray, List.set_cons_zero, List.set_cons_succ]
                    refine wpAnyH_take (i := 5) (oi := _) (v := ?_) rfl (by kernel_rfl) (by kernel_rfl) (by kernel_rfl) (fun _ _ _ h => h) (Or.inl ⟨by rfl, ?_⟩) (by assumption) ?_
                    rotate_left
                    focus (intro wS hSw; (try dsimp only at hSw); go_simp; (try with_reducible rfl))
                    try simp only [Act.put, List.getElem_toArray, List.getElem_cons_zero, List.getElem_cons_succ, List.setIfInBounds_toArray, List.set_cons_zero, List.set_cons_succ]
                    refine wpAnyH_take (i := 6) (oi := _) (v := ?_) rfl (by kernel_rfl) (by kernel_rfl) (by kernel_rfl) (fun _ _ _ h => h) (Or.inl ⟨by rfl, ?_⟩) (by assumption) ?_
                    rotate_left
                    focus (intro wS hSw; (try dsimp only at hSw); go_simp; (try with_reducible rfl))
                    try simp only [Act.put, List.getElem_toArray, List.getElem_cons_zero, List.getElem_cons_succ, List.setIfInBounds_toArray, List.set_cons_zero, List.set_cons_succ]
                    refine wpAnyH_take (i := 7) (oi := _) (v := ?_) rfl (by kernel_rfl) (by kernel_rfl) (by kernel_rfl) (fun _ _ _ h => h) (Or.inl ⟨by rfl, ?_⟩) (by assumption) ?_
                    rotate_left
                    focus (intro wS hSw; (try dsimp only at hSw); go_simp; (try with_reducible rfl))
                    try simp only [Act.put, List.getElem_toArray, List.getElem_cons_zero, List.getElem_cons_succ, List.setIfInBounds_toArray, List.set_cons_zero, List.set_cons_succ]
                    refine wpAnyH_take (i := 8) (oi := _) (v := ?_) rfl (by kernel_rfl) (by kernel_rfl) (by kernel_rfl) (fun _ _ _ h => h) (Or.inl ⟨by rfl, ?_⟩) (by assumption) ?_
                    rotate_left
                    focus (intro wS hSw; (try dsimp only at hSw); go_simp; (try with_reducible rfl))
                    try simp only [Act.put, List.getElem_toArray, List.getElem_cons_zero, List.getElem_cons_succ, List.setIfInBounds_toArray, List.set_cons_zero, List.set_cons_succ]
                    refine wpAnyH_done (by kernel_rfl) ?_ _
                    try clear hHeld
                    by_cases hvu : v < u
                    · skip
                      have HBN := hid (show q = amax rs (q + 1) from by simp only [amax]; rw [← HG.out, HUV.out.1, HUV.out.2, if_pos hvu])
                      go_wp2_with fail
                      go_roundw
                      case rel => exact ⟨q + 1, _, by omega, HBN.out, by omega, by go_num, by first | rfl | go_num, H43.out⟩
                      case measure => first | (simp [intOf]; omega) | (simp [intOf]; done)
                    · skip
                      have HBN := hid (show g = amax rs (q + 1) from by simp only [amax]; rw [← HG.out, HUV.out.1, HUV.out.2, if_neg hvu])
                      go_wp2_with fail
                      go_roundw
                      case rel => exact ⟨q + 1, _, by omega, HBN.out, by omega, by go_num, by first | rfl | go_num, H43.out⟩
                      case measure => first | (simp [intOf]; omega) | (simp [intOf]; done)
                  · skip
                    have hqn' : ¬ ((q : Int) < N) := by omega
                    have HGM := hid (show g = amax rs rs.length from by rw [HRL.out, HG.out, show q = N by omega])
                    go_upto_region 21 with fail
                    obtain ⟨u, hu⟩ : ∃ u, ws.getD g 0 = u := ⟨_, rfl⟩
                    obtain ⟨ub1, ub2, -, -⟩ := HGO.out.bd HI.out g
                    rw [hu] at ub1 ub2
                    obtain ⟨s3, s4⟩ := H42.out.get 0 rfl (j := g) (by rw [HWL.out]; exact hgn)
                    rw [hu] at s3
                    have HU := hid hu
                    clear hu
                    go_upto_region 22 with fail
                    have H45 := hid (show St B W [.own (.slice (some ⟨DA, 0, none⟩) N N) (ws.set g (u + 1)), .own (.slice (some ⟨DB, 0, none⟩) N N) rs] [] (u41.setCell ⟨DA, g, none⟩ (.int .i64 (u + 1))) from (H42.out.store 0 rfl g (u + 1)))
                    first | refine gen_code H45.out ?_ | refine gen_list H45.out ?_ | refine gen_calls H45.out ?_
                    intro w46 hG
                    clear H45
                    have H45 := hid hG
                    clear hG
                    clear s3 s4
                    obtain ⟨s3, s4⟩ := H45.out.get 1 rfl (j := g) (by rw [HRL.out]; exact hgn)
                    go_upto_region 14 with fail
                    have H47 := hid (show St B W [.own (.slice (some ⟨DA, 0, none⟩) N N) (ws.set g (u + 1)), .own (.slice (some ⟨DB, 0, none⟩) N N) (rs.set g (-1))] [] (w46.setCell ⟨DB, g, none⟩ (.int .i64 (-1))) from (H45.out.store 1 rfl g (-1)))
                    first | refine gen_code H47.out ?_ | refine gen_list H47.out ?_ | refine gen_calls H47.out ?_
                    intro w48 hG
                    clear H47
                    have H47 := hid hG
                    clear hG
                    go_wp2_with fail
                    go_roundw
                    case rel => exact ⟨k + 1, _, _, _, HGO.out.next HGM.out HU.out, by have := HMI.out; omega, fun _ => by omega, rfl, H47.out.pick [0, 1] rfl (by decide)⟩
                    case measure => first | (simp [intOf]; omega) | (simp [intOf]; done)
              · skip
                have HKK := hid (show k = M0.toNat from by have h1 := HMI.out; by_cases q : 0 < k; have := HKM.out q; omega; omega)
                go_wp2_with fail
                go_ret
                exact ⟨_, rfl, by rw [hB, show dvW total n l = ws from by unfold dvW; rw [HM0.out, ← HKK.out, ← HGO.out.eq]]; exact H40.out.own 0 rfl, by first | exact H40.out.below | exact H40.out.below'⟩
      · skip
        obtain ⟨DB, hDB⟩ : ∃ L, k22.heap.size = L := ⟨_, rfl⟩
        have hBDB : B ≤ DB := by have := H21.out.size; omega
        rw [if_pos (by rfl)]
        refine oper_make_int _ _ rfl DB _ _ N rfl rfl (by rfl) (by rfl) (by omega) (by omega) ?_
        intro k49 ho hb
        rw [hDB] at ho ⊢
        have H50 := hid (H21.out.made hDB ho hb)
        clear ho hb hDB hBDB
        refine hK.out _ _ ?_ (fun hHeld2 => ?_)
        focus ((try dsimp only); (try exact trivial))
        clear hK K
        try simp only [Act.put, List.getElem_toArray, List.getElem_cons_zero, List.getElem_cons_succ, List.setIfInBounds_toArray, List.set_cons_zero, List.set_cons_succ]
        clear hHeld
        have hHeld := hHeld2
        clear hHeld2
        refine wpAnyH_ready (rs := [2]) (by kernel_rfl) (by simp) (AllReadyH.cons (o := _) rfl (fun K hK => ?_) AllReadyH.nil)
        skip
        obtain ⟨DA, hDA⟩ : ∃ L, k49.heap.size = L := ⟨_, rfl⟩
        have hBDA : B ≤ DA := by have := H50.out.size; omega
        rw [if_pos (by rfl)]
        refine oper_make_int _ _ rfl DA _ _ N rfl rfl (by rfl) (by rfl) (by omega) (by omega) ?_
        intro k51 ho hb
        rw [hDA] at ho ⊢
        have H52 := hid (H50.out.made hDA ho hb)
        clear ho hb hDA hBDA
        refine hK.out _ _ ?_ (fun hHeld2 => ?_)
        focus ((try dsimp only); (try exact trivial))
        clear hK K
        try simp only [Act.put, List.getElem_toArray, List.getElem_cons_zero, List.getElem_cons_succ, List.setIfInBounds_toArray, List.set_cons_zero, List.set_cons_succ]
        clear hHeld
        have hHeld := hHeld2
        clear hHeld2
        refine wpAnyH_take (i := 6) (oi := _) (v := ?_) rfl (by kernel_rfl) (by kernel_rfl) (by kernel_rfl) (fun _ _ _ h => h) (Or.inl ⟨by rfl, ?_⟩) (by assumption) ?_
        rotate_left
        focus (intro wS hSw; (try dsimp only at hSw); go_simp; (try with_reducible rfl))
        try simp only [Act.put, List.getElem_toArray, List.getElem_cons_zero, List.getElem_cons_succ, List.setIfInBounds_toArray, List.set_cons_zero, List.set_cons_succ]
        refine wpAnyH_take (i := 7) (oi := _) (v := ?_) rfl (by kernel_rfl) (by kernel_rfl) (by kernel_rfl) (fun _ _ _ h => h) (Or.inl ⟨by rfl, ?_⟩) (by assumption) ?_
        rotate_left
        focus (intro wS hSw; (try dsimp only at hSw); go_simp; (try with_reducible rfl))
        try simp only [Act.put, List.getElem_toArray, List.getElem_cons_zero, List.getElem_cons_succ, List.setIfInBounds_toArray, List.set_cons_zero, List.set_cons_succ]
        refine wpAnyH_done (by kernel_rfl) ?_ _
        try clear hHeld
        go_wp2_with fail
        go_loopw [10, 9] (fun i x wr => ∃ (j : Nat) (ws rs : List Int) (mi : Int), j ≤ N ∧ DvTo total n l ws rs j ∧ mi = dvM total n l j ∧ i = .int .i64 j ∧ x = .int .i64 mi ∧ St B W [.own (.slice (some ⟨DA, 0, none⟩) N N) ws, .own (.slice (some ⟨DB, 0, none⟩) N N) rs] [] wr) (fun i _ _ => N - (intOf i).toNat)
        case atStart => exact ⟨0, _, _, _, by omega, DvTo.zero HL.out.symm, by unfold dvM; simp [sumN], rfl, rfl, H52.out.pick [0, 1] rfl (by decide)⟩
        case round =>
          obtain ⟨j, ws, rs, mi, hj, hto, hmi, rfl, rfl, hst⟩ := hrel
          obtain ⟨u53, rfl⟩ : ∃ u53 : World, u53 = wr := ⟨_, rfl⟩
          have H54 := hid hst
          clear hst
          have hmb : -268435456 ≤ mi ∧ mi ≤ 16384 := by have := dvM_bd HI.out j; omega
          obtain ⟨mb1, mb2⟩ := hmb
          have HTO := hid hto
          have HMI := hid hmi
          clear hto hmi
          by_cases hjn : j < N
          · skip
            have hjn' : (j : Int) < N := by omega
            obtain ⟨z, hz⟩ : ∃ z, l.getD j 0 = z := ⟨_, rfl⟩
            obtain ⟨x1, x2, x3, x4, x5, x6⟩ := HI.out.one j
            obtain ⟨zb1, zb2⟩ := HI.out.all j
            rw [hz] at x1 x2 x3 x4 x5 x6 zb1 zb2
            obtain ⟨X, hX⟩ : ∃ X, total * z = X := ⟨_, rfl⟩
            rw [hX] at x1 x2 x3 x4 x5 x6
            obtain ⟨q, hq⟩ : ∃ q, X / n = q := ⟨_, rfl⟩
            obtain ⟨r, hr⟩ : ∃ q, X % n = q := ⟨_, rfl⟩
            rw [hq] at x3 x4
            rw [hr] at x5 x6
            have tq : Int.tdiv X n = q := by rw [Int.tdiv_eq_ediv_of_nonneg (by omega)]; exact hq
            have tr : Int.tmod X n = r := by rw [Int.tmod_eq_emod_of_nonneg (by omega)]; exact hr
            have wX : IntKind.i64.wrap X = X := IntWalk.i64_in _ (by omega)
            have wq : IntKind.i64.wrap q = q := IntWalk.i64_in _ (by omega)
            have wr : IntKind.i64.wrap r = r := IntWalk.i64_in _ (by omega)
            have HQ := hid (show total * l.getD j 0 / n = q from by rw [hz, hX, hq])
            have HR := hid (show total * l.getD j 0 % n = r from by rw [hz, hX, hr])
            have HZ := hid hz
            clear hz
            have cz := row_cell (H54.out.old HS.out).row (j := j) hjn
            rw [HZ.out] at cz
            go_upto_region 11 with fail
            have H55 := hid H54.out.drew
            refine wp_region_held_drew (S := (fun w' => w'.cell? ⟨pb, po + j, none⟩ = some (.int .i64 z))) (by kernel_rfl) (by have := row_cell (H55.out.old HS.out).row (j := j) hjn; rw [HZ.out] at this; exact this) (fun hHeld => ?_)
            generalize u53.drew = k56 at *
            refine wpAnyH_take (i := 0) (oi := _) (v := ?_) rfl (by kernel_rfl) (by kernel_rfl) (by kernel_rfl) (fun _ _ _ h => h) (Or.inl ⟨by rfl, ?_⟩) (by assumption) ?_
            rotate_left
            focus (intro wS hSw; (try dsimp only at hSw); go_simp; (try with_reducible rfl))
            try simp only [Act.put, List.getElem_toArray, List.getElem_cons_zero, List.getElem_cons_succ, List.setIfInBounds_toArray, List.set_cons_zero, List.set_cons_succ]
            refine wpAnyH_take (i := 1) (oi := _) (v := ?_) rfl (by kernel_rfl) (by kernel_rfl) (by kernel_rfl) (fun _ _ _ h => h) (Or.inl ⟨by rfl, ?_⟩) (by assumption) ?_
            rotate_left
            focus (intro wS hSw; (try dsimp only at hSw); go_simp; (try with_reducible rfl))
            try simp only [Act.put, List.getElem_toArray, List.getElem_cons_zero, List.getElem_cons_succ, List.setIfInBounds_toArray, List.set_cons_zero, List.set_cons_succ]
            refine wpAnyH_take (i := 2) (oi := _) (v := ?_) rfl (by kernel_rfl) (by kernel_rfl) (by kernel_rfl) (fun _ _ _ h => h) (Or.inl ⟨by rfl, ?_⟩) (by assumption) ?_
            rotate_left
            focus (intro wS hSw; (try dsimp only at hSw); go_simp; (try with_reducible rfl))
            try simp only [Act.put, List.getElem_toArray, List.getElem_cons_zero, List.getElem_cons_succ, List.setIfInBounds_toArray, List.set_cons_zero, List.set_cons_succ]
            refine wpAnyH_take (i := 3) (oi := _) (v := ?_) rfl (by kernel_rfl) (by kernel_rfl) (by kernel_rfl) (fun _ _ _ h => h) (Or.inl ⟨by rfl, ?_⟩) (by assumption) ?_
            rotate_left
            focus (intro wS hSw; (try dsimp only at hSw); go_simp; (try with_reducible rfl))
            try simp only [Act.put, List.getElem_toArray, List.getElem_cons_zero, List.getElem_cons_succ, List.setIfInBounds_toArray, List.set_cons_zero, List.set_cons_succ]
            refine wpAnyH_take (i := 4) (oi := _) (v := ?_) rfl (by kernel_rfl) (by kernel_rfl) (by kernel_rfl) (fun _ _ _ h => h) (Or.inl ⟨by rfl, ?_⟩) (by assumption) ?_
            rotate_left
            focus (intro wS hSw; (try dsimp only at hSw); go_simp; (try with_reducible rfl))
            try simp only [Act.put, List.getElem_toArray, List.getElem_cons_zero, List.getElem_cons_succ, List.setIfInBounds_toArray, List.set_cons_zero, List.set_cons_succ]
            refine wpAnyH_take (i := 5) (oi := _) (v := ?_) rfl (by kernel_rfl) (by kernel_rfl) (by kernel_rfl) (fun _ _ _ h => h) (Or.inl ⟨by rfl, ?_⟩) (by assumption) ?_
            rotate_left
            focus (intro wS hSw; (try dsimp only at hSw); go_simp; (try with_reducible rfl))
            try simp only [Act.put, List.getElem_toArray, List.getElem_cons_zero, List.getElem_cons_succ, List.setIfInBounds_toArray, List.set_cons_zero, List.set_cons_succ]
            refine wpAnyH_take (i := 6) (oi := _) (v := ?_) rfl (by kernel_rfl) (by kernel_rfl) (by kernel_rfl) (fun _ _ _ h => h) (Or.inl ⟨by rfl, ?_⟩) (by assumption) ?_
            rotate_left
            focus (intro wS hSw; (try dsimp only at hSw); go_simp; (try with_reducible rfl))
            try simp only [Act.put, List.getElem_toArray, List.getElem_cons_zero, List.getElem_cons_succ, List.setIfInBounds_toArray, List.set_cons_zero, List.set_cons_succ]
            refine wpAnyH_take (i := 7) (oi := _) (v := ?_) rfl (by kernel_rfl) (by kernel_rfl) (by kernel_rfl) (fun _ _ _ h => h) (Or.inl ⟨by rfl, ?_⟩) (by assumption) ?_
            rotate_left
            focus (intro wS hSw; (try dsimp only at hSw); go_simp; (try with_reducible rfl))
            try simp only [Act.put, List.getElem_toArray, List.getElem_cons_zero, List.getElem_cons_succ, List.setIfInBounds_toArray, List.set_cons_zero, List.set_cons_succ]
            refine wpAnyH_take (i := 8) (oi := _) (v := ?_) rfl (by kernel_rfl) (by kernel_rfl) (by kernel_rfl) (fun _ _ _ h => h) (Or.inl ⟨by rfl, ?_⟩) (by assumption) ?_
            rotate_left
            focus (intro wS hSw; (try dsimp only at hSw); go_simp; (try with_reducible rfl))
            try simp only [Act.put, List.getElem_toArray, List.getElem_cons_zero, List.getElem_cons_succ, List.setIfInBounds_toArray, List.set_cons_zero, List.set_cons_succ]
            refine wpAnyH_take (i := 9) (oi := _) (v := ?_) rfl (by kernel_rfl) (by kernel_rfl) (by kernel_rfl) (fun _ _ _ h => h) (Or.inl ⟨by rfl, ?_⟩) (by assumption) ?_
            rotate_left
            focus (intro wS hSw; (try dsimp only at hSw); go_simp; (try with_reducible rfl))
            try simp only [Act.put, List.getElem_toArray, List.getElem_cons_zero, List.getElem_cons_succ, List.setIfInBounds_toArray, List.set_cons_zero, List.set_cons_succ]
            refine wpAnyH_take (i := 10) (oi := _) (v := ?_) rfl (by kernel_rfl) (by kernel_rfl) (by kernel_rfl) (fun _ _ _ h => h) (Or.inl ⟨by rfl, ?_⟩) (by assumption) ?_
            rotate_left
            focus (intro wS hSw; (try dsimp only at hSw); go_simp; (try with_reducible rfl))
            try simp only [Act.put, List.getElem_toArray, List.getElem_cons_zero, List.getElem_cons_succ, List.setIfInBounds_toArray, List.set_cons_zero, List.set_cons_succ]
            refine wpAnyH_take (i := 11) (oi := _) (v := ?_) rfl (by kernel_rfl) (by kernel_rfl) (by kernel_rfl) (fun _ _ _ h => h) (Or.inl ⟨by rfl, ?_⟩) (by assumption) ?_
            rotate_left
            focus (intro wS hSw; (try dsimp only at hSw); go_simp; (try with_reducible rfl))
            try simp only [Act.put, List.getElem_toArray, List.getElem_cons_zero, List.getElem_cons_succ, List.setIfInBounds_toArray, List.set_cons_zero, List.set_cons_succ]
            refine wpAnyH_take (i := 12) (oi := _) (v := ?_) rfl (by kernel_rfl) (by kernel_rfl) (by kernel_rfl) (fun _ _ _ h => h) (Or.inl ⟨by rfl, ?_⟩) (by assumption) ?_
            rotate_left
            focus (intro wS hSw; (try dsimp only at hSw); go_simp; (try with_reducible rfl))
            try simp only [Act.put, List.getElem_toArray, List.getElem_cons_zero, List.getElem_cons_succ, List.setIfInBounds_toArray, List.set_cons_zero, List.set_cons_succ]
            refine wpAnyH_take (i := 13) (oi := _) (v := ?_) rfl (by kernel_rfl) (by kernel_rfl) (by kernel_rfl) (fun _ _ _ h => h) (Or.inl ⟨by rfl, ?_⟩) (by assumption) ?_
            rotate_left
            focus (intro wS hSw; (try dsimp only at hSw); go_simp; (try with_reducible rfl))
            try simp only [Act.put, List.getElem_toArray, List.getElem_cons_zero, List.getElem_cons_succ, List.setIfInBounds_toArray, List.set_cons_zero, List.set_cons_succ]
            refine wpAnyH_take (i := 14) (oi := _) (v := ?_) rfl (by kernel_rfl) (by kernel_rfl) (by kernel_rfl) (fun _ _ _ h => h) (Or.inl ⟨by rfl, ?_⟩) (by assumption) ?_
            rotate_left
            focus (intro wS hSw; (try dsimp only at hSw); go_simp; (try with_reducible rfl))
            try simp only [Act.put, List.getElem_toArray, List.getElem_cons_zero, List.getElem_cons_succ, List.setIfInBounds_toArray, List.set_cons_zero, List.set_cons_succ]
            refine wpAnyH_take (i := 15) (oi := _) (v := ?_) rfl (by kernel_rfl) (by kernel_rfl) (by kernel_rfl) (fun _ _ _ h => h) (Or.inl ⟨by rfl, ?_⟩) (by assumption) ?_
            rotate_left
            focus (intro wS hSw; (try dsimp only at hSw); go_simp; (try with_reducible rfl))
            try simp only [Act.put, List.getElem_toArray, List.getElem_cons_zero, List.getElem_cons_succ, List.setIfInBounds_toArray, List.set_cons_zero, List.set_cons_succ]
            refine wpAnyH_take (i := 16) (oi := _) (v := ?_) rfl (by kernel_rfl) (by kernel_rfl) (by kernel_rfl) (fun _ _ _ h => h) (Or.inl ⟨by rfl, ?_⟩) (by assumption) ?_
            rotate_left
            focus (intro wS hSw; (try dsimp only at hSw); go_simp; (try with_reducible rfl))
            try simp only [Act.put, List.getElem_toArray, List.getElem_cons_zero, List.getElem_cons_succ, List.setIfInBounds_toArray, List.set_cons_zero, List.set_cons_succ]
            refine wpAnyH_take (i := 17) (oi := _) (v := ?_) rfl (by kernel_rfl) (by kernel_rfl) (by kernel_rfl) (fun _ _ _ h => h) (Or.inl ⟨by rfl, ?_⟩) (by assumption) ?_
            rotate_left
            focus (intro wS hSw; (try dsimp only at hSw); go_simp; (try with_reducible rfl))
            try simp only [Act.put, List.getElem_toArray, List.getElem_cons_zero, List.getElem_cons_succ, List.setIfInBounds_toArray, List.set_cons_zero, List.set_cons_succ]
            refine wpAnyH_take (i := 18) (oi := _) (v := ?_) rfl (by kernel_rfl) (by kernel_rfl) (by kernel_rfl) (fun _ _ _ h => h) (Or.inl ⟨by rfl, ?_⟩) (by assumption) ?_
            rotate_left
            focus (intro wS hSw; (try dsimp only at hSw); go_simp; (try with_reducible rfl))
            try simp only [Act.put, List.getElem_toArray, List.getElem_cons_zero, List.getElem_cons_succ, List.setIfInBounds_toArray, List.set_cons_zero, List.set_cons_succ]
            refine wpAnyH_take (i := 19) (oi := _) (v := ?_) rfl (by kernel_rfl) (by kernel_rfl) (by kernel_rfl) (fun _ _ _ h => h) (Or.inl ⟨by rfl, ?_⟩) (by assumption) ?_
            rotate_left
            focus (intro wS hSw; (try dsimp only at hSw); go_simp; (try with_reducible rfl))
            try simp only [Act.put, List.getElem_toArray, List.getElem_cons_zero, List.getElem_cons_succ, List.setIfInBounds_toArray, List.set_cons_zero, List.set_cons_succ]
            refine wpAnyH_take (i := 20) (oi := _) (v := ?_) rfl (by kernel_rfl) (by kernel_rfl) (by kernel_rfl) (fun _ _ _ h => h) (Or.inl ⟨by rfl, ?_⟩) (by assumption) ?_
            rotate_left
            focus (intro wS hSw; (try dsimp only at hSw); go_simp; (try with_reducible rfl))
            try simp only [Act.put, List.getElem_toArray, List.getElem_cons_zero, List.getElem_cons_succ, List.setIfInBounds_toArray, List.set_cons_zero, List.set_cons_succ]
            refine wpAnyH_ready (rs := [21]) (by kernel_rfl) (by simp) (AllReadyH.cons (o := _) rfl (fun K hK => ?_) AllReadyH.nil)
            obtain ⟨s57, s58⟩ := H55.out.get 0 rfl (j := j) (by rw [HTO.out.lw, HL.out]; exact hjn)
            have H59 := hid (show St B W [.own (.slice (some ⟨DA, 0, none⟩) N N) (ws.set j q), .own (.slice (some ⟨DB, 0, none⟩) N N) rs] [] (k56.setCell ⟨DA, j, none⟩ (.int .i64 q)) from (H55.out.store 0 rfl j q))
            go_simp
            refine hK.out _ _ ?_ (fun hHeld2 => ?_)
            focus ((try dsimp only); (exact (by have := row_cell (H59.out.old HS.out).row (j := j) hjn; rw [HZ.out] at this; exact this)))
            clear hK K hHeld
            try simp only [Act.put, List.getElem_toArray, List.getElem_cons_zero, List.getElem_cons_succ, List.setIfInBounds_toArray, List.set_cons_zero, List.set_cons_succ]
            clear s57 s58
            generalize (k56.setCell ⟨DA, j, none⟩ (.int .i64 q)) = k60 at *
            have hHeld := hHeld2
            clear hHeld2
            refine wpAnyH_take (i := 22) (oi := _) (v := ?_) rfl (by kernel_rfl) (by kernel_rfl) (by kernel_rfl) (fun _ _ _ h => h) (Or.inl ⟨by rfl, ?_⟩) (by assumption) ?_
            rotate_left
            focus (intro wS hSw; (try dsimp only at hSw); go_simp; (try with_reducible rfl))
            try simp only [Act.put, List.getElem_toArray, List.getElem_cons_zero, List.getElem_cons_succ, List.setIfInBounds_toArray, List.set_cons_zero, List.set_cons_succ]
            refine wpAnyH_ready (rs := [23]) (by kernel_rfl) (by simp) (AllReadyH.cons (o := _) rfl (fun K hK => ?_) AllReadyH.nil)
            obtain ⟨s61, s62⟩ := H59.out.get 1 rfl (j := j) (by rw [HTO.out.lr, HL.out]; exact hjn)
            have H63 := hid (show St B W [.own (.slice (some ⟨DA, 0, none⟩) N N) (ws.set j q), .own (.slice (some ⟨DB, 0, none⟩) N N) (rs.set j r)] [] (k60.setCell ⟨DB, j, none⟩ (.int .i64 r)) from (H59.out.store 1 rfl j r))
            go_simp
            refine hK.out _ _ ?_ (fun hHeld2 => ?_)
            focus ((try dsimp only); (exact (by have := row_cell (H63.out.old HS.out).row (j := j) hjn; rw [HZ.out] at this; exact this)))
            clear hK K hHeld
            try simp only [Act.put, List.getElem_toArray, List.getElem_cons_zero, List.getElem_cons_succ, List.setIfInBounds_toArray, List.set_cons_zero, List.set_cons_succ]
            clear s61 s62
            generalize (k60.setCell ⟨DB, j, none⟩ (.int .i64 r)) = k64 at *
            have hHeld := hHeld2
            clear hHeld2
            refine wpAnyH_done (by kernel_rfl) ?_ _
            try clear hHeld
            have s3 := (H63.out.get 0 rfl (j := j) (by rw [List.length_set, HTO.out.lw, HL.out]; exact hjn)).1
            rw [set_getT (by rw [HTO.out.lw, HL.out]; exact hjn), if_pos rfl] at s3
            go_wp2_with fail
            go_roundw
            case rel => exact ⟨j + 1, _, _, _, by omega, HTO.out.next (by rw [HL.out]; exact hjn) HQ.out HR.out, by unfold dvM; simp only [sumN]; rw [HQ.out]; have := HMI.out; unfold dvM at this; omega, by go_num, rfl, H63.out.pick [0, 1] rfl (by decide)⟩
            case measure => first | (simp [intOf]; omega) | (simp [intOf]; done)
          · skip
            have hjn' : ¬ ((j : Int) < N) := by omega
            have HJN := hid (show j = l.length from by rw [HL.out]; omega)
            go_wp2_with fail
            have HA := hid (show DvGo total n l ws rs 0 from ⟨by rw [HJN.out] at HTO; rw [HTO.out.all.1, HTO.out.all.2]; rfl⟩)
            obtain ⟨M0, hM0⟩ : ∃ M0, dvM total n l l.length = M0 := ⟨_, rfl⟩
            have HM0 := hid hM0
            have HMJ := hid (show mi = M0 from by rw [← hM0, ← HJN.out]; exact HMI.out)
            obtain ⟨mq1, mq2⟩ : -268435456 ≤ M0 ∧ M0 ≤ 16384 := by have := HMJ.out; omega
            clear hM0
            go_loopw [9] (fun x wr => ∃ (k : Nat) (ws rs : List Int) (mi : Int), DvGo total n l ws rs k ∧ mi = M0 - (k : Int) ∧ (0 < k → 0 ≤ mi) ∧ x = .int .i64 mi ∧ St B W [.own (.slice (some ⟨DA, 0, none⟩) N N) ws, .own (.slice (some ⟨DB, 0, none⟩) N N) rs] [] wr) (fun x _ => (intOf x).toNat)
            case atStart => exact ⟨0, _, _, _, HA.out, by have := HMJ.out; omega, fun h => by omega, rfl, H54.out.pick [0, 1] rfl (by decide)⟩
            case round =>
              obtain ⟨k, ws, rs, mi, hgo, hmi, hkm, rfl, hst⟩ := hrel
              obtain ⟨u65, rfl⟩ : ∃ u65 : World, u65 = wr := ⟨_, rfl⟩
              have H66 := hid hst
              clear hst
              have HGO := hid hgo
              have HMI := hid hmi
              have HKM := hid hkm
              obtain ⟨mi1, mi2, k1⟩ : -268435456 ≤ mi ∧ mi ≤ 16384 ∧ (k : Int) ≤ 16384 := by by_cases q : 0 < k; have := hkm q; omega; omega
              have HWL := hid (hgo.lw.trans HL.out)
              have HRL := hid (hgo.lr.trans HL.out)
              clear hgo hmi hkm
              by_cases hm0 : 0 < mi
              · skip
                go_wp2_with fail
                go_loopw [12, 11] (fun i y wr => ∃ q g : Nat, q ≤ N ∧ g = amax rs q ∧ g < N ∧ i = .int .i64 q ∧ y = .int .i64 g ∧ St B W [.own (.slice (some ⟨DA, 0, none⟩) N N) ws, .own (.slice (some ⟨DB, 0, none⟩) N N) rs] [] wr) (fun i _ _ => N - (intOf i).toNat)
                case atStart => exact ⟨1, 0, by omega, by first | rfl | exact (amax_one rs).symm, by omega, rfl, rfl, H66.out.pick [0, 1] rfl (by decide)⟩
                case round =>
                  obtain ⟨q, g, hq, hg, hgn, rfl, rfl, hst⟩ := hrel
                  obtain ⟨u67, rfl⟩ : ∃ u67 : World, u67 = wr := ⟨_, rfl⟩
                  have H68 := hid hst
                  clear hst
                  have HG := hid hg
                  clear hg
                  by_cases hqn : q < N
                  · skip
                    have hqn' : (q : Int) < N := by omega
                    obtain ⟨u, hu⟩ : ∃ u, rs.getD q 0 = u := ⟨_, rfl⟩
                    obtain ⟨v, hv⟩ : ∃ u, rs.getD g 0 = u := ⟨_, rfl⟩
                    obtain ⟨-, -, ub1, ub2⟩ := HGO.out.bd HI.out q
                    obtain ⟨-, -, vb1, vb2⟩ := HGO.out.bd HI.out g
                    rw [hu] at ub1 ub2
                    rw [hv] at vb1 vb2
                    have HUV := hid (And.intro hu hv)
                    clear hu hv
                    go_upto_region 19 with fail
                    have H69 := hid H68.out.drew
                    refine wp_region_held_drew (S := (fun w' => w'.cell? ⟨DB, q, none⟩ = some (.int .i64 u) ∧ w'.cell? ⟨DB, g, none⟩ = some (.int .i64 v))) (by kernel_rfl) ⟨(by have := (H69.out.get 1 rfl (j := q) (by rw [HRL.out]; exact hqn)).1; rw [HUV.out.1] at this; exact this), (by have := (H69.out.get 1 rfl (j := g) (by rw [HRL.out]; exact hgn)).1; rw [HUV.out.2] at this; exact this)⟩ (fun hHeld => ?_)
                    generalize u67.drew = k70 at *
                    refine wpAnyH_take (i := 0) (oi := _) (v := ?_) rfl (by kernel_rfl) (by kernel_rfl) (by kernel_rfl) (fun _ _ _ h => h) (Or.inl ⟨by rfl, ?_⟩) (by assumption) ?_
                    rotate_left
                    focus (intro wS hSw; (try dsimp only at hSw); go_simp; (try with_reducible rfl))
                    try simp only [Act.put, List.getElem_toArray, List.getElem_cons_zero, List.getElem_cons_succ, List.setIfInBounds_toArray, List.set_cons_zero, List.set_cons_succ]
                    refine wpAnyH_take (i := 1) (oi := _) (v := ?_) rfl (by kernel_rfl) (by kernel_rfl) (by kernel_rfl) (fun _ _ _ h => h) (Or.inl ⟨by rfl, ?_⟩) (by assumption) ?_
                    rotate_left
                    focus (intro wS hSw; (try dsimp only at hSw); go_simp; (try with_reducible rfl))
                    try simp only [Act.put, List.getElem_toArray, List.getElem_cons_zero, List.getElem_cons_succ, List.setIfInBounds_toArray, List.set_cons_zero, List.set_cons_succ]
                    refine wpAnyH_take (i := 2) (oi := _) (v := ?_) rfl (by kernel_rfl) (by kernel_rfl) (by kernel_rfl) (fun _ _ _ h => h) (Or.inl ⟨by rfl, ?_⟩) (by assumption) ?_
                    rotate_left
                    focus (intro wS hSw; (try dsimp only at hSw); go_simp; (try with_reducible rfl))
                    try simp only [Act.put, List.getElem_toArray, List.getElem_cons_zero, List.getElem_cons_succ, List.setIfInBounds_toArray, List.set_cons_zero, List.set_cons_succ]
                    refine wpAnyH_take (i := 3) (oi := _) (v := ?_) rfl (by kernel_rfl) (by kernel_rfl) (by kernel_rfl) (fun _ _ _ h => h) (Or.inl ⟨by rfl, ?_⟩) (by assumption) ?_
                    rotate_left
                    focus (intro wS hSw; (try dsimp only at hSw); go_simp; (try with_reducible rfl))
                    try simp only [Act.put, List.getElem_toArray, List.getElem_cons_zero, List.getElem_cons_succ, List.setIfInBounds_toArray, List.set_cons_zero, List.set_cons_succ]
                    refine wpAnyH_take (i := 4) (oi := _) (v := ?_) rfl (by kernel_rfl) (by kernel_rfl) (by kernel_rfl) (fun _ _ _ h => h) (Or.inl ⟨by rfl, ?_⟩) (by assumption) ?_
                    rotate_left
                    focus (intro wS hSw; (try dsimp only at hSw); go_simp; (try with_reducible rfl))
                    try simp only [Act.put, List.getElem_toArray, List.getElem_cons_zero, List.getElem_cons_succ, List.setIfInBounds_toArray, List.set_cons_zero, List.set_cons_succ]
                    refine wpAnyH_take (i := 5) (oi := _) (v := ?_) rfl (by kernel_rfl) (by kernel_rfl) (by kernel_rfl) (fun _ _ _ h => h) (Or.inl ⟨by rfl, ?_⟩) (by assumption) ?_
                    rotate_left
                    focus (intro wS hSw; (try dsimp only at hSw); go_simp; (try with_reducible rfl))
                    try simp only [Act.put, List.getElem_toArray, List.getElem_cons_zero, List.getElem_cons_succ, List.setIfInBounds_toArray, List.set_cons_zero, List.set_cons_succ]
                    refine wpAnyH_take (i := 6) (oi := _) (v := ?_) rfl (by kernel_rfl) (by kernel_rfl) (by kernel_rfl) (fun _ _ _ h => h) (Or.inl ⟨by rfl, ?_⟩) (by assumption) ?_
                    rotate_left
                    focus (intro wS hSw; (try dsimp only at hSw); go_simp; (try with_reducible rfl))
                    try simp only [Act.put, List.getElem_toArray, List.getElem_cons_zero, List.getElem_cons_succ, List.setIfInBounds_toArray, List.set_cons_zero, List.set_cons_succ]
                    refine wpAnyH_take (i := 7) (oi := _) (v := ?_) rfl (by kernel_rfl) (by kernel_rfl) (by kernel_rfl) (fun _ _ _ h => h) (Or.inl ⟨by rfl, ?_⟩) (by assumption) ?_
                    rotate_left
                    focus (intro wS hSw; (try dsimp only at hSw); go_simp; (try with_reducible rfl))
                    try simp only [Act.put, List.getElem_toArray, List.getElem_cons_zero, List.getElem_cons_succ, List.setIfInBounds_toArray, List.set_cons_zero, List.set_cons_succ]
                    refine wpAnyH_take (i := 8) (oi := _) (v := ?_) rfl (by kernel_rfl) (by kernel_rfl) (by kernel_rfl) (fun _ _ _ h => h) (Or.inl ⟨by rfl, ?_⟩) (by assumption) ?_
                    rotate_left
                    focus (intro wS hSw; (try dsimp only at hSw); go_simp; (try with_reducible rfl))
                    try simp only [Act.put, List.getElem_toArray, List.getElem_cons_zero, List.getElem_cons_succ, List.setIfInBounds_toArray, List.set_cons_zero, List.set_cons_succ]
                    refine wpAnyH_done (by kernel_rfl) ?_ _
                    try clear hHeld
                    by_cases hvu : v < u
                    · skip
                      have HBN := hid (show q = amax rs (q + 1) from by simp only [amax]; rw [← HG.out, HUV.out.1, HUV.out.2, if_pos hvu])
                      go_wp2_with fail
                      go_roundw
                      case rel => exact ⟨q + 1, _, by omega, HBN.out, by omega, by go_num, by first | rfl | go_num, H69.out⟩
                      case measure => first | (simp [intOf]; omega) | (simp [intOf]; done)
                    · skip
                      have HBN := hid (show g = amax rs (q + 1) from by simp only [amax]; rw [← HG.out, HUV.out.1, HUV.out.2, if_neg hvu])
                      go_wp2_with fail
                      go_roundw
                      case rel => exact ⟨q + 1, _, by omega, HBN.out, by omega, by go_num, by first | rfl | go_num, H69.out⟩
                      case measure => first | (simp [intOf]; omega) | (simp [intOf]; done)
                  · skip
                    have hqn' : ¬ ((q : Int) < N) := by omega
                    have HGM := hid (show g = amax rs rs.length from by rw [HRL.out, HG.out, show q = N by omega])
                    go_upto_region 21 with fail
                    obtain ⟨u, hu⟩ : ∃ u, ws.getD g 0 = u := ⟨_, rfl⟩
                    obtain ⟨ub1, ub2, -, -⟩ := HGO.out.bd HI.out g
                    rw [hu] at ub1 ub2
                    obtain ⟨s3, s4⟩ := H68.out.get 0 rfl (j := g) (by rw [HWL.out]; exact hgn)
                    rw [hu] at s3
                    have HU := hid hu
                    clear hu
                    go_upto_region 22 with fail
                    have H71 := hid (show St B W [.own (.slice (some ⟨DA, 0, none⟩) N N) (ws.set g (u + 1)), .own (.slice (some ⟨DB, 0, none⟩) N N) rs] [] (u67.setCell ⟨DA, g, none⟩ (.int .i64 (u + 1))) from (H68.out.store 0 rfl g (u + 1)))
                    first | refine gen_code H71.out ?_ | refine gen_list H71.out ?_ | refine gen_calls H71.out ?_
                    intro w72 hG
                    clear H71
                    have H71 := hid hG
                    clear hG
                    clear s3 s4
                    obtain ⟨s3, s4⟩ := H71.out.get 1 rfl (j := g) (by rw [HRL.out]; exact hgn)
                    go_upto_region 14 with fail
                    have H73 := hid (show St B W [.own (.slice (some ⟨DA, 0, none⟩) N N) (ws.set g (u + 1)), .own (.slice (some ⟨DB, 0, none⟩) N N) (rs.set g (-1))] [] (w72.setCell ⟨DB, g, none⟩ (.int .i64 (-1))) from (H71.out.store 1 rfl g (-1)))
                    first | refine gen_code H73.out ?_ | refine gen_list H73.out ?_ | refine gen_calls H73.out ?_
                    intro w74 hG
                    clear H73
                    have H73 := hid hG
                    clear hG
                    go_wp2_with fail
                    go_roundw
                    case rel => exact ⟨k + 1, _, _, _, HGO.out.next HGM.out HU.out, by have := HMI.out; omega, fun _ => by omega, rfl, H73.out.pick [0, 1] rfl (by decide)⟩
                    case measure => first | (simp [intOf]; omega) | (simp [intOf]; done)
              · skip
                have HKK := hid (show k = M0.toNat from by have h1 := HMI.out; by_cases q : 0 < k; have := HKM.out q; omega; omega)
                go_wp2_with fail
                go_ret
                exact ⟨_, rfl, by rw [hB, show dvW total n l = ws from by unfold dvW; rw [HM0.out, ← HKK.out, ← HGO.out.eq]]; exact H66.out.own 0 rfl, by first | exact H66.out.below | exact H66.out.below'⟩
end Go.Proofs.Ytaefdkinpaonkaa
