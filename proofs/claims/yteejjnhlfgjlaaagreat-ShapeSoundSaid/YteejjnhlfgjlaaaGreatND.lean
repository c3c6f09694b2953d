/-
 The result of a stage that is accepted: the plain law of ShapeSound. Contract: the reference's stage: what is accepted answers a valid plane of the shape.
-/
import Derived.Test.YteejjnhlfgjlaaaGreatEA
import Derived.Test.YteejjnhlfgjlaaaGreatPwCk
import Derived.Test.YteejjnhlfgjlaaaGreatRzChk
import Derived.Test.YteejjnhlfgjlaaaGreatHA
import Derived.Test.YteejjnhlfgjlaaaGreatKE
import Derived.Test.YteejjnhlfgjlaaaGreatShp5
import Derived.Test.YteejjnhlfgjlaaaGreatCvQTile
import Derived.Test.YteejjnhlfgjlaaaGreatSpQTile
import Derived.Test.YteejjnhlfgjlaaaGreatRzQTile
import Derived.Test.YteejjnhlfgjlaaaGreatPwQTile
import Derived.Test.YteejjnhlfgjlaaaGreatKH
namespace Go.Proofs.YteejjnhlfgjlaaaGreat
section
open Go.RowKit
set_option linter.unusedVariables false

theorem rG_ok {F : Int → Int → Int} {w h out : Int} (hp : pOk w h out = true) (hF : ∀ x y, 0 ≤ F x y ∧ F x y ≤ out) : pValid w h out (rG F 0 0 w h) = true := by
 obtain ⟨p1, p2, p3, p4, p5, p6, p7⟩ := pOk_iff.1 hp; refine pValid_iff.2 ⟨hp, ?_, ?_⟩
 ·
  rw [rG_len, Int.natCast_mul, Int.toNat_of_nonneg (by omega), Int.toNat_of_nonneg (by omega), Int.sub_zero, Int.sub_zero, Int.mul_comm]
 unfold rG
 exact (gridL_all _ _ _).2 fun a _ b _ => hF _ _
theorem rIs_all {w h : Int} (hw : 1 ≤ w) (hw' : w ≤ 128) (hh : 1 ≤ h) (hh' : h ≤ 128) : rIs 0 0 w h w h = true := (rIs_iff hw hw' hh hh').2 (by omega)
theorem pOk_max {w h m out : Int} (h1 : pOk w h m = true) (h2 : valOk out = true) : pOk w h out = true := by
 obtain ⟨p1, p2, p3, p4, p5, p6, p7⟩ := pOk_iff.1 h1; obtain ⟨q1, q2⟩ := valOk_iff'.1 h2; exact pOk_iff.2 ⟨p1, p2, p3, p4, p5, q1, q2⟩
theorem snd_cv {w h mx : Int} {zs : List Int} {p f kw kh : Int} {ws : List Int} {sh out : Int} (hv : pValid w h mx zs = true) (hb : bValid p f mx = true) (hc : cvCode mx kw kh ws sh out = 0) :
  cvTC w h mx zs p f kw kh ws sh out 0 0 w h = 0 ∧ pValid w h out (cvL w h zs p f kw kh ws sh out 0 0 w h) = true := by
 have hp := (pValid_iff.1 hv).1; obtain ⟨p1, p2, p3, p4, p5, p6, p7⟩ := pOk_iff.1 hp
 have ho : valOk out = true := by
  unfold cvCode at hc
  split at hc
  ·
   omega
  split at hc
  ·
   omega
  split at hc
  ·
   omega
  rename_i h3; exact Decidable.byContradiction fun hn => h3 fun hq => hn hq.2
 refine ⟨?_, rG_ok (pOk_max hp ho) fun x y => clV_bd (by have := valOk_iff'.1 ho; omega)⟩
 unfold cvTC
 rw [if_neg (by rw [hv, hb]; simp), if_neg (by rw [hc]; simp), if_neg (by rw [rIs_all p1 p2 p3 p4]; simp)]
theorem snd_sp {w h mx : Int} {zs : List Int} {p f : Int} {row col : List Int} {sh sh2 out : Int} (hv : pValid w h mx zs = true) (hb : bValid p f mx = true) (hc : spCode mx row col sh sh2 out = 0) :
  spTC w h mx zs p f row col sh sh2 out 0 0 w h = 0 ∧ pValid w h out (spL w h zs p f row col sh sh2 out 0 0 w h) = true := by
 have hp := (pValid_iff.1 hv).1; obtain ⟨p1, p2, p3, p4, p5, p6, p7⟩ := pOk_iff.1 hp
 have ho : valOk out = true := by
  unfold spCode at hc
  split at hc
  ·
   omega
  split at hc
  ·
   omega
  split at hc
  ·
   omega
  rename_i h3; exact Decidable.byContradiction fun hn => h3 fun hq => hn hq.2
 refine ⟨?_, rG_ok (pOk_max hp ho) fun x y => clV_bd (by have := valOk_iff'.1 ho; omega)⟩
 unfold spTC
 rw [if_neg (by rw [hv, hb]; simp), if_neg (by rw [hc]; simp), if_neg (by rw [rIs_all p1 p2 p3 p4]; simp)]
theorem snd_rz {w h mx : Int} {zs : List Int} {p f : Int} {X Y : Tbl} {sh sh2 out : Int} (hv : pValid w h mx zs = true) (hb : bValid p f mx = true) (hc : rzCode w h mx X Y sh sh2 out = 0) :
  rzTC w h mx zs p f X Y sh sh2 out 0 0 (X.length : Int) (Y.length : Int) = 0 ∧ pValid (X.length : Int) (Y.length : Int) out (rzL w h zs p f X Y sh sh2 out 0 0 (X.length : Int) (Y.length : Int)) = true := by
 have hc0 := hc
 unfold rzCode at hc
 split at hc
 ·
  omega
 rename_i h1
 split at hc
 ·
  omega
 rename_i h2
 split at hc
 ·
  omega
 rename_i h3
 split at hc
 ·
  omega
 split at hc
 ·
  omega
 rename_i h5; have h1' : tvCode X w = 0 := Decidable.byContradiction h1; have h2' : tvCode Y h = 0 := Decidable.byContradiction h2; have ho : valOk out = true := Decidable.byContradiction fun hn => h5 fun hq => hn hq.2
 obtain ⟨x1, x2, _⟩ := tv_pos h1'; obtain ⟨y1, y2, _⟩ := tv_pos h2'
 have hp : pOk (X.length : Int) (Y.length : Int) out = true := by
  obtain ⟨q1, q2⟩ := valOk_iff'.1 ho; exact pOk_iff.2 ⟨by omega, by omega, by omega, by omega, by omega, q1, q2⟩
 refine ⟨?_, rG_ok hp fun x y => clV_bd (by have := valOk_iff'.1 ho; omega)⟩
 unfold rzTC
 rw [if_neg (by rw [hv, hb]; simp), if_neg (by rw [hc0]; simp), if_neg (by rw [rIs_all (by omega) (by omega) (by omega) (by omega)]; simp)]
theorem snd_pw {w h mx : Int} {zs : List Int} {qw qh qmx : Int} {qs : List Int} {two : Bool} {ol : List (Int × Int)} {out : Int} (hv : pValid w h mx zs = true) (hq : two = true → pValid qw qh qmx qs = true) (hc : shPn ol two w h mx qw qh qmx out = 0) :
  pwTC w h mx zs qw qh qmx qs two ol out 0 0 w h = 0 ∧ pValid w h out (pwL w zs two qs ol out 0 0 w h) = true := by
 have hp := (pValid_iff.1 hv).1; obtain ⟨p1, p2, p3, p4, p5, p6, p7⟩ := pOk_iff.1 hp
 unfold shPn at hc
 split at hc
 ·
  rename_i h1; exact absurd hc h1
 rename_i h1
 split at hc
 ·
  omega
 rename_i h2
 split at hc
 ·
  rename_i h3; exact absurd hc h3
 rename_i h3
 split at hc
 ·
  omega
 rename_i h4; have ho : valOk out = true := Decidable.byContradiction h2; refine ⟨?_, rG_ok (pOk_max hp ho) fun x y => clV_bd (by have := valOk_iff'.1 ho; omega)⟩
 unfold pwTC
 rw [if_neg (by rw [hv]; exact fun hn => hn ⟨rfl, hq⟩), if_neg h1, if_neg h2, if_neg h3, if_neg (by
  rintro (h5 | h5)
  ·
   exact h4 h5
  exact h5 (rIs_all p1 p2 p3 p4))]
theorem snd_hist {w h mx : Int} {zs : List Int} {bins : Int} (hv : pValid w h mx zs = true) (hb : 1 ≤ bins ∧ bins ≤ 128) :
  hwCode w h mx zs bins = 0 ∧ pValid bins 1 (w * h) (hList w h mx zs bins 0 0 w h) = true := by
 have hp := (pValid_iff.1 hv).1; obtain ⟨p1, p2, p3, p4, p5, p6, p7⟩ := pOk_iff.1 hp; have hin := (inside_iff (w := w) (h := h) (r0 := 0) (r1 := 0) (r2 := w) (r3 := h) p1 p2 p3 p4).2 (by omega)
 have hk : hOk w h mx zs bins 0 0 w h = 0 := by
  unfold hOk
  rw [if_neg (by rw [hv]; simp), if_neg (by omega), if_neg (by rw [hin]; simp)]
 refine ⟨hk, ?_⟩
 unfold hList
 rw [if_pos hk]; have hC := Cnt.rows (hG w mx bins 0 0 zs) (w - 0).toNat bins.toNat (h - 0).toNat; have hwh : 1 ≤ w * h := Int.mul_le_mul p1 p3 (by omega) (by omega)
 have hm : (((h - 0).toNat * (w - 0).toNat : Nat) : Int) = w * h := by
  rw [Int.natCast_mul, Int.toNat_of_nonneg (by omega), Int.toNat_of_nonneg (by omega), Int.sub_zero, Int.sub_zero, Int.mul_comm]
 refine pValid_iff.2 ⟨pOk_iff.2 ⟨hb.1, hb.2, by omega, by omega, by omega, hwh, by omega⟩, by rw [hC.len]; omega, fun v hv' => ?_⟩; obtain ⟨i, hi, rfl⟩ := List.getElem_of_mem hv'; have := hC.bd i; rw [List.getD_eq_getElem?_getD, List.getElem?_eq_getElem hi, Option.getD_some, hm] at this; exact this
theorem snd_int {w h mx : Int} {zs : List Int} (hv : pValid w h mx zs = true) (hi : iOk w h mx = true) :
  tCode w h mx zs 0 0 w h (List.replicate h.toNat 0) (List.replicate w.toNat 0) 0 = 0 ∧ pValid w h (w * h * mx) (tList w h mx zs 0 0 w h (List.replicate h.toNat 0) (List.replicate w.toNat 0) 0) = true := by
 have hp := (pValid_iff.1 hv).1; obtain ⟨p1, p2, p3, p4, p5, p6, p7⟩ := pOk_iff.1 hp; obtain ⟨i1, i2, i3, i4, i5⟩ := iOk_iff.1 hi; have e1 : h = (h.toNat : Int) := (Int.toNat_of_nonneg (by omega)).symm; have e2 : w = (w.toNat : Int) := (Int.toNat_of_nonneg (by omega)).symm; have hk := whole_code hv hi h.toNat w.toNat e1 e2; refine ⟨hk, ?_⟩
 unfold tList
 rw [if_pos hk, whole_all hv _ _ e1 e2]; have hwh : 1 ≤ w * h := Int.mul_le_mul p1 p3 (by omega) (by omega); have hwm : 1 ≤ w * h * mx := Int.mul_le_mul hwh p6 (by omega) (by omega); refine pValid_iff.2 ⟨pOk_iff.2 ⟨p1, p2, p3, p4, p5, hwm, i5⟩, ?_, ?_⟩
 ·
  rw [gridL_len, Nat.add_zero, Int.natCast_mul, ← e1, ← e2, Int.mul_comm]
 refine (gridL_all _ _ _).2 fun a ha b hb => whole_in hv (by omega) (by omega)
theorem shCode_zero {sf : Bool} {kd sb ep ef kw kh : Int} {wl rl cl : List Int} {sh sh2 : Int} {X Y : Tbl} {bins : Int} {ol : List (Int × Int)} {mx aw ah am bw bh bm : Int} (h : shCode sf kd sb ep ef kw kh wl rl cl sh sh2 X Y bins ol mx aw ah am bw bh bm = 0) :
  sf = true ∧ (kd ≤ 3 → bValid ep ef am = true) ∧ shCk kd sb kw kh wl rl cl sh sh2 X Y bins ol mx aw ah am bw bh bm = 0 := by
 unfold shCode at h
 split at h
 ·
  omega
 rename_i h1
 split at h
 ·
  omega
 split at h
 ·
  omega
 rename_i h3; refine ⟨by simpa using h1, fun hk => ?_, h⟩; cases hb : bValid ep ef am
 ·
  exact absurd ⟨hk, hb⟩ h3
 rfl
theorem iCode_zero {w h mx : Int} (hc : iCode w h mx = 0) : iOk w h mx = true := by
 unfold iCode at hc
 split at hc
 ·
  assumption
 omega
/-! ## what a stage that is accepted answers -/
def SPost (tw th tm : Int) (W : World) (e : Ending) (w' : World) : Prop :=
 ∃ v L, e = .returned (.tuple #[.agg #[.int .i64 tw, .int .i64 th, .int .i64 tm, v], .int .i64 0]) ∧ pValid tw th tm L = true ∧ Own W.heap.size w' v L ∧ Below W.heap.size W w'
theorem TPost.snd {c dx dy out tw th : Int} {l : List Int} {W w' : World} {e : Ending} (h : TPost c dx dy out l W e w') (h0 : c = 0 ∧ pValid tw th out l = true) (hx : dx = tw) (hy : dy = th) : SPost tw th out W e w' := by
 obtain ⟨v, he, ho, hb⟩ := h; obtain ⟨rfl, hv⟩ := h0; subst hx hy
 unfold tL at ho; rw [if_pos rfl] at ho
 exact ⟨v, l, by rw [he]; unfold tI; rw [if_pos rfl, if_pos rfl, if_pos rfl], hv, ho, hb⟩
theorem WholePost.snd {w h mx : Int} {zs : List Int} {bins : Int} {W w' : World} {e : Ending} (hp : WholePost w h mx zs bins W e w') (h0 : hwCode w h mx zs bins = 0 ∧ pValid bins 1 (w * h) (hList w h mx zs bins 0 0 w h) = true) : SPost bins 1 (w * h) W e w' := by
 obtain ⟨v, he, ho, hb⟩ := hp; have hi : ∀ x, hwIf w h mx zs bins x = x := fun x => by unfold hwIf; rw [if_pos h0.1]
 exact ⟨v, _, by rw [he, hi, hi, hi, h0.1], h0.2, ho, hb⟩
theorem TilePost.snd {w h mx : Int} {zs left top : List Int} {W w' : World} {e : Ending} (hp : TilePost w h mx zs 0 0 w h left top 0 W e w') (h0 : tCode w h mx zs 0 0 w h left top 0 = 0 ∧ pValid w h (w * h * mx) (tList w h mx zs 0 0 w h left top 0) = true) : SPost w h (w * h * mx) W e w' := by
 obtain ⟨v, he, ho, hb⟩ := hp; have hi : ∀ x, tIf w h mx zs 0 0 w h left top 0 x = x := fun x => by unfold tIf; rw [if_pos h0.1]
 exact ⟨v, _, by rw [he, hi, hi, hi, h0.1, Int.sub_zero, Int.sub_zero], h0.2, ho, hb⟩
end

section
open Go.RowKit
attribute [local go_sem ↓] Go.wp_at_zero Go.wp_at_succ
set_option linter.unusedVariables false
set_option linter.unusedSimpArgs false

set_option maxRecDepth 100000 in
set_option maxHeartbeats 1600000 in
theorem of17_any (w h mx : Int) (a : Option Addr) (n c : Nat) (W : World) : Calls Tryz.prog 8 #[.agg #[.int .i64 w, .int .i64 h, .int .i64 mx, .slice a n c]] W fun e w' => e = .returned (.agg #[.int .i64 w, .int .i64 h, .int .i64 mx]) ∧ Below W.heap.size W w' := by
 obtain ⟨B, hB⟩ : ∃ B, W.heap.size = B := ⟨_, rfl⟩; have HI0 := kq (St.init hB)
 go_enter Tryz.func8, Tryz.ntmps8
 go_upto_region 1 with fail
 have H64 := kq (show St _ _ (.cells (B + 1) _ _ :: .cells B _ _ :: _) _ _ from ((HI0.o.alloc #[.int .i64 w, .int .i64 h, .int .i64 mx, .slice a n c] 26 hB).alloc #[.int .i64 0, .int .i64 0, .int .i64 0] 37 (by first | exact hB | simp [hB]))); first | refine gK H64 ?_ | refine gL H64 ?_ | refine gC H64 ?_
 clear H64; intro w1 H64; have z1 := H64.o.c4 1 rfl; have z5 := H64.o.f3 0 rfl; go_wp2_with fail
 clear z1 z5; have H1 := kq (show St _ _ (.cells (B + 1) #[.int .i64 w, .int .i64 h, .int .i64 mx] 37 :: _) _ _ from (((H64.o.set 0 rfl 0 (.int .i64 w)).set 0 rfl 1 (.int .i64 h)).set 0 rfl 2 (.int .i64 mx))); obtain ⟨q1, q2, q3⟩ := H1.o.c3 0 rfl; refine bodyPost_ret (v := .agg #[.int .i64 w, .int .i64 h, .int .i64 mx]) ?_ rfl ⟨rfl, H1.o.bl⟩; simp [results, Tryz.results8, go_sem, q1, q2, q3]

set_option maxRecDepth 100000 in
set_option maxHeartbeats 6400000 in
theorem rpart_any {kd sa sb : Int} {bar : Bool} {ep ef kw kh : Int} {wa : Option Addr} {wn wc : Nat} {ra : Option Addr} {rn rc : Nat} {ca : Option Addr} {cn cc : Nat} {sh sh2 : Int} {xa : Option Addr} {xn xc : Nat} {ya : Option Addr} {yn yc : Nat} {bins : Int} {oa : Option Addr} {on oc : Nat} {mx : Int} {A : Array Value} (hA : A = #[.int .i64 kd, .int .i64 sa, .int .i64 sb, .bool bar, .int .i64 ep, .int .i64 ef, .int .i64 kw, .int .i64 kh, .slice wa wn wc, .slice ra rn rc, .slice ca cn cc, .int .i64 sh, .int .i64 sh2, .slice xa xn xc, .slice ya yn yc, .int .i64 bins, .slice oa on oc, .int .i64 mx]) (wl rl cl : List Int) (X Y : Tbl) (ol : List (Int × Int)) (aw ah am : Int) (pa : Option Addr) (pn pc : Nat) (zs : List Int) (bw bh bm : Int) (qa : Option Addr) (qn qc : Nat) (qs : List Int) (tw th : Int) (W : World) (hw : Slc W wa wn wc wl) (hr : Slc W ra rn rc rl) (hc : Slc W ca cn cc cl) (hx : Tps W xa xn xc X) (hy : Tps W ya yn yc Y) (ho : Prs W oa on oc ol) (hs : Slc W pa pn pc zs) (hq : Slc W qa qn qc qs) (hv : pValid aw ah am zs = true) (hb : kd ≤ 3 → bValid ep ef am = true) (hqv : shTwo kd sb = true → pValid bw bh bm qs = true) (hck : shCk kd sb kw kh wl rl cl sh sh2 X Y bins ol mx aw ah am bw bh bm = 0) (hk : 1 ≤ kd ∧ kd ≤ 6 ∧ ¬ kd = 4 ∧ ¬ kd = 5) (htw : tw = shW kd xn bins aw) (hth : th = shH kd yn ah) : Calls Tryz.prog 31 #[.agg A, .agg #[.int .i64 aw, .int .i64 ah, .int .i64 am, .slice pa pn pc], .agg #[.int .i64 bw, .int .i64 bh, .int .i64 bm, .slice qa qn qc], .agg #[.int .i64 0, .int .i64 0, .int .i64 tw, .int .i64 th]] W (SPost tw th mx W) := by
 have HA := kq hA; clear hA; have HWL := kq hw; have HRL := kq hr; have HCL := kq hc; have HX := kq hx; have HY := kq hy; have HO := kq ho; clear hw hr hc hx hy ho; have HS := kq hs; have HQ := kq hq; have HV := kq hv; clear hs hq hv; have HBV := kq hb; have HQV := kq hqv; have HCK := kq hck; have HTW := kq htw; have HTH := kq hth; obtain ⟨k1, k2, k4, k5⟩ := hk; have HK4 := kq k4; have HK5 := kq k5; clear hb hqv hck htw hth k4 k5; obtain ⟨B, hB⟩ : ∃ B, W.heap.size = B := ⟨_, rfl⟩; have HI0 := kq (St.init hB)
 go_enter Tryz.func31, Tryz.ntmps31
 go_upto_region 1 with fail
 have H1 := kq (show St _ _ (.cells (B + 1 + 1 + 1 + 1) _ _ :: .cells (B + 1 + 1 + 1) _ _ :: .cells (B + 1 + 1) _ _ :: .cells (B + 1) _ _ :: .cells B _ _ :: _) _ _ from (((((HI0.o.alloc A 34 hB).alloc #[.int .i64 aw, .int .i64 ah, .int .i64 am, .slice pa pn pc] 26 (by first | exact hB | simp [hB])).alloc #[.int .i64 bw, .int .i64 bh, .int .i64 bm, .slice qa qn qc] 26 (by first | exact hB | simp [hB])).alloc #[.int .i64 0, .int .i64 0, .int .i64 tw, .int .i64 th] 70 (by first | exact hB | simp [hB])).alloc #[.int .i64 0, .int .i64 0, .int .i64 0, .slice none 0 0] 26 (by first | exact hB | simp [hB]))); first | refine gK H1 ?_ | refine gL H1 ?_ | refine gC H1 ?_
 clear H1; intro w1 H1
 rcases eqZ kd 1 with ⟨c1a, c1b, c1c, c1d, c1h⟩ | ⟨c1a, c1b, c1h⟩
 ·
  have z1 := H1.o.c4 3 rfl; have z5 := H1.o.c4 1 rfl; have z9 := H1.o.cell 4 rfl 0 (show A[0]? = some (.int .i64 kd) from by rw [HA.o]; rfl); have z10 := H1.o.cell 4 rfl 4 (show A[4]? = some (.int .i64 ep) from by rw [HA.o]; rfl); have z11 := H1.o.cell 4 rfl 5 (show A[5]? = some (.int .i64 ef) from by rw [HA.o]; rfl); have z12 := H1.o.cell 4 rfl 6 (show A[6]? = some (.int .i64 kw) from by rw [HA.o]; rfl); have z13 := H1.o.cell 4 rfl 7 (show A[7]? = some (.int .i64 kh) from by rw [HA.o]; rfl); have z14 := H1.o.cell 4 rfl 8 (show A[8]? = some (.slice wa wn wc) from by rw [HA.o]; rfl); have z15 := H1.o.cell 4 rfl 11 (show A[11]? = some (.int .i64 sh) from by rw [HA.o]; rfl); have z16 := H1.o.cell 4 rfl 17 (show A[17]? = some (.int .i64 mx) from by rw [HA.o]; rfl); go_wp2_with fail
  clear z1 z5 z9 z10 z11 z12 z13 z14 z15 z16; have hck := (show cvCode am kw kh wl sh mx = 0 from by have h9 := HCK.o; unfold shCk at h9; rw [if_pos (by have := HK4.o; have := HK5.o; have := c1h.o; omega)] at h9; exact h9); have htw := (show tw = aw from by rw [HTW.o]; unfold shW; rw [if_neg (by have := HK4.o; have := HK5.o; have := c1h.o; omega), if_neg (by have := HK4.o; have := HK5.o; have := c1h.o; omega)]); have hth := (show th = ah from by rw [HTH.o]; unfold shH; rw [if_neg (by have := HK4.o; have := HK5.o; have := c1h.o; omega), if_neg (by have := HK4.o; have := HK5.o; have := c1h.o; omega)]); refine ((rctile_any aw ah am pa pn pc zs ep ef kw kh wa wn wc wl sh mx 0 0 tw th _ (H1.o.old HS.o) (H1.o.old HWL.o)).mono fun _ _ hp => hp.snd (by rw [htw, hth]; exact snd_cv HV.o (HBV.o (by have := HK4.o; have := HK5.o; have := c1h.o; omega)) hck) (Int.sub_zero _) (Int.sub_zero _)).mono ?_; rintro e w2 ⟨v1, L1, rfl, hpv, ho, hb⟩; have HPVL1 := kq hpv; have H2 := kq (H1.o.grow hb ho); obtain ⟨v1a, v1c, rfl, _⟩ := ho.slc; clear ho hb hpv; clear hck htw hth; have z1 := H2.o.f3 1 rfl; have z7 := H2.o.cell 1 rfl 3 rfl; have z8 := H2.o.free 1 rfl 3; go_wp2_with fail
  clear z1 z7 z8; have H3 := kq (show St B W [.own (.slice v1a L1.length v1c) L1, .cells (B + 1 + 1 + 1 + 1) #[.int .i64 tw, .int .i64 th, .int .i64 mx, .slice v1a L1.length v1c] 26, .cells (B + 1 + 1 + 1) #[.int .i64 0, .int .i64 0, .int .i64 tw, .int .i64 th] 70, .cells (B + 1 + 1) #[.int .i64 bw, .int .i64 bh, .int .i64 bm, .slice qa qn qc] 26, .cells (B + 1) #[.int .i64 aw, .int .i64 ah, .int .i64 am, .slice pa pn pc] 26, .cells B A 34] [] ((((w2.setCell ⟨B + 1 + 1 + 1 + 1, 0, none⟩ (.int .i64 tw)).setCell ⟨B + 1 + 1 + 1 + 1, 1, none⟩ (.int .i64 th)).setCell ⟨B + 1 + 1 + 1 + 1, 2, none⟩ (.int .i64 mx)).setCell ⟨B + 1 + 1 + 1 + 1, 3, none⟩ (.slice v1a L1.length v1c)) from (H2.o.set4 1 rfl (.int .i64 tw) (.int .i64 th) (.int .i64 mx) (.slice v1a L1.length v1c))); obtain ⟨q1, q2, q3, q4⟩ := H3.o.c4 1 rfl; refine bodyPost_ret (v := .tuple #[.agg #[.int .i64 tw, .int .i64 th, .int .i64 mx, .slice v1a L1.length v1c], .int .i64 0]) ?_ rfl ⟨_, L1, rfl, HPVL1.o, by rw [hB]; exact H3.o.own 0 rfl, H3.o.bl⟩; simp [results, Tryz.results31, go_sem, q1, q2, q3, q4]
 rcases eqZ kd 2 with ⟨c2a, c2b, c2c, c2d, c2h⟩ | ⟨c2a, c2b, c2h⟩
 ·
  have z1 := H1.o.c4 3 rfl; have z5 := H1.o.c4 1 rfl; have z9 := H1.o.cell 4 rfl 0 (show A[0]? = some (.int .i64 kd) from by rw [HA.o]; rfl); have z10 := H1.o.cell 4 rfl 4 (show A[4]? = some (.int .i64 ep) from by rw [HA.o]; rfl); have z11 := H1.o.cell 4 rfl 5 (show A[5]? = some (.int .i64 ef) from by rw [HA.o]; rfl); have z128 := H1.o.cell 4 rfl 9 (show A[9]? = some (.slice ra rn rc) from by rw [HA.o]; rfl); have z12 := H1.o.cell 4 rfl 10 (show A[10]? = some (.slice ca cn cc) from by rw [HA.o]; rfl); have z13 := H1.o.cell 4 rfl 11 (show A[11]? = some (.int .i64 sh) from by rw [HA.o]; rfl); have z14 := H1.o.cell 4 rfl 12 (show A[12]? = some (.int .i64 sh2) from by rw [HA.o]; rfl); have z15 := H1.o.cell 4 rfl 17 (show A[17]? = some (.int .i64 mx) from by rw [HA.o]; rfl); go_wp2_with fail
  clear z1 z5 z9 z10 z11 z128 z12 z13 z14 z15; have hck := (show spCode am rl cl sh sh2 mx = 0 from by have h9 := HCK.o; unfold shCk at h9; rw [if_neg (by have := HK4.o; have := HK5.o; have := c1h.o; have := c2h.o; omega), if_pos (by have := HK4.o; have := HK5.o; have := c1h.o; have := c2h.o; omega)] at h9; exact h9); have htw := (show tw = aw from by rw [HTW.o]; unfold shW; rw [if_neg (by have := HK4.o; have := HK5.o; have := c1h.o; have := c2h.o; omega), if_neg (by have := HK4.o; have := HK5.o; have := c1h.o; have := c2h.o; omega)]); have hth := (show th = ah from by rw [HTH.o]; unfold shH; rw [if_neg (by have := HK4.o; have := HK5.o; have := c1h.o; have := c2h.o; omega), if_neg (by have := HK4.o; have := HK5.o; have := c1h.o; have := c2h.o; omega)]); refine ((rstile_any aw ah am pa pn pc zs ep ef ra rn rc rl ca cn cc cl sh sh2 mx 0 0 tw th _ (H1.o.old HS.o) (H1.o.old HRL.o) (H1.o.old HCL.o)).mono fun _ _ hp => hp.snd (by rw [htw, hth]; exact snd_sp HV.o (HBV.o (by have := HK4.o; have := HK5.o; have := c1h.o; have := c2h.o; omega)) hck) (Int.sub_zero _) (Int.sub_zero _)).mono ?_; rintro e w2 ⟨v1, L1, rfl, hpv, ho, hb⟩; have HPVL1 := kq hpv; have H2 := kq (H1.o.grow hb ho); obtain ⟨v1a, v1c, rfl, _⟩ := ho.slc; clear ho hb hpv; clear hck htw hth; have z1 := H2.o.f3 1 rfl; have z7 := H2.o.cell 1 rfl 3 rfl; have z8 := H2.o.free 1 rfl 3; go_wp2_with fail
  clear z1 z7 z8; have H3 := kq (show St B W [.own (.slice v1a L1.length v1c) L1, .cells (B + 1 + 1 + 1 + 1) #[.int .i64 tw, .int .i64 th, .int .i64 mx, .slice v1a L1.length v1c] 26, .cells (B + 1 + 1 + 1) #[.int .i64 0, .int .i64 0, .int .i64 tw, .int .i64 th] 70, .cells (B + 1 + 1) #[.int .i64 bw, .int .i64 bh, .int .i64 bm, .slice qa qn qc] 26, .cells (B + 1) #[.int .i64 aw, .int .i64 ah, .int .i64 am, .slice pa pn pc] 26, .cells B A 34] [] ((((w2.setCell ⟨B + 1 + 1 + 1 + 1, 0, none⟩ (.int .i64 tw)).setCell ⟨B + 1 + 1 + 1 + 1, 1, none⟩ (.int .i64 th)).setCell ⟨B + 1 + 1 + 1 + 1, 2, none⟩ (.int .i64 mx)).setCell ⟨B + 1 + 1 + 1 + 1, 3, none⟩ (.slice v1a L1.length v1c)) from (H2.o.set4 1 rfl (.int .i64 tw) (.int .i64 th) (.int .i64 mx) (.slice v1a L1.length v1c))); obtain ⟨q1, q2, q3, q4⟩ := H3.o.c4 1 rfl; refine bodyPost_ret (v := .tuple #[.agg #[.int .i64 tw, .int .i64 th, .int .i64 mx, .slice v1a L1.length v1c], .int .i64 0]) ?_ rfl ⟨_, L1, rfl, HPVL1.o, by rw [hB]; exact H3.o.own 0 rfl, H3.o.bl⟩; simp [results, Tryz.results31, go_sem, q1, q2, q3, q4]
 rcases eqZ kd 3 with ⟨c3a, c3b, c3c, c3d, c3h⟩ | ⟨c3a, c3b, c3h⟩
 ·
  have z1 := H1.o.c4 3 rfl; have z5 := H1.o.c4 1 rfl; have z9 := H1.o.cell 4 rfl 0 (show A[0]? = some (.int .i64 kd) from by rw [HA.o]; rfl); have z10 := H1.o.cell 4 rfl 4 (show A[4]? = some (.int .i64 ep) from by rw [HA.o]; rfl); have z11 := H1.o.cell 4 rfl 5 (show A[5]? = some (.int .i64 ef) from by rw [HA.o]; rfl); have z12 := H1.o.cell 4 rfl 13 (show A[13]? = some (.slice xa xn xc) from by rw [HA.o]; rfl); have z13 := H1.o.cell 4 rfl 14 (show A[14]? = some (.slice ya yn yc) from by rw [HA.o]; rfl); have z14 := H1.o.cell 4 rfl 11 (show A[11]? = some (.int .i64 sh) from by rw [HA.o]; rfl); have z15 := H1.o.cell 4 rfl 12 (show A[12]? = some (.int .i64 sh2) from by rw [HA.o]; rfl); have z16 := H1.o.cell 4 rfl 17 (show A[17]? = some (.int .i64 mx) from by rw [HA.o]; rfl); go_wp2_with fail
  clear z1 z5 z9 z10 z11 z12 z13 z14 z15 z16; have hck := (show rzCode aw ah am X Y sh sh2 mx = 0 from by have h9 := HCK.o; unfold shCk at h9; rw [if_neg (by have := HK4.o; have := HK5.o; have := c1h.o; have := c2h.o; have := c3h.o; omega), if_neg (by have := HK4.o; have := HK5.o; have := c1h.o; have := c2h.o; have := c3h.o; omega), if_pos (by have := HK4.o; have := HK5.o; have := c1h.o; have := c2h.o; have := c3h.o; omega)] at h9; exact h9); have htw := (show tw = (X.length : Int) from by rw [HTW.o]; unfold shW; rw [if_pos (by have := HK4.o; have := HK5.o; have := c1h.o; have := c2h.o; have := c3h.o; omega), HX.o.len]); have hth := (show th = (Y.length : Int) from by rw [HTH.o]; unfold shH; rw [if_pos (by have := HK4.o; have := HK5.o; have := c1h.o; have := c2h.o; have := c3h.o; omega), HY.o.len]); refine ((rrztile_any aw ah am pa pn pc zs ep ef xa xn xc X ya yn yc Y sh sh2 mx 0 0 tw th _ (H1.o.old HS.o) (H1.o.oldTps HX.o) (H1.o.oldTps HY.o)).mono fun _ _ hp => hp.snd (by rw [htw, hth]; exact snd_rz HV.o (HBV.o (by have := HK4.o; have := HK5.o; have := c1h.o; have := c2h.o; have := c3h.o; omega)) hck) (Int.sub_zero _) (Int.sub_zero _)).mono ?_; rintro e w2 ⟨v1, L1, rfl, hpv, ho, hb⟩; have HPVL1 := kq hpv; have H2 := kq (H1.o.grow hb ho); obtain ⟨v1a, v1c, rfl, _⟩ := ho.slc; clear ho hb hpv; clear hck htw hth; have z1 := H2.o.f3 1 rfl; have z7 := H2.o.cell 1 rfl 3 rfl; have z8 := H2.o.free 1 rfl 3; go_wp2_with fail
  clear z1 z7 z8; have H3 := kq (show St B W [.own (.slice v1a L1.length v1c) L1, .cells (B + 1 + 1 + 1 + 1) #[.int .i64 tw, .int .i64 th, .int .i64 mx, .slice v1a L1.length v1c] 26, .cells (B + 1 + 1 + 1) #[.int .i64 0, .int .i64 0, .int .i64 tw, .int .i64 th] 70, .cells (B + 1 + 1) #[.int .i64 bw, .int .i64 bh, .int .i64 bm, .slice qa qn qc] 26, .cells (B + 1) #[.int .i64 aw, .int .i64 ah, .int .i64 am, .slice pa pn pc] 26, .cells B A 34] [] ((((w2.setCell ⟨B + 1 + 1 + 1 + 1, 0, none⟩ (.int .i64 tw)).setCell ⟨B + 1 + 1 + 1 + 1, 1, none⟩ (.int .i64 th)).setCell ⟨B + 1 + 1 + 1 + 1, 2, none⟩ (.int .i64 mx)).setCell ⟨B + 1 + 1 + 1 + 1, 3, none⟩ (.slice v1a L1.length v1c)) from (H2.o.set4 1 rfl (.int .i64 tw) (.int .i64 th) (.int .i64 mx) (.slice v1a L1.length v1c))); obtain ⟨q1, q2, q3, q4⟩ := H3.o.c4 1 rfl; refine bodyPost_ret (v := .tuple #[.agg #[.int .i64 tw, .int .i64 th, .int .i64 mx, .slice v1a L1.length v1c], .int .i64 0]) ?_ rfl ⟨_, L1, rfl, HPVL1.o, by rw [hB]; exact H3.o.own 0 rfl, H3.o.bl⟩; simp [results, Tryz.results31, go_sem, q1, q2, q3, q4]
 have z1 := H1.o.cell 4 rfl 0 (show A[0]? = some (.int .i64 kd) from by rw [HA.o]; rfl); go_upto_region 8 with fail
 clear z1; have H2 := kq H1.o.drew; refine wp_region_held_drew (S := (fun w' => w'.cell? ⟨B + 1, 0, none⟩ = some (.int .i64 aw) ∧ w'.cell? ⟨B + 1, 1, none⟩ = some (.int .i64 ah) ∧ w'.cell? ⟨B + 1, 2, none⟩ = some (.int .i64 am) ∧ w'.cell? ⟨B + 1, 3, none⟩ = some (.slice pa pn pc) ∧ w'.cell? ⟨B + 1 + 1, 0, none⟩ = some (.int .i64 bw) ∧ w'.cell? ⟨B + 1 + 1, 1, none⟩ = some (.int .i64 bh) ∧ w'.cell? ⟨B + 1 + 1, 2, none⟩ = some (.int .i64 bm) ∧ w'.cell? ⟨B + 1 + 1, 3, none⟩ = some (.slice qa qn qc) ∧ w'.cell? ⟨B + 1 + 1 + 1, 0, none⟩ = some (.int .i64 0) ∧ w'.cell? ⟨B + 1 + 1 + 1, 1, none⟩ = some (.int .i64 0) ∧ w'.cell? ⟨B + 1 + 1 + 1, 2, none⟩ = some (.int .i64 tw) ∧ w'.cell? ⟨B + 1 + 1 + 1, 3, none⟩ = some (.int .i64 th) ∧ (Instr.loadAt 34 (.pointer (some ⟨B, 0, none⟩))).run Tryz.prog w' = .ok (.agg A) w' ∧ w'.cell? ⟨B, 16, none⟩ = some (.slice oa on oc) ∧ w'.cell? ⟨B, 17, none⟩ = some (.int .i64 mx))) (by kernel_rfl) ⟨H2.o.cell 3 rfl 0 rfl, H2.o.cell 3 rfl 1 rfl, H2.o.cell 3 rfl 2 rfl, H2.o.cell 3 rfl 3 rfl, H2.o.cell 2 rfl 0 rfl, H2.o.cell 2 rfl 1 rfl, H2.o.cell 2 rfl 2 rfl, H2.o.cell 2 rfl 3 rfl, H2.o.cell 1 rfl 0 rfl, H2.o.cell 1 rfl 1 rfl, H2.o.cell 1 rfl 2 rfl, H2.o.cell 1 rfl 3 rfl, H2.o.loadStg 4 rfl (by rw [HA.o]; rfl), H2.o.cell 4 rfl 16 (show A[16]? = some (.slice oa on oc) from by rw [HA.o]; rfl), H2.o.cell 4 rfl 17 (show A[17]? = some (.int .i64 mx) from by rw [HA.o]; rfl)⟩ (fun hHeld => ?_); generalize w1.drew = k3 at *; refine tk 0 ?_; refine tk 1 ?_; refine tkA 2 (v := .agg A) ?_ (hy := fun wS hSw => loadExec hSw.2.2.2.2.2.2.2.2.2.2.2.2.1 (by rfl)); try simp only [pz]
 refine tk 4 ?_; refine tk 5 ?_; refine tk 6 ?_; refine tk 7 ?_; refine tk 8 ?_; refine rdy 3 fun K hK => ?_
 go_simp
 go_at_call 27
 refine (rtwo_any HA.o _).mono ?_; rintro e w1 ⟨rfl, hb⟩; have H1 := kq (H2.o.call hb); clear hb; obtain ⟨b1, HNb1⟩ := nQ (shTwo kd sb); rw [HNb1.o]; refine hK.out _ _ (by (try dsimp only); exact ⟨H1.o.cell 3 rfl 0 rfl, H1.o.cell 3 rfl 1 rfl, H1.o.cell 3 rfl 2 rfl, H1.o.cell 3 rfl 3 rfl, H1.o.cell 2 rfl 0 rfl, H1.o.cell 2 rfl 1 rfl, H1.o.cell 2 rfl 2 rfl, H1.o.cell 2 rfl 3 rfl, H1.o.cell 1 rfl 0 rfl, H1.o.cell 1 rfl 1 rfl, H1.o.cell 1 rfl 2 rfl, H1.o.cell 1 rfl 3 rfl, H1.o.loadStg 4 rfl (by rw [HA.o]; rfl), H1.o.cell 4 rfl 16 (show A[16]? = some (.slice oa on oc) from by rw [HA.o]; rfl), H1.o.cell 4 rfl 17 (show A[17]? = some (.int .i64 mx) from by rw [HA.o]; rfl)⟩) ?_; clear hK K hHeld; intro hHeld; try simp only [pz]
 refine rdy 9 fun K hK => ?_
 go_simp
 go_at_call 56
 have hck := (show shPn ol (shTwo kd sb) aw ah am bw bh bm mx = 0 from by have h9 := HCK.o; unfold shCk at h9; rw [if_neg (by have := HK4.o; have := HK5.o; have := c1h.o; have := c2h.o; have := c3h.o; omega), if_neg (by have := HK4.o; have := HK5.o; have := c1h.o; have := c2h.o; have := c3h.o; omega), if_neg (by have := HK4.o; have := HK5.o; have := c1h.o; have := c2h.o; have := c3h.o; omega), if_neg (by have := HK4.o; have := HK5.o; have := c1h.o; have := c2h.o; have := c3h.o; omega), if_neg (by have := HK4.o; have := HK5.o; have := c1h.o; have := c2h.o; have := c3h.o; omega)] at h9; exact h9); have htw := (show tw = aw from by rw [HTW.o]; unfold shW; rw [if_neg (by have := HK4.o; have := HK5.o; have := c1h.o; have := c2h.o; have := c3h.o; omega), if_neg (by have := HK4.o; have := HK5.o; have := c1h.o; have := c2h.o; have := c3h.o; omega)]); have hth := (show th = ah from by rw [HTH.o]; unfold shH; rw [if_neg (by have := HK4.o; have := HK5.o; have := c1h.o; have := c2h.o; have := c3h.o; omega), if_neg (by have := HK4.o; have := HK5.o; have := c1h.o; have := c2h.o; have := c3h.o; omega)]); rw [HNb1.o] at hck; refine ((rtile14 aw ah am pa pn pc zs bw bh bm qa qn qc qs b1 oa on oc ol mx 0 0 tw th _ (H1.o.old HS.o) (H1.o.old HQ.o) (H1.o.oldPrs HO.o)).mono fun _ _ hp => hp.snd (by rw [htw, hth]; exact snd_pw HV.o (fun h9 => HQV.o (HNb1.o.trans h9)) hck) (Int.sub_zero _) (Int.sub_zero _)).mono ?_; rintro e w1 ⟨v1, L1, rfl, hpv, ho, hb⟩; have HPVL1 := kq hpv; have H2 := kq (H1.o.grow hb ho); obtain ⟨v1a, v1c, rfl, _⟩ := ho.slc; clear ho hb hpv; clear hck htw hth; refine hK.out _ _ (by (try dsimp only); exact ⟨H2.o.cell 4 rfl 0 rfl, H2.o.cell 4 rfl 1 rfl, H2.o.cell 4 rfl 2 rfl, H2.o.cell 4 rfl 3 rfl, H2.o.cell 3 rfl 0 rfl, H2.o.cell 3 rfl 1 rfl, H2.o.cell 3 rfl 2 rfl, H2.o.cell 3 rfl 3 rfl, H2.o.cell 2 rfl 0 rfl, H2.o.cell 2 rfl 1 rfl, H2.o.cell 2 rfl 2 rfl, H2.o.cell 2 rfl 3 rfl, H2.o.loadStg 5 rfl (by rw [HA.o]; rfl), H2.o.cell 5 rfl 16 (show A[16]? = some (.slice oa on oc) from by rw [HA.o]; rfl), H2.o.cell 5 rfl 17 (show A[17]? = some (.int .i64 mx) from by rw [HA.o]; rfl)⟩) ?_
 clear hK K hHeld; intro hHeld; try simp only [pz]
 refine tk 10 ?_; refine tk 11 ?_; refine rdy 12 fun K hK => ?_
 have z1 := H2.o.f3 1 rfl; have z7 := H2.o.cell 1 rfl 3 rfl; have z8 := H2.o.free 1 rfl 3; have H1 := kq (show St B W [.own (.slice v1a L1.length v1c) L1, .cells (B + 1 + 1 + 1 + 1) #[.int .i64 tw, .int .i64 th, .int .i64 mx, .slice v1a L1.length v1c] 26, .cells (B + 1 + 1 + 1) #[.int .i64 0, .int .i64 0, .int .i64 tw, .int .i64 th] 70, .cells (B + 1 + 1) #[.int .i64 bw, .int .i64 bh, .int .i64 bm, .slice qa qn qc] 26, .cells (B + 1) #[.int .i64 aw, .int .i64 ah, .int .i64 am, .slice pa pn pc] 26, .cells B A 34] [] ((((w1.setCell ⟨B + 1 + 1 + 1 + 1, 0, none⟩ (.int .i64 tw)).setCell ⟨B + 1 + 1 + 1 + 1, 1, none⟩ (.int .i64 th)).setCell ⟨B + 1 + 1 + 1 + 1, 2, none⟩ (.int .i64 mx)).setCell ⟨B + 1 + 1 + 1 + 1, 3, none⟩ (.slice v1a L1.length v1c)) from (H2.o.set4 1 rfl (.int .i64 tw) (.int .i64 th) (.int .i64 mx) (.slice v1a L1.length v1c))); go_simp
 refine hK.out _ _ (by (try dsimp only); exact ⟨H1.o.cell 4 rfl 0 rfl, H1.o.cell 4 rfl 1 rfl, H1.o.cell 4 rfl 2 rfl, H1.o.cell 4 rfl 3 rfl, H1.o.cell 3 rfl 0 rfl, H1.o.cell 3 rfl 1 rfl, H1.o.cell 3 rfl 2 rfl, H1.o.cell 3 rfl 3 rfl, H1.o.cell 2 rfl 0 rfl, H1.o.cell 2 rfl 1 rfl, H1.o.cell 2 rfl 2 rfl, H1.o.cell 2 rfl 3 rfl, H1.o.loadStg 5 rfl (by rw [HA.o]; rfl), H1.o.cell 5 rfl 16 (show A[16]? = some (.slice oa on oc) from by rw [HA.o]; rfl), H1.o.cell 5 rfl 17 (show A[17]? = some (.int .i64 mx) from by rw [HA.o]; rfl)⟩) ?_; clear hK K hHeld; intro hHeld; try simp only [pz]
 clear z1 z7 z8; generalize ((((w1.setCell ⟨B + 1 + 1 + 1 + 1, 0, none⟩ (.int .i64 tw)).setCell ⟨B + 1 + 1 + 1 + 1, 1, none⟩ (.int .i64 th)).setCell ⟨B + 1 + 1 + 1 + 1, 2, none⟩ (.int .i64 mx)).setCell ⟨B + 1 + 1 + 1 + 1, 3, none⟩ (.slice v1a L1.length v1c)) = k3 at *; refine tk 13 ?_; refine wpAnyH_done (by kernel_rfl) ?_ _; try clear hHeld
 have z1 := H1.o.c4 1 rfl; go_wp2_with fail
 clear z1; obtain ⟨q1, q2, q3, q4⟩ := H1.o.c4 1 rfl; refine bodyPost_ret (v := .tuple #[.agg #[.int .i64 tw, .int .i64 th, .int .i64 mx, .slice v1a L1.length v1c], .int .i64 0]) ?_ rfl ⟨_, L1, rfl, HPVL1.o, by rw [hB]; exact H1.o.own 0 rfl, H1.o.bl⟩; simp [results, Tryz.results31, go_sem, q1, q2, q3, q4]

set_option maxRecDepth 100000 in
set_option maxHeartbeats 6400000 in
theorem rstage18_any {kd sa sb : Int} {bar : Bool} {ep ef kw kh : Int} {wa : Option Addr} {wn wc : Nat} {ra : Option Addr} {rn rc : Nat} {ca : Option Addr} {cn cc : Nat} {sh sh2 : Int} {xa : Option Addr} {xn xc : Nat} {ya : Option Addr} {yn yc : Nat} {bins : Int} {oa : Option Addr} {on oc : Nat} {mx : Int} {A : Array Value} (hA : A = #[.int .i64 kd, .int .i64 sa, .int .i64 sb, .bool bar, .int .i64 ep, .int .i64 ef, .int .i64 kw, .int .i64 kh, .slice wa wn wc, .slice ra rn rc, .slice ca cn cc, .int .i64 sh, .int .i64 sh2, .slice xa xn xc, .slice ya yn yc, .int .i64 bins, .slice oa on oc, .int .i64 mx]) (wl rl cl : List Int) (X Y : Tbl) (ol : List (Int × Int)) (aw ah am : Int) (pa : Option Addr) (pn pc : Nat) (zs : List Int) (bw bh bm : Int) (qa : Option Addr) (qn qc : Nat) (qs : List Int) (W : World) (hw : Slc W wa wn wc wl) (hr : Slc W ra rn rc rl) (hc : Slc W ca cn cc cl) (hx : Tps W xa xn xc X) (hy : Tps W ya yn yc Y) (ho : Prs W oa on oc ol) (hs : Slc W pa pn pc zs) (hq : Slc W qa qn qc qs) (hv : pValid aw ah am zs = true) (hqv : pValid bw bh bm qs = true) : Calls Tryz.prog 12 #[.agg A, .agg #[.int .i64 aw, .int .i64 ah, .int .i64 am, .slice pa pn pc], .agg #[.int .i64 bw, .int .i64 bh, .int .i64 bm, .slice qa qn qc]] W (fun e w' => ∃ v rw rh rm L, e = .returned (.tuple #[.agg #[.int .i64 rw, .int .i64 rh, .int .i64 rm, v], .int .i64 (shCode (sfOk kd sb ep ef kw kh wn rn cn sh sh2 xn yn bins on mx) kd sb ep ef kw kh wl rl cl sh sh2 X Y bins ol mx aw ah am bw bh bm)]) ∧ (shCode (sfOk kd sb ep ef kw kh wn rn cn sh sh2 xn yn bins on mx) kd sb ep ef kw kh wl rl cl sh sh2 X Y bins ol mx aw ah am bw bh bm = 0 → rw = shW kd xn bins aw ∧ rh = shH kd yn ah ∧ rm = shM kd mx aw ah am ∧ pValid rw rh rm L = true) ∧ Own W.heap.size w' v L ∧ Below W.heap.size W w') := by
 have HA := kq hA; clear hA; have HWL := kq hw; have HRL := kq hr; have HCL := kq hc; have HX := kq hx; have HY := kq hy; have HO := kq ho; clear hw hr hc hx hy ho; have HS := kq hs; have HQ := kq hq; have HV := kq hv; clear hs hq hv; have HQV := kq hqv; clear hqv; obtain ⟨co, hco⟩ := nK (shCode (sfOk kd sb ep ef kw kh wn rn cn sh sh2 xn yn bins on mx) kd sb ep ef kw kh wl rl cl sh sh2 X Y bins ol mx aw ah am bw bh bm); simp only [hco]; have HCO := kq hco; clear hco; obtain ⟨t1, ht1⟩ := nK (shIf co (shW kd xn bins aw)); have HT1 := kq ht1; clear ht1; obtain ⟨t2, ht2⟩ := nK (shIf co (shH kd yn ah)); have HT2 := kq ht2; clear ht2; obtain ⟨t3, ht3⟩ := nK (shIf co (shM kd mx aw ah am)); have HT3 := kq ht3; clear ht3; obtain ⟨B, hB⟩ : ∃ B, W.heap.size = B := ⟨_, rfl⟩; have HI0 := kq (St.init hB)
 go_enter Tryz.func12, Tryz.ntmps12
 go_upto_region 1 with fail
 have H1 := kq (show St _ _ (.cells (B + 1 + 1 + 1) _ _ :: .cells (B + 1 + 1) _ _ :: .cells (B + 1) _ _ :: .cells B _ _ :: _) _ _ from ((((HI0.o.alloc A 34 hB).alloc #[.int .i64 aw, .int .i64 ah, .int .i64 am, .slice pa pn pc] 26 (by first | exact hB | simp [hB])).alloc #[.int .i64 bw, .int .i64 bh, .int .i64 bm, .slice qa qn qc] 26 (by first | exact hB | simp [hB])).alloc #[.int .i64 0, .int .i64 0, .int .i64 0, .slice none 0 0] 26 (by first | exact hB | simp [hB]))); first | refine gK H1 ?_ | refine gL H1 ?_ | refine gC H1 ?_
 clear H1; intro w1 H1
 go_cut [21] (fun s wx => s = .bool false ∧ St B W [.cells (B + 1 + 1 + 1) #[.int .i64 0, .int .i64 0, .int .i64 0, .slice none 0 0] 26, .cells (B + 1 + 1) #[.int .i64 bw, .int .i64 bh, .int .i64 bm, .slice qa qn qc] 26, .cells (B + 1) #[.int .i64 aw, .int .i64 ah, .int .i64 am, .slice pa pn pc] 26, .cells B A 34] [] wx)
 case first =>
  have z4 := H1.o.c4 2 rfl; go_wp2_with fail
  clear z4; refine (qpvalid_any _ _ _ _ _ _ _ _ (by have := HS.o.nc; have := HS.o.cap; omega) (H1.o.old HS.o).row).mono ?_; rintro e w1 ⟨rfl, hb⟩; have H2 := kq (H1.o.call hb); clear hb; rw [HV.o]; have z4 := H2.o.loadStg 3 rfl (by rw [HA.o]; rfl)
  go_wp2_with (refine loadArm z4 (by rfl) (by rfl) ?_)
  clear z4; refine (rtwo_any HA.o _).mono ?_; rintro e w1 ⟨rfl, hb⟩; have H1 := kq (H2.o.call hb); clear hb; obtain ⟨b1, HNb1⟩ := nQ (shTwo kd sb); rw [HNb1.o]; cases b1; rotate_left
  ·
   have z4 := H1.o.c4 1 rfl; go_wp2_with fail
   clear z4; refine (qpvalid_any _ _ _ _ _ _ _ _ (by have := HQ.o.nc; have := HQ.o.cap; omega) (H1.o.old HQ.o).row).mono ?_; rintro e w1 ⟨rfl, hb⟩; have H2 := kq (H1.o.call hb); clear hb; rw [HQV.o]; go_wp2_with fail
   go_meet
   exact ⟨rfl, H2.o.pick [0, 1, 2, 3] rfl (by decide)⟩
  go_wp2_with fail
  go_meet
  exact ⟨rfl, H1.o.pick [0, 1, 2, 3] rfl (by decide)⟩
 case rest =>
  obtain ⟨rfl, hst⟩ := hcut; obtain ⟨u1, rfl⟩ : ∃ u1 : World, u1 = wc := ⟨_, rfl⟩; have H1 := kq hst; clear hst; go_upto_region 3 with fail
  go_cut [8, 9] (fun s t wx => ∃ b8 : Nat, s = .pointer (some ⟨b8, 0, none⟩) ∧ t = .int .i64 co ∧ St B W [.cells b8 #[.int .i64 t1, .int .i64 t2, .int .i64 t3] 37, .cells (B + 1 + 1 + 1) #[.int .i64 0, .int .i64 0, .int .i64 0, .slice none 0 0] 26, .cells (B + 1 + 1) #[.int .i64 bw, .int .i64 bh, .int .i64 bm, .slice qa qn qc] 26, .cells (B + 1) #[.int .i64 aw, .int .i64 ah, .int .i64 am, .slice pa pn pc] 26, .cells B A 34] [] wx)
  case first =>
   go_upto_region 3 with fail
   have H2 := kq H1.o.drew; refine wp_region_held_drew (S := (fun w' => w'.cell? ⟨B + 1, 0, none⟩ = some (.int .i64 aw) ∧ w'.cell? ⟨B + 1, 1, none⟩ = some (.int .i64 ah) ∧ w'.cell? ⟨B + 1, 2, none⟩ = some (.int .i64 am) ∧ w'.cell? ⟨B + 1, 3, none⟩ = some (.slice pa pn pc) ∧ w'.cell? ⟨B + 1 + 1, 0, none⟩ = some (.int .i64 bw) ∧ w'.cell? ⟨B + 1 + 1, 1, none⟩ = some (.int .i64 bh) ∧ w'.cell? ⟨B + 1 + 1, 2, none⟩ = some (.int .i64 bm) ∧ w'.cell? ⟨B + 1 + 1, 3, none⟩ = some (.slice qa qn qc) ∧ (Instr.loadAt 34 (.pointer (some ⟨B, 0, none⟩))).run Tryz.prog w' = .ok (.agg A) w')) (by kernel_rfl) ⟨H2.o.cell 2 rfl 0 rfl, H2.o.cell 2 rfl 1 rfl, H2.o.cell 2 rfl 2 rfl, H2.o.cell 2 rfl 3 rfl, H2.o.cell 1 rfl 0 rfl, H2.o.cell 1 rfl 1 rfl, H2.o.cell 1 rfl 2 rfl, H2.o.cell 1 rfl 3 rfl, H2.o.loadStg 3 rfl (by rw [HA.o]; rfl)⟩ (fun hHeld => ?_); generalize u1.drew = k1 at *; refine tkA 0 (v := .agg A) ?_ (hy := fun wS hSw => loadExec hSw.2.2.2.2.2.2.2.2 (by rfl)); try simp only [pz]
   refine tk 1 ?_; refine tk 3 ?_; refine wpAnyH_ready (rs := [2, 9]) (by kernel_rfl) (by simp) (AllReadyH.cons (o := _) rfl (fun K hK => ?_) (AllReadyH.cons (o := _) rfl (fun K hK => ?_) AllReadyH.nil))
   ·
    go_simp
    go_at_call 8
    refine (of17_any _ _ _ _ _ _ _).mono ?_; rintro e w1 ⟨rfl, hb⟩; have H1 := kq (H2.o.call hb); clear hb; refine hK.out _ _ (by (try dsimp only); exact ⟨H1.o.cell 2 rfl 0 rfl, H1.o.cell 2 rfl 1 rfl, H1.o.cell 2 rfl 2 rfl, H1.o.cell 2 rfl 3 rfl, H1.o.cell 1 rfl 0 rfl, H1.o.cell 1 rfl 1 rfl, H1.o.cell 1 rfl 2 rfl, H1.o.cell 1 rfl 3 rfl, H1.o.loadStg 3 rfl (by rw [HA.o]; rfl)⟩) ?_; clear hK K hHeld; intro hHeld; try simp only [pz]
    refine wpAnyH_ready (rs := [4, 9]) (by kernel_rfl) (by simp) (AllReadyH.cons (o := _) rfl (fun K hK => ?_) (AllReadyH.cons (o := _) rfl (fun K hK => ?_) AllReadyH.nil))
    ·
     go_simp
     go_at_call 8
     refine (of17_any _ _ _ _ _ _ _).mono ?_; rintro e w2 ⟨rfl, hb⟩; have H3 := kq (H1.o.call hb); clear hb; refine hK.out _ _ (by (try dsimp only); exact ⟨H3.o.cell 2 rfl 0 rfl, H3.o.cell 2 rfl 1 rfl, H3.o.cell 2 rfl 2 rfl, H3.o.cell 2 rfl 3 rfl, H3.o.cell 1 rfl 0 rfl, H3.o.cell 1 rfl 1 rfl, H3.o.cell 1 rfl 2 rfl, H3.o.cell 1 rfl 3 rfl, H3.o.loadStg 3 rfl (by rw [HA.o]; rfl)⟩) ?_; clear hK K hHeld; intro hHeld; try simp only [pz]
     refine wpAnyH_ready (rs := [5, 9]) (by kernel_rfl) (by simp) (AllReadyH.cons (o := _) rfl (fun K hK => ?_) (AllReadyH.cons (o := _) rfl (fun K hK => ?_) AllReadyH.nil))
     ·
      go_simp
      go_at_call 28
      refine (rof_any HA.o wl rl cl X Y ol aw ah am bw bh bm _ (H3.o.old HWL.o) (H3.o.old HRL.o) (H3.o.old HCL.o) (H3.o.oldTps HX.o) (H3.o.oldTps HY.o) (H3.o.oldPrs HO.o)).mono ?_; rintro e w3 ⟨rfl, hb⟩; have H4 := kq (H3.o.call hb); clear hb; simp only [HCO.o, HT1.o, HT2.o, HT3.o]; refine hK.out _ _ (by (try dsimp only); exact ⟨H4.o.cell 2 rfl 0 rfl, H4.o.cell 2 rfl 1 rfl, H4.o.cell 2 rfl 2 rfl, H4.o.cell 2 rfl 3 rfl, H4.o.cell 1 rfl 0 rfl, H4.o.cell 1 rfl 1 rfl, H4.o.cell 1 rfl 2 rfl, H4.o.cell 1 rfl 3 rfl, H4.o.loadStg 3 rfl (by rw [HA.o]; rfl)⟩) ?_; clear hK K hHeld; intro hHeld; try simp only [pz]
      refine tk 6 ?_; refine tk 7 ?_; refine tk 8 ?_; refine rdy 9 fun K hK => ?_
      obtain ⟨D1, hD1⟩ := nK w3.heap.size; have H5 := kq (H4.o.alloc #[.int .i64 0, .int .i64 0, .int .i64 0] 37 hD1); go_simp
      refine hK.out _ _ (by (try dsimp only); exact ⟨H5.o.cell 3 rfl 0 rfl, H5.o.cell 3 rfl 1 rfl, H5.o.cell 3 rfl 2 rfl, H5.o.cell 3 rfl 3 rfl, H5.o.cell 2 rfl 0 rfl, H5.o.cell 2 rfl 1 rfl, H5.o.cell 2 rfl 2 rfl, H5.o.cell 2 rfl 3 rfl, H5.o.loadStg 4 rfl (by rw [HA.o]; rfl)⟩) ?_; clear hK K hHeld; intro hHeld; try simp only [pz]
      clear hD1; generalize (w3.alloc (.cells #[.int .i64 0, .int .i64 0, .int .i64 0] 37)) = k2 at *; refine rdy 10 fun K hK => ?_
      have z4 := H5.o.f3 0 rfl; have H4 := kq (show St _ _ (.cells D1 #[.int .i64 t1, .int .i64 t2, .int .i64 t3] 37 :: _) _ _ from (((H5.o.set 0 rfl 0 (.int .i64 t1)).set 0 rfl 1 (.int .i64 t2)).set 0 rfl 2 (.int .i64 t3))); go_simp
      refine hK.out _ _ (by (try dsimp only); exact ⟨H4.o.cell 3 rfl 0 rfl, H4.o.cell 3 rfl 1 rfl, H4.o.cell 3 rfl 2 rfl, H4.o.cell 3 rfl 3 rfl, H4.o.cell 2 rfl 0 rfl, H4.o.cell 2 rfl 1 rfl, H4.o.cell 2 rfl 2 rfl, H4.o.cell 2 rfl 3 rfl, H4.o.loadStg 4 rfl (by rw [HA.o]; rfl)⟩) ?_; clear hK K hHeld; intro hHeld; try simp only [pz]
      clear z4; generalize (((k2.setCell ⟨D1, 0, none⟩ (.int .i64 t1)).setCell ⟨D1, 1, none⟩ (.int .i64 t2)).setCell ⟨D1, 2, none⟩ (.int .i64 t3)) = k2 at *; refine tk 11 ?_; refine wpAnyH_done (by kernel_rfl) ?_ _; try clear hHeld
      go_wp2_with fail
      go_meet
      exact ⟨_, rfl, rfl, H4.o.pick [0, 1, 2, 3, 4] rfl (by decide)⟩
     obtain ⟨D1, hD1⟩ := nK w2.heap.size; have H4 := kq (H3.o.alloc #[.int .i64 0, .int .i64 0, .int .i64 0] 37 hD1); go_simp
     refine hK.out _ _ (by (try dsimp only); exact ⟨H4.o.cell 3 rfl 0 rfl, H4.o.cell 3 rfl 1 rfl, H4.o.cell 3 rfl 2 rfl, H4.o.cell 3 rfl 3 rfl, H4.o.cell 2 rfl 0 rfl, H4.o.cell 2 rfl 1 rfl, H4.o.cell 2 rfl 2 rfl, H4.o.cell 2 rfl 3 rfl, H4.o.loadStg 4 rfl (by rw [HA.o]; rfl)⟩) ?_; clear hK K hHeld; intro hHeld; try simp only [pz]
     clear hD1; generalize (w2.alloc (.cells #[.int .i64 0, .int .i64 0, .int .i64 0] 37)) = k2 at *; refine rdy 5 fun K hK => ?_
     go_simp
     go_at_call 28
     refine (rof_any HA.o wl rl cl X Y ol aw ah am bw bh bm _ (H4.o.old HWL.o) (H4.o.old HRL.o) (H4.o.old HCL.o) (H4.o.oldTps HX.o) (H4.o.oldTps HY.o) (H4.o.oldPrs HO.o)).mono ?_; rintro e w2 ⟨rfl, hb⟩; have H3 := kq (H4.o.call hb); clear hb; simp only [HCO.o, HT1.o, HT2.o, HT3.o]; refine hK.out _ _ (by (try dsimp only); exact ⟨H3.o.cell 3 rfl 0 rfl, H3.o.cell 3 rfl 1 rfl, H3.o.cell 3 rfl 2 rfl, H3.o.cell 3 rfl 3 rfl, H3.o.cell 2 rfl 0 rfl, H3.o.cell 2 rfl 1 rfl, H3.o.cell 2 rfl 2 rfl, H3.o.cell 2 rfl 3 rfl, H3.o.loadStg 4 rfl (by rw [HA.o]; rfl)⟩) ?_; clear hK K hHeld; intro hHeld; try simp only [pz]
     refine tk 6 ?_; refine tk 7 ?_; refine tk 8 ?_; refine rdy 10 fun K hK => ?_
     have z256 := H3.o.f3 0 rfl; have H4 := kq (show St _ _ (.cells D1 #[.int .i64 t1, .int .i64 t2, .int .i64 t3] 37 :: _) _ _ from (((H3.o.set 0 rfl 0 (.int .i64 t1)).set 0 rfl 1 (.int .i64 t2)).set 0 rfl 2 (.int .i64 t3))); go_simp
     refine hK.out _ _ (by (try dsimp only); exact ⟨H4.o.cell 3 rfl 0 rfl, H4.o.cell 3 rfl 1 rfl, H4.o.cell 3 rfl 2 rfl, H4.o.cell 3 rfl 3 rfl, H4.o.cell 2 rfl 0 rfl, H4.o.cell 2 rfl 1 rfl, H4.o.cell 2 rfl 2 rfl, H4.o.cell 2 rfl 3 rfl, H4.o.loadStg 4 rfl (by rw [HA.o]; rfl)⟩) ?_; clear hK K hHeld; intro hHeld; try simp only [pz]
     clear z256; generalize (((w2.setCell ⟨D1, 0, none⟩ (.int .i64 t1)).setCell ⟨D1, 1, none⟩ (.int .i64 t2)).setCell ⟨D1, 2, none⟩ (.int .i64 t3)) = k2 at *; refine tk 11 ?_; refine wpAnyH_done (by kernel_rfl) ?_ _; try clear hHeld
     go_wp2_with fail
     go_meet
     exact ⟨_, rfl, rfl, H4.o.pick [0, 1, 2, 3, 4] rfl (by decide)⟩
    obtain ⟨D1, hD1⟩ := nK w1.heap.size; have H3 := kq (H1.o.alloc #[.int .i64 0, .int .i64 0, .int .i64 0] 37 hD1); go_simp
    refine hK.out _ _ (by (try dsimp only); exact ⟨H3.o.cell 3 rfl 0 rfl, H3.o.cell 3 rfl 1 rfl, H3.o.cell 3 rfl 2 rfl, H3.o.cell 3 rfl 3 rfl, H3.o.cell 2 rfl 0 rfl, H3.o.cell 2 rfl 1 rfl, H3.o.cell 2 rfl 2 rfl, H3.o.cell 2 rfl 3 rfl, H3.o.loadStg 4 rfl (by rw [HA.o]; rfl)⟩) ?_; clear hK K hHeld; intro hHeld; try simp only [pz]
    clear hD1; generalize (w1.alloc (.cells #[.int .i64 0, .int .i64 0, .int .i64 0] 37)) = k2 at *; refine rdy 4 fun K hK => ?_
    go_simp
    go_at_call 8
    refine (of17_any _ _ _ _ _ _ _).mono ?_; rintro e w1 ⟨rfl, hb⟩; have H1 := kq (H3.o.call hb); clear hb; refine hK.out _ _ (by (try dsimp only); exact ⟨H1.o.cell 3 rfl 0 rfl, H1.o.cell 3 rfl 1 rfl, H1.o.cell 3 rfl 2 rfl, H1.o.cell 3 rfl 3 rfl, H1.o.cell 2 rfl 0 rfl, H1.o.cell 2 rfl 1 rfl, H1.o.cell 2 rfl 2 rfl, H1.o.cell 2 rfl 3 rfl, H1.o.loadStg 4 rfl (by rw [HA.o]; rfl)⟩) ?_; clear hK K hHeld; intro hHeld; try simp only [pz]
    refine rdy 5 fun K hK => ?_
    go_simp
    go_at_call 28
    refine (rof_any HA.o wl rl cl X Y ol aw ah am bw bh bm _ (H1.o.old HWL.o) (H1.o.old HRL.o) (H1.o.old HCL.o) (H1.o.oldTps HX.o) (H1.o.oldTps HY.o) (H1.o.oldPrs HO.o)).mono ?_; rintro e w1 ⟨rfl, hb⟩; have H3 := kq (H1.o.call hb); clear hb; simp only [HCO.o, HT1.o, HT2.o, HT3.o]; refine hK.out _ _ (by (try dsimp only); exact ⟨H3.o.cell 3 rfl 0 rfl, H3.o.cell 3 rfl 1 rfl, H3.o.cell 3 rfl 2 rfl, H3.o.cell 3 rfl 3 rfl, H3.o.cell 2 rfl 0 rfl, H3.o.cell 2 rfl 1 rfl, H3.o.cell 2 rfl 2 rfl, H3.o.cell 2 rfl 3 rfl, H3.o.loadStg 4 rfl (by rw [HA.o]; rfl)⟩) ?_; clear hK K hHeld; intro hHeld; try simp only [pz]
    refine tk 6 ?_; refine tk 7 ?_; refine tk 8 ?_; refine rdy 10 fun K hK => ?_
    have z4 := H3.o.f3 0 rfl; have H1 := kq (show St _ _ (.cells D1 #[.int .i64 t1, .int .i64 t2, .int .i64 t3] 37 :: _) _ _ from (((H3.o.set 0 rfl 0 (.int .i64 t1)).set 0 rfl 1 (.int .i64 t2)).set 0 rfl 2 (.int .i64 t3))); go_simp
    refine hK.out _ _ (by (try dsimp only); exact ⟨H1.o.cell 3 rfl 0 rfl, H1.o.cell 3 rfl 1 rfl, H1.o.cell 3 rfl 2 rfl, H1.o.cell 3 rfl 3 rfl, H1.o.cell 2 rfl 0 rfl, H1.o.cell 2 rfl 1 rfl, H1.o.cell 2 rfl 2 rfl, H1.o.cell 2 rfl 3 rfl, H1.o.loadStg 4 rfl (by rw [HA.o]; rfl)⟩) ?_; clear hK K hHeld; intro hHeld; try simp only [pz]
    clear z4; generalize (((w1.setCell ⟨D1, 0, none⟩ (.int .i64 t1)).setCell ⟨D1, 1, none⟩ (.int .i64 t2)).setCell ⟨D1, 2, none⟩ (.int .i64 t3)) = k2 at *; refine tk 11 ?_; refine wpAnyH_done (by kernel_rfl) ?_ _; try clear hHeld
    go_wp2_with fail
    go_meet
    exact ⟨_, rfl, rfl, H1.o.pick [0, 1, 2, 3, 4] rfl (by decide)⟩
   obtain ⟨D1, hD1⟩ := nK k1.heap.size; have H1 := kq (H2.o.alloc #[.int .i64 0, .int .i64 0, .int .i64 0] 37 hD1); go_simp
   refine hK.out _ _ (by (try dsimp only); exact ⟨H1.o.cell 3 rfl 0 rfl, H1.o.cell 3 rfl 1 rfl, H1.o.cell 3 rfl 2 rfl, H1.o.cell 3 rfl 3 rfl, H1.o.cell 2 rfl 0 rfl, H1.o.cell 2 rfl 1 rfl, H1.o.cell 2 rfl 2 rfl, H1.o.cell 2 rfl 3 rfl, H1.o.loadStg 4 rfl (by rw [HA.o]; rfl)⟩) ?_; clear hK K hHeld; intro hHeld; try simp only [pz]
   clear hD1; generalize (k1.alloc (.cells #[.int .i64 0, .int .i64 0, .int .i64 0] 37)) = k1 at *; refine rdy 2 fun K hK => ?_
   go_simp
   go_at_call 8
   refine (of17_any _ _ _ _ _ _ _).mono ?_; rintro e w1 ⟨rfl, hb⟩; have H2 := kq (H1.o.call hb); clear hb; refine hK.out _ _ (by (try dsimp only); exact ⟨H2.o.cell 3 rfl 0 rfl, H2.o.cell 3 rfl 1 rfl, H2.o.cell 3 rfl 2 rfl, H2.o.cell 3 rfl 3 rfl, H2.o.cell 2 rfl 0 rfl, H2.o.cell 2 rfl 1 rfl, H2.o.cell 2 rfl 2 rfl, H2.o.cell 2 rfl 3 rfl, H2.o.loadStg 4 rfl (by rw [HA.o]; rfl)⟩) ?_; clear hK K hHeld; intro hHeld; try simp only [pz]
   refine rdy 4 fun K hK => ?_
   go_simp
   go_at_call 8
   refine (of17_any _ _ _ _ _ _ _).mono ?_; rintro e w1 ⟨rfl, hb⟩; have H1 := kq (H2.o.call hb); clear hb; refine hK.out _ _ (by (try dsimp only); exact ⟨H1.o.cell 3 rfl 0 rfl, H1.o.cell 3 rfl 1 rfl, H1.o.cell 3 rfl 2 rfl, H1.o.cell 3 rfl 3 rfl, H1.o.cell 2 rfl 0 rfl, H1.o.cell 2 rfl 1 rfl, H1.o.cell 2 rfl 2 rfl, H1.o.cell 2 rfl 3 rfl, H1.o.loadStg 4 rfl (by rw [HA.o]; rfl)⟩) ?_; clear hK K hHeld; intro hHeld; try simp only [pz]
   refine rdy 5 fun K hK => ?_
   go_simp
   go_at_call 28
   refine (rof_any HA.o wl rl cl X Y ol aw ah am bw bh bm _ (H1.o.old HWL.o) (H1.o.old HRL.o) (H1.o.old HCL.o) (H1.o.oldTps HX.o) (H1.o.oldTps HY.o) (H1.o.oldPrs HO.o)).mono ?_; rintro e w1 ⟨rfl, hb⟩; have H2 := kq (H1.o.call hb); clear hb; simp only [HCO.o, HT1.o, HT2.o, HT3.o]; refine hK.out _ _ (by (try dsimp only); exact ⟨H2.o.cell 3 rfl 0 rfl, H2.o.cell 3 rfl 1 rfl, H2.o.cell 3 rfl 2 rfl, H2.o.cell 3 rfl 3 rfl, H2.o.cell 2 rfl 0 rfl, H2.o.cell 2 rfl 1 rfl, H2.o.cell 2 rfl 2 rfl, H2.o.cell 2 rfl 3 rfl, H2.o.loadStg 4 rfl (by rw [HA.o]; rfl)⟩) ?_; clear hK K hHeld; intro hHeld; try simp only [pz]
   refine tk 6 ?_; refine tk 7 ?_; refine tk 8 ?_; refine rdy 10 fun K hK => ?_
   have z4 := H2.o.f3 0 rfl; have H1 := kq (show St _ _ (.cells D1 #[.int .i64 t1, .int .i64 t2, .int .i64 t3] 37 :: _) _ _ from (((H2.o.set 0 rfl 0 (.int .i64 t1)).set 0 rfl 1 (.int .i64 t2)).set 0 rfl 2 (.int .i64 t3))); go_simp
   refine hK.out _ _ (by (try dsimp only); exact ⟨H1.o.cell 3 rfl 0 rfl, H1.o.cell 3 rfl 1 rfl, H1.o.cell 3 rfl 2 rfl, H1.o.cell 3 rfl 3 rfl, H1.o.cell 2 rfl 0 rfl, H1.o.cell 2 rfl 1 rfl, H1.o.cell 2 rfl 2 rfl, H1.o.cell 2 rfl 3 rfl, H1.o.loadStg 4 rfl (by rw [HA.o]; rfl)⟩) ?_; clear hK K hHeld; intro hHeld; try simp only [pz]
   clear z4; generalize (((w1.setCell ⟨D1, 0, none⟩ (.int .i64 t1)).setCell ⟨D1, 1, none⟩ (.int .i64 t2)).setCell ⟨D1, 2, none⟩ (.int .i64 t3)) = k1 at *; refine tk 11 ?_; refine wpAnyH_done (by kernel_rfl) ?_ _; try clear hHeld
   go_wp2_with fail
   go_meet
   exact ⟨_, rfl, rfl, H1.o.pick [0, 1, 2, 3, 4] rfl (by decide)⟩
  case rest =>
   obtain ⟨b8, rfl, rfl, hst⟩ := hcut; obtain ⟨u1, rfl⟩ : ∃ u1 : World, u1 = wc := ⟨_, rfl⟩; have H1 := kq hst; clear hst
   rcases eqZ co 0 with ⟨c1a, c1b, c1c, c1d, c1h⟩ | ⟨c1a, c1b, c1h⟩
   ·
    rcases eqZ kd 4 with ⟨c2a, c2b, c2c, c2d, c2h⟩ | ⟨c2a, c2b, c2h⟩
    ·
     have z4 := H1.o.c4 3 rfl; have z8 := H1.o.cell 4 rfl 0 (show A[0]? = some (.int .i64 kd) from by rw [HA.o]; rfl); have z9 := H1.o.cell 4 rfl 15 (show A[15]? = some (.int .i64 bins) from by rw [HA.o]; rfl); go_wp2_with fail
     clear z4 z8 z9; have hz9 : co = 0 := by have := c1h.o; have := c2h.o; omega
     obtain ⟨z1, z2, z3⟩ := shCode_zero (HCO.o.trans hz9); have hck := (show (if 1 ≤ bins ∧ bins ≤ 128 then 0 else (9 : Int)) = 0 from by have h9 := z3; unfold shCk at h9; rw [if_neg (by have := c1h.o; have := c2h.o; omega), if_neg (by have := c1h.o; have := c2h.o; omega), if_neg (by have := c1h.o; have := c2h.o; omega), if_pos (by have := c1h.o; have := c2h.o; omega)] at h9; exact h9); refine ((qwhole_any aw ah am pa pn pc zs bins _ (H1.o.old HS.o)).mono fun _ _ hp => hp.snd (snd_hist HV.o (Decidable.byContradiction fun hn => by rw [if_neg hn] at hck; omega))).mono ?_; rintro e w1 ⟨v1, L1, rfl, hpv, ho, hb⟩; have HPVL1 := kq hpv; have H2 := kq (H1.o.grow hb ho); obtain ⟨v1a, v1c, rfl, _⟩ := ho.slc; clear ho hb hpv; clear hz9 z1 z2 z3; clear hck; have z4 := H2.o.f3 2 rfl; have z10 := H2.o.cell 2 rfl 3 rfl; have z11 := H2.o.free 2 rfl 3; go_wp2_with fail
     clear z4 z10 z11; have H3 := kq (show St B W [.own (.slice v1a L1.length v1c) L1, .cells b8 #[.int .i64 t1, .int .i64 t2, .int .i64 t3] 37, .cells (B + 1 + 1 + 1) #[.int .i64 bins, .int .i64 1, .int .i64 (aw * ah), .slice v1a L1.length v1c] 26, .cells (B + 1 + 1) #[.int .i64 bw, .int .i64 bh, .int .i64 bm, .slice qa qn qc] 26, .cells (B + 1) #[.int .i64 aw, .int .i64 ah, .int .i64 am, .slice pa pn pc] 26, .cells B A 34] [] ((((w1.setCell ⟨B + 1 + 1 + 1, 0, none⟩ (.int .i64 bins)).setCell ⟨B + 1 + 1 + 1, 1, none⟩ (.int .i64 1)).setCell ⟨B + 1 + 1 + 1, 2, none⟩ (.int .i64 (aw * ah))).setCell ⟨B + 1 + 1 + 1, 3, none⟩ (.slice v1a L1.length v1c)) from (H2.o.set4 2 rfl (.int .i64 bins) (.int .i64 1) (.int .i64 (aw * ah)) (.slice v1a L1.length v1c))); have hz9 : co = 0 := by have := c1h.o; have := c2h.o; omega
     obtain ⟨z1, z2, z3⟩ := shCode_zero (HCO.o.trans hz9); have kk := sf_kd z1; obtain ⟨q1, q2, q3, q4⟩ := H3.o.c4 2 rfl; refine bodyPost_ret (v := .tuple #[.agg #[.int .i64 bins, .int .i64 1, .int .i64 (aw * ah), .slice v1a L1.length v1c], .int .i64 0]) ?_ rfl ⟨_, _, _, _, L1, by rw [hz9], fun _ => ⟨by unfold shW; have := c1h.o; have := c2h.o; first | (rw [if_pos (by omega)]; done) | (rw [if_neg (by omega), if_pos (by omega)]; done) | (rw [if_neg (by omega), if_neg (by omega)]; done), by unfold shH; have := c1h.o; have := c2h.o; first | (rw [if_pos (by omega)]; done) | (rw [if_neg (by omega), if_pos (by omega)]; done) | (rw [if_neg (by omega), if_neg (by omega)]; done), by unfold shM; have := c1h.o; have := c2h.o; first | (rw [if_pos (by omega)]; done) | (rw [if_neg (by omega), if_pos (by omega)]; done) | (rw [if_neg (by omega), if_neg (by omega)]; done), HPVL1.o⟩, by rw [hB]; exact H3.o.own 0 rfl, H3.o.bl⟩; simp [results, Tryz.results12, go_sem, q1, q2, q3, q4]
    rcases eqZ kd 5 with ⟨c5a, c5b, c5c, c5d, c5h⟩ | ⟨c5a, c5b, c5h⟩
    ·
     have z4 := H1.o.c4 3 rfl; have z8 := H1.o.cell 4 rfl 0 (show A[0]? = some (.int .i64 kd) from by rw [HA.o]; rfl); go_wp2_with fail
     clear z4 z8; have hz9 : co = 0 := by have := c1h.o; have := c2h.o; have := c5h.o; omega
     obtain ⟨z1, z2, z3⟩ := shCode_zero (HCO.o.trans hz9); have hck := (show iCode aw ah am = 0 from by have h9 := z3; unfold shCk at h9; rw [if_neg (by have := c1h.o; have := c2h.o; have := c5h.o; omega), if_neg (by have := c1h.o; have := c2h.o; have := c5h.o; omega), if_neg (by have := c1h.o; have := c2h.o; have := c5h.o; omega), if_neg (by have := c1h.o; have := c2h.o; have := c5h.o; omega), if_pos (by have := c1h.o; have := c2h.o; have := c5h.o; omega)] at h9; exact h9); refine ((qwhole13_any aw ah am pa pn pc zs _ (H1.o.old HS.o)).mono fun _ _ hp => hp.snd (snd_int HV.o (iCode_zero hck))).mono ?_; rintro e w1 ⟨v1, L1, rfl, hpv, ho, hb⟩; have HPVL1 := kq hpv; have H2 := kq (H1.o.grow hb ho); obtain ⟨v1a, v1c, rfl, _⟩ := ho.slc; clear ho hb hpv; clear hz9 z1 z2 z3; clear hck; have z4 := H2.o.f3 2 rfl; have z10 := H2.o.cell 2 rfl 3 rfl; have z11 := H2.o.free 2 rfl 3; go_wp2_with fail
     clear z4 z10 z11; have H3 := kq (show St B W [.own (.slice v1a L1.length v1c) L1, .cells b8 #[.int .i64 t1, .int .i64 t2, .int .i64 t3] 37, .cells (B + 1 + 1 + 1) #[.int .i64 aw, .int .i64 ah, .int .i64 (aw * ah * am), .slice v1a L1.length v1c] 26, .cells (B + 1 + 1) #[.int .i64 bw, .int .i64 bh, .int .i64 bm, .slice qa qn qc] 26, .cells (B + 1) #[.int .i64 aw, .int .i64 ah, .int .i64 am, .slice pa pn pc] 26, .cells B A 34] [] ((((w1.setCell ⟨B + 1 + 1 + 1, 0, none⟩ (.int .i64 aw)).setCell ⟨B + 1 + 1 + 1, 1, none⟩ (.int .i64 ah)).setCell ⟨B + 1 + 1 + 1, 2, none⟩ (.int .i64 (aw * ah * am))).setCell ⟨B + 1 + 1 + 1, 3, none⟩ (.slice v1a L1.length v1c)) from (H2.o.set4 2 rfl (.int .i64 aw) (.int .i64 ah) (.int .i64 (aw * ah * am)) (.slice v1a L1.length v1c))); have hz9 : co = 0 := by have := c1h.o; have := c2h.o; have := c5h.o; omega
     obtain ⟨z1, z2, z3⟩ := shCode_zero (HCO.o.trans hz9); have kk := sf_kd z1; obtain ⟨q1, q2, q3, q4⟩ := H3.o.c4 2 rfl; refine bodyPost_ret (v := .tuple #[.agg #[.int .i64 aw, .int .i64 ah, .int .i64 (aw * ah * am), .slice v1a L1.length v1c], .int .i64 0]) ?_ rfl ⟨_, _, _, _, L1, by rw [hz9], fun _ => ⟨by unfold shW; have := c1h.o; have := c2h.o; have := c5h.o; first | (rw [if_pos (by omega)]; done) | (rw [if_neg (by omega), if_pos (by omega)]; done) | (rw [if_neg (by omega), if_neg (by omega)]; done), by unfold shH; have := c1h.o; have := c2h.o; have := c5h.o; first | (rw [if_pos (by omega)]; done) | (rw [if_neg (by omega), if_pos (by omega)]; done) | (rw [if_neg (by omega), if_neg (by omega)]; done), by unfold shM; have := c1h.o; have := c2h.o; have := c5h.o; rw [if_neg (by omega), if_pos (by omega), Int.mul_assoc am, Int.mul_comm am], HPVL1.o⟩, by rw [hB]; exact H3.o.own 0 rfl, H3.o.bl⟩; simp [results, Tryz.results12, go_sem, q1, q2, q3, q4]
    have z4 := H1.o.c4 3 rfl; have z8 := H1.o.c4 2 rfl; have z12 := H1.o.c3 0 rfl; have z15 := H1.o.cell 4 rfl 0 (show A[0]? = some (.int .i64 kd) from by rw [HA.o]; rfl); have z16 := H1.o.loadStg 4 rfl (by rw [HA.o]; rfl)
    go_wp2_with (refine loadArm z16 (by rfl) (by rfl) ?_)
    clear z4 z8 z12 z15 z16; have hz9 : co = 0 := by have := c1h.o; have := c2h.o; have := c5h.o; omega
    obtain ⟨z1, z2, z3⟩ := shCode_zero (HCO.o.trans hz9); refine (rpart_any HA.o wl rl cl X Y ol aw ah am pa pn pc zs bw bh bm qa qn qc qs t1 t2 _ (H1.o.old HWL.o) (H1.o.old HRL.o) (H1.o.old HCL.o) (H1.o.oldTps HX.o) (H1.o.oldTps HY.o) (H1.o.oldPrs HO.o) (H1.o.old HS.o) (H1.o.old HQ.o) HV.o z2 (fun _ => HQV.o) z3 (by have := sf_kd z1; have := c1h.o; have := c2h.o; have := c5h.o; omega) (by rw [← HT1.o, hz9]; exact if_pos rfl) (by rw [← HT2.o, hz9]; exact if_pos rfl)).mono ?_; rintro e w1 ⟨v1, L1, rfl, hpv, ho, hb⟩; have HPVL1 := kq hpv; have H2 := kq (H1.o.grow hb ho); obtain ⟨v1a, v1c, rfl, _⟩ := ho.slc; clear ho hb hpv; clear hz9 z1 z2 z3; have z4 := H2.o.f3 2 rfl; have z10 := H2.o.cell 2 rfl 3 rfl; have z11 := H2.o.free 2 rfl 3; go_wp2_with fail
    clear z4 z10 z11; have H3 := kq (show St B W [.own (.slice v1a L1.length v1c) L1, .cells b8 #[.int .i64 t1, .int .i64 t2, .int .i64 t3] 37, .cells (B + 1 + 1 + 1) #[.int .i64 t1, .int .i64 t2, .int .i64 mx, .slice v1a L1.length v1c] 26, .cells (B + 1 + 1) #[.int .i64 bw, .int .i64 bh, .int .i64 bm, .slice qa qn qc] 26, .cells (B + 1) #[.int .i64 aw, .int .i64 ah, .int .i64 am, .slice pa pn pc] 26, .cells B A 34] [] ((((w1.setCell ⟨B + 1 + 1 + 1, 0, none⟩ (.int .i64 t1)).setCell ⟨B + 1 + 1 + 1, 1, none⟩ (.int .i64 t2)).setCell ⟨B + 1 + 1 + 1, 2, none⟩ (.int .i64 mx)).setCell ⟨B + 1 + 1 + 1, 3, none⟩ (.slice v1a L1.length v1c)) from (H2.o.set4 2 rfl (.int .i64 t1) (.int .i64 t2) (.int .i64 mx) (.slice v1a L1.length v1c))); have hz9 : co = 0 := by have := c1h.o; have := c2h.o; have := c5h.o; omega
    obtain ⟨z1, z2, z3⟩ := shCode_zero (HCO.o.trans hz9); have kk := sf_kd z1; obtain ⟨q1, q2, q3, q4⟩ := H3.o.c4 2 rfl; refine bodyPost_ret (v := .tuple #[.agg #[.int .i64 t1, .int .i64 t2, .int .i64 mx, .slice v1a L1.length v1c], .int .i64 0]) ?_ rfl ⟨_, _, _, _, L1, by rw [hz9], fun _ => ⟨by rw [← HT1.o, hz9]; exact if_pos rfl, by rw [← HT2.o, hz9]; exact if_pos rfl, by unfold shM; have := c1h.o; have := c2h.o; have := c5h.o; first | (rw [if_pos (by omega)]; done) | (rw [if_neg (by omega), if_pos (by omega)]; done) | (rw [if_neg (by omega), if_neg (by omega)]; done), HPVL1.o⟩, by rw [hB]; exact H3.o.own 0 rfl, H3.o.bl⟩; simp [results, Tryz.results12, go_sem, q1, q2, q3, q4]
   have z4 := H1.o.f3 1 rfl; have z10 := H1.o.cell 1 rfl 3 rfl; have z11 := H1.o.free 1 rfl 3; go_wp2_with fail
   clear z4 z10 z11; have H2 := kq (show St B W [.cells b8 #[.int .i64 t1, .int .i64 t2, .int .i64 t3] 37, .cells (B + 1 + 1 + 1) #[.int .i64 0, .int .i64 0, .int .i64 0, .slice none 0 0] 26, .cells (B + 1 + 1) #[.int .i64 bw, .int .i64 bh, .int .i64 bm, .slice qa qn qc] 26, .cells (B + 1) #[.int .i64 aw, .int .i64 ah, .int .i64 am, .slice pa pn pc] 26, .cells B A 34] [] ((((u1.setCell ⟨B + 1 + 1 + 1, 0, none⟩ (.int .i64 0)).setCell ⟨B + 1 + 1 + 1, 1, none⟩ (.int .i64 0)).setCell ⟨B + 1 + 1 + 1, 2, none⟩ (.int .i64 0)).setCell ⟨B + 1 + 1 + 1, 3, none⟩ (.slice none 0 0)) from (H1.o.set4 1 rfl (.int .i64 0) (.int .i64 0) (.int .i64 0) (.slice none 0 0))); obtain ⟨q1, q2, q3, q4⟩ := H2.o.c4 1 rfl; refine bodyPost_ret (v := .tuple #[.agg #[.int .i64 0, .int .i64 0, .int .i64 0, .slice none 0 0], .int .i64 co]) ?_ rfl ⟨_, _, _, _, [], rfl, fun h9 => by exfalso; have := c1h.o; omega, Own.nil _ _, H2.o.bl⟩; simp [results, Tryz.results12, go_sem, q1, q2, q3, q4]
end
end Go.Proofs.YteejjnhlfgjlaaaGreat
