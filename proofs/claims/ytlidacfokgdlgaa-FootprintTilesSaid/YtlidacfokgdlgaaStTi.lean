/-
 Contract: the needed tiles of a stage, in the program.
-/
import Derived.Test.YtlidacfokgdlgaaKL
import Derived.Test.YtlidacfokgdlgaaGrid
import Derived.Test.YtlidacfokgdlgaaKB
namespace Go.Proofs.Ytlidacfokgdlgaa
open Go.RowKit
attribute [local go_sem ↓] Go.wp_at_zero Go.wp_at_succ
set_option linter.unusedVariables false
set_option linter.unusedSimpArgs false

set_option maxRecDepth 100000 in
set_option maxHeartbeats 3200000 in
theorem ftiles_any {kd sa sb : Int} {bar : Bool} {ep ef kw kh : Int} {wa : Option Addr} {wn wc : Nat} {ra : Option Addr} {rn rc : Nat} {ca : Option Addr} {cn cc : Nat} {sh sh2 : Int} {xa : Option Addr} {xn xc : Nat} {ya : Option Addr} {yn yc : Nat} {bins : Int} {oa : Option Addr} {on oc : Nat} {mx : Int} {A : Array Value} (hA : A = #[.int .i64 kd, .int .i64 sa, .int .i64 sb, .bool bar, .int .i64 ep, .int .i64 ef, .int .i64 kw, .int .i64 kh, .slice wa wn wc, .slice ra rn rc, .slice ca cn cc, .int .i64 sh, .int .i64 sh2, .slice xa xn xc, .slice ya yn yc, .int .i64 bins, .slice oa on oc, .int .i64 mx]) (X Y : Tbl) (w h tw th x0 y0 x1 y1 : Int) (W : World) (hx : Tps W xa xn xc X) (hy : Tps W ya yn yc Y) :
  Calls Try.prog 16 #[.agg A, .int .i64 w, .int .i64 h, .int .i64 tw, .int .i64 th, .agg #[.int .i64 x0, .int .i64 y0, .int .i64 x1, .int .i64 y1]] W fun e w' => ∃ v, e = .returned v ∧ Own W.heap.size w' v (tlL (stCol kd sb ep ef kw kh wn rn cn sh sh2 xn yn bins on mx X Y w x0 x1) (stRow kd sb ep ef kw kh wn rn cn sh sh2 xn yn bins on mx X Y h y0 y1) w h tw th) ∧ Below W.heap.size W w' := by
 obtain ⟨B, hB⟩ : ∃ B, W.heap.size = B := ⟨_, rfl⟩
 have HI0 := hid (St.init hB)
 have HX := hid hx
 have HY := hid hy
 have HA := hid hA
 clear hx hy hA
 go_enter Try.func16, Try.ntmps16
 go_upto_region 1 with fail
 have H46 := hid (show St B W [.cells (B + 1) #[.int .i64 x0, .int .i64 y0, .int .i64 x1, .int .i64 y1] 24, .cells B A 33] [] ((W.alloc (.cells A 33)).alloc (.cells #[.int .i64 x0, .int .i64 y0, .int .i64 x1, .int .i64 y1] 24)) from ((HI0.out.alloc A 33 hB).alloc #[.int .i64 x0, .int .i64 y0, .int .i64 x1, .int .i64 y1] 24 (by first | exact hB | simp [hB])))
 first | refine gen_code H46.out ?_ | refine gen_list H46.out ?_ | refine gen_calls H46.out ?_
 intro w47 hG
 clear H46
 have H46 := hid hG
 clear hG
 go_wp2_with fail
 refine (count_any _ _ _ _ _).mono ?_
 rintro e w48 ⟨rfl, hsw⟩
 have hsw2 : w47 = w48 := by first | exact hsw | exact hsw.symm
 clear hsw
 subst hsw2
 obtain ⟨NX, hNX, nx2⟩ : ∃ m : Nat, gNx w h tw th = m ∧ m ≤ 128 := by cases hg : gOk w h tw th with | true => have := gN_bd hg; exact ⟨(gNx w h tw th).toNat, by omega, by omega⟩ | false => exact ⟨0, (gN_no hg).1, by omega⟩
 obtain ⟨NY, hNY, ny2⟩ : ∃ m : Nat, gNy w h tw th = m ∧ m ≤ 128 := by cases hg : gOk w h tw th with | true => have := gN_bd hg; exact ⟨(gNy w h tw th).toNat, by omega, by omega⟩ | false => exact ⟨0, (gN_no hg).2, by omega⟩
 rw [hNX, hNY]
 have HNX := hid hNX
 have HNY := hid hNY
 clear hNX hNY
 by_cases c49 : ((NX : Int) : Int) = 0
 ·
  obtain ⟨c49c, c49d⟩ : ((NX : Int) : Int) ≤ 0 ∧ (0 : Int) ≤ (NX : Int) := by omega
  have c49a : (((NX : Int) : Int) == (0)) = true := by simpa using c49
  have c49b : (((NX : Int) : Int) != (0)) = false := by simpa using c49
  have c49h := hid c49
  clear c49
  go_wp2_with fail
  have hnl : tlL (stCol kd sb ep ef kw kh wn rn cn sh sh2 xn yn bins on mx X Y w x0 x1) (stRow kd sb ep ef kw kh wn rn cn sh sh2 xn yn bins on mx X Y h y0 y1) w h tw th = [] := tl_zero (by rw [HNX.out, HNY.out]; have := c49h.out; omega)
  go_ret
  exact ⟨_, rfl, by rw [hnl]; exact Own.nil _ _, by first | exact H46.out.below | exact H46.out.below'⟩
 ·
  have c49a : (((NX : Int) : Int) == (0)) = false := by simpa using c49
  have c49b : (((NX : Int) : Int) != (0)) = true := by simpa using c49
  have c49h := hid c49
  clear c49
  by_cases c50 : ((NY : Int) : Int) = 0
  ·
   obtain ⟨c50c, c50d⟩ : ((NY : Int) : Int) ≤ 0 ∧ (0 : Int) ≤ (NY : Int) := by omega
   have c50a : (((NY : Int) : Int) == (0)) = true := by simpa using c50
   have c50b : (((NY : Int) : Int) != (0)) = false := by simpa using c50
   have c50h := hid c50
   clear c50
   go_wp2_with fail
   have hnl : tlL (stCol kd sb ep ef kw kh wn rn cn sh sh2 xn yn bins on mx X Y w x0 x1) (stRow kd sb ep ef kw kh wn rn cn sh sh2 xn yn bins on mx X Y h y0 y1) w h tw th = [] := tl_zero (by rw [HNX.out, HNY.out]; have := c49h.out; have := c50h.out; omega)
   go_ret
   exact ⟨_, rfl, by rw [hnl]; exact Own.nil _ _, by first | exact H46.out.below | exact H46.out.below'⟩
  ·
   have c50a : (((NY : Int) : Int) == (0)) = false := by simpa using c50
   have c50b : (((NY : Int) : Int) != (0)) = true := by simpa using c50
   have c50h := hid c50
   clear c50
   have z51 := H46.out.cell 0 rfl 0 rfl
   have z52 := H46.out.cell 0 rfl 1 rfl
   have z53 := H46.out.cell 0 rfl 2 rfl
   have z54 := H46.out.cell 0 rfl 3 rfl
   have z55 := H46.out.loadStg 1 rfl (by rw [HA.out]; rfl)
   go_wp2_with (refine loadArm z55 (by rfl) (by rfl) ?_)
   clear z51 z52 z53 z54 z55
   refine (columns_A HA.out X Y _ _ _ _ (H46.out.oldTps HX.out) (H46.out.oldTps HY.out)).mono ?_
   rintro e w56 ⟨v57, rfl, ho, hb⟩
   have H58 := hid (H46.out.grow hb ho)
   obtain ⟨v57a, v57c, rfl, _⟩ := ho.slc
   clear ho hb
   obtain ⟨C9, hC9⟩ : ∃ xx', stCol kd sb ep ef kw kh wn rn cn sh sh2 xn yn bins on mx X Y w x0 x1 = xx' := ⟨_, rfl⟩
   rw [hC9] at H58 ⊢
   have HLC9 := hid hC9
   clear hC9
   have z59 := H58.out.cell 1 rfl 0 rfl
   have z60 := H58.out.cell 1 rfl 1 rfl
   have z61 := H58.out.cell 1 rfl 2 rfl
   have z62 := H58.out.cell 1 rfl 3 rfl
   have z63 := H58.out.loadStg 2 rfl (by rw [HA.out]; rfl)
   go_wp2_with (refine loadArm z63 (by rfl) (by rfl) ?_)
   clear z59 z60 z61 z62 z63
   refine (rows_A HA.out X Y _ _ _ _ (H58.out.oldTps HX.out) (H58.out.oldTps HY.out)).mono ?_
   rintro e w64 ⟨v65, rfl, ho, hb⟩
   have H66 := hid (H58.out.grow hb ho)
   obtain ⟨v65a, v65c, rfl, _⟩ := ho.slc
   clear ho hb
   obtain ⟨R9, hR9⟩ : ∃ xx', stRow kd sb ep ef kw kh wn rn cn sh sh2 xn yn bins on mx X Y h y0 y1 = xx' := ⟨_, rfl⟩
   rw [hR9] at H66 ⊢
   have HLR9 := hid hR9
   clear hR9
   go_upto_region 6 with fail
   obtain ⟨P, hP⟩ : ∃ P : Nat → Bool, tlQ C9 R9 NX tw th = P := ⟨_, rfl⟩
   have HP := hid hP
   clear hP
   have hg9 : gOk w h tw th = true := by cases hg : gOk w h tw th with | true => rfl | false => exfalso; have := (gN_no hg).1; have := HNX.out; have := c49h.out; have := c50h.out; omega
   have nx1 : 1 ≤ NX := by have := c49h.out; have := c50h.out; omega
   have ny1 : 1 ≤ NY := by have := c49h.out; have := c50h.out; omega
   have hgg := gOk_iff.1 hg9
   have HG9 := hid hg9
   clear hg9
   obtain ⟨g1, g2, g3, g4, g5, g6, g7, g8⟩ := hgg
   go_wp2_with fail
   have H67 := hid (show St B W [.own (.slice none 0 0) ([]), .own (.slice v65a R9.length v65c) R9, .own (.slice v57a C9.length v57c) C9, .cells (B + 1) #[.int .i64 x0, .int .i64 y0, .int .i64 x1, .int .i64 y1] 24, .cells B A 33] [] w64 from H66.out.grow (Below.refl _ _) (Own.nil _ _))
   go_loopw [49, 17] (fun i v wr => ∃ (y : Nat) (oa9 : Option Addr) (ln cp : Nat), y ≤ NY ∧ i = .int .i64 y ∧ v = .slice oa9 ln cp ∧ (outL P (y * NX)).length = ln ∧ St B W [.own (.slice oa9 ln cp) (outL P (y * NX)), .own (.slice v65a R9.length v65c) R9, .own (.slice v57a C9.length v57c) C9, .cells (B + 1) #[.int .i64 x0, .int .i64 y0, .int .i64 x1, .int .i64 y1] 24, .cells B A 33] [] wr) (fun i _ _ => NY - (intOf i).toNat)
   case atStart => exact ⟨0, none, 0, 0, by omega, rfl, rfl, by rw [Nat.zero_mul]; rfl, by rw [Nat.zero_mul]; exact H67.out⟩
   case round =>
    obtain ⟨y, oa9, ln, cp, hy, rfl, rfl, hln, hst⟩ := hrel
    obtain ⟨u68, rfl⟩ : ∃ u68 : World, u68 = wr := ⟨_, rfl⟩
    have H69 := hid hst
    clear hst
    have HLN := hid hln
    clear hln
    by_cases hyn : y < NY
    ·
     skip
     have hyn' : (y : Int) < NY := by omega
     have ym := Nat.mul_le_mul_right NX (show y ≤ NY - 1 by omega)
     go_wp2_with fail
     go_loopw [53, 17] (fun i v wr => ∃ (x : Nat) (oa9 : Option Addr) (ln cp : Nat), x ≤ NX ∧ i = .int .i64 x ∧ v = .slice oa9 ln cp ∧ (outL P (y * NX + x)).length = ln ∧ St B W [.own (.slice oa9 ln cp) (outL P (y * NX + x)), .own (.slice v65a R9.length v65c) R9, .own (.slice v57a C9.length v57c) C9, .cells (B + 1) #[.int .i64 x0, .int .i64 y0, .int .i64 x1, .int .i64 y1] 24, .cells B A 33] [] wr) (fun i _ _ => NX - (intOf i).toNat)
     case atStart => exact ⟨0, oa9, ln, cp, by omega, rfl, rfl, HLN.out, H69.out⟩
     case round =>
      obtain ⟨x, oa9, ln, cp, hx, rfl, rfl, hln, hst⟩ := hrel
      obtain ⟨u70, rfl⟩ : ∃ u70 : World, u70 = wr := ⟨_, rfl⟩
      have H71 := hid hst
      clear hst
      have HLN := hid hln
      have hlm := outL_len P (y * NX + x)
      rw [hln] at hlm
      clear hln
      by_cases hxn : x < NX
      ·
       skip
       have hxn' : (x : Int) < NX := by omega
       have hyx : y * NX + x < 128 * 128 := by have := Nat.mul_le_mul (show y ≤ 127 by omega) nx2; omega
       have b1 : (x : Int) * tw ≤ 8192 := by have := Int.mul_le_mul (show (x : Int) ≤ 128 by omega) (show tw ≤ 64 by omega) (by omega) (by omega); omega
       have b2 : 0 ≤ (x : Int) * tw := Int.mul_nonneg (by omega) (by omega)
       have b3 : (y : Int) * th ≤ 8192 := by have := Int.mul_le_mul (show (y : Int) ≤ 128 by omega) (show th ≤ 64 by omega) (by omega) (by omega); omega
       have b4 : 0 ≤ (y : Int) * th := Int.mul_nonneg (by omega) (by omega)
       have b7 : (y : Int) * (NX : Int) = ((y * NX : Nat) : Int) := by rw [Int.natCast_mul]
       have wp1 : IntKind.i64.wrap ((x : Int) * tw) = (x : Int) * tw := IntWalk.i64_in _ (by omega)
       have wp2 : IntKind.i64.wrap (((x : Int) + 1) * tw) = ((x : Int) + 1) * tw := IntWalk.i64_in _ (by rw [Int.add_mul, Int.one_mul]; omega)
       have wp3 : IntKind.i64.wrap ((y : Int) * th) = (y : Int) * th := IntWalk.i64_in _ (by omega)
       have wp4 : IntKind.i64.wrap (((y : Int) + 1) * th) = ((y : Int) + 1) * th := IntWalk.i64_in _ (by rw [Int.add_mul, Int.one_mul]; omega)
       have wp5 : IntKind.i64.wrap ((y : Int) * (NX : Int)) = (y : Int) * (NX : Int) := IntWalk.i64_in _ (by rw [b7]; omega)
       have wp6 : IntKind.i64.wrap ((y : Int) * (NX : Int) + (x : Int)) = (y : Int) * (NX : Int) + (x : Int) := IntWalk.i64_in _ (by rw [b7]; omega)
       clear b7
       have HPI := hid (show P (y * NX + x) = (memL C9 ((x : Int) * tw) (((x : Int) + 1) * tw) && memL R9 ((y : Int) * th) (((y : Int) + 1) * th)) from by rw [← HP.out]; unfold tlQ; rw [show (y * NX + x) % NX = x by rw [Nat.mul_comm, Nat.mul_add_mod, Nat.mod_eq_of_lt hxn], show (y * NX + x) / NX = y by rw [Nat.mul_comm, Nat.mul_add_div (by omega), Nat.div_eq_of_lt hxn, Nat.add_zero]])
       go_wp2_with fail
       refine (stwithin_any _ _ _ _ _ _ _ (H71.out.slc 2 rfl)).mono ?_
       rintro e w72 ⟨rfl, hb⟩
       have H73 := hid (H71.out.call hb)
       clear hb
       obtain ⟨b74, hb74⟩ : ∃ xx', memL C9 (x * tw) ((x + 1) * tw) = xx' := ⟨_, rfl⟩
       rw [hb74]
       have HNb74 := hid hb74
       clear hb74
       cases b74 with
       | true =>
        go_wp2_with fail
        refine (stwithin_any _ _ _ _ _ _ _ (H73.out.slc 1 rfl)).mono ?_
        rintro e w75 ⟨rfl, hb⟩
        have H76 := hid (H73.out.call hb)
        clear hb
        obtain ⟨b77, hb77⟩ : ∃ xx', memL R9 (y * th) ((y + 1) * th) = xx' := ⟨_, rfl⟩
        rw [hb77]
        have HNb77 := hid hb77
        clear hb77
        cases b77 with
        | true =>
         go_upto_region 14 with fail
         have HPB := hid (show P (y * NX + x) = true from by rw [HPI.out, HNb74.out, HNb77.out] <;> rfl)
         obtain ⟨D78, hD78⟩ : ∃ D, w75.heap.size = D := ⟨_, rfl⟩
         have HOUT := hid (show outL P (y * NX + x + 1) = outL P (y * NX + x) ++ [(y * (NX : Int) + x : Int)] from by simp only [outL]; rw [if_pos HPB.out, Int.natCast_add, Int.natCast_mul])
         have HLN2 := hid (show (outL P (y * NX + x) ++ [(y * (NX : Int) + x : Int)]).length = ln + 1 from by rw [List.length_append, HLN.out]; rfl)
         have H79 := hid (show St B W [.cells D78 #[.int .i64 (y * (NX : Int) + x)] 3, .own (.slice oa9 ln cp) (outL P (y * NX + x)), .own (.slice v65a R9.length v65c) R9, .own (.slice v57a C9.length v57c) C9, .cells (B + 1) #[.int .i64 x0, .int .i64 y0, .int .i64 x1, .int .i64 y1] 24, .cells B A 33] [] (w75.alloc (.cells #[.int .i64 (y * (NX : Int) + x)] 3)) from (H76.out.alloc #[.int .i64 (y * (NX : Int) + x)] 3 hD78))
         go_upto_region 15 with (at_builtin; refine append_int rfl _ _ rfl B _ (outL P (y * NX + x)) (y * (NX : Int) + x) D78 1 rfl rfl (H79.out.own 1 rfl) (H79.out.cell 0 rfl 0 rfl) (by have := HLN.out; omega) H79.out.size ?_; intro v81 w82 ho hg hv; have H80 := hid (H79.out.append 1 rfl ho hg hv); clear ho hg hv)
         clear H79
         obtain ⟨g9, c9, hva⟩ := (H80.out.own 1 rfl).pos (by rw [HLN2.out]; omega)
         rw [HLN2.out] at hva
         subst hva
         clear hD78
         go_wp2_with fail
         go_roundw
         case rel => exact ⟨x + 1, some ⟨g9, 0, none⟩, ln + 1, c9, by omega, by go_num, by go_num, by rw [show y * NX + (x + 1) = y * NX + x + 1 by omega, HOUT.out]; exact HLN2.out, by rw [show y * NX + (x + 1) = y * NX + x + 1 by omega, HOUT.out]; exact H80.out.pick [1, 2, 3, 4, 5] rfl (by decide)⟩
         case measure => first | (simp [intOf]; omega) | (simp [intOf]; done)
        | false =>
         go_upto_region 15 with fail
         have HPB := hid (show P (y * NX + x) = false from by rw [HPI.out, HNb74.out, HNb77.out] <;> rfl)
         have HOUT := hid (show outL P (y * NX + x + 1) = outL P (y * NX + x) from by simp only [outL]; rw [if_neg (by rw [HPB.out]; simp)])
         go_wp2_with fail
         go_roundw
         case rel => exact ⟨x + 1, oa9, ln, cp, by omega, by go_num, rfl, by rw [show y * NX + (x + 1) = y * NX + x + 1 by omega, HOUT.out]; exact HLN.out, by rw [show y * NX + (x + 1) = y * NX + x + 1 by omega, HOUT.out]; exact H76.out⟩
         case measure => first | (simp [intOf]; omega) | (simp [intOf]; done)
       | false =>
        go_upto_region 15 with fail
        have HPB := hid (show P (y * NX + x) = false from by rw [HPI.out, HNb74.out, Bool.false_and] <;> rfl)
        have HOUT := hid (show outL P (y * NX + x + 1) = outL P (y * NX + x) from by simp only [outL]; rw [if_neg (by rw [HPB.out]; simp)])
        go_wp2_with fail
        go_roundw
        case rel => exact ⟨x + 1, oa9, ln, cp, by omega, by go_num, rfl, by rw [show y * NX + (x + 1) = y * NX + x + 1 by omega, HOUT.out]; exact HLN.out, by rw [show y * NX + (x + 1) = y * NX + x + 1 by omega, HOUT.out]; exact H73.out⟩
        case measure => first | (simp [intOf]; omega) | (simp [intOf]; done)
      ·
       skip
       have hxn' : ¬ ((x : Int) < NX) := by omega
       have hxe : x = NX := by omega
       go_wp2_with fail
       go_roundw
       case rel => exact ⟨y + 1, oa9, ln, cp, by omega, by go_num, rfl, by rw [show (y + 1) * NX = y * NX + x by rw [Nat.add_mul]; omega]; exact HLN.out, by rw [show (y + 1) * NX = y * NX + x by rw [Nat.add_mul]; omega]; exact H71.out⟩
       case measure => first | (simp [intOf]; omega) | (simp [intOf]; done)
    ·
     skip
     have hyn' : ¬ ((y : Int) < NY) := by omega
     have HYE := hid (show y = NY by omega)
     go_wp2_with fail
     have hnl : tlL (stCol kd sb ep ef kw kh wn rn cn sh sh2 xn yn bins on mx X Y w x0 x1) (stRow kd sb ep ef kw kh wn rn cn sh sh2 xn yn bins on mx X Y h y0 y1) w h tw th = outL P (y * NX) := by rw [← HP.out, HYE.out, Nat.mul_comm, HLC9.out, HLR9.out]; exact (tl_same HNX.out HNY.out (fun v hv => ndL_mem (by rw [← HLC9.out] at hv; exact hv)) (fun v hv => ndL_mem (by rw [← HLR9.out] at hv; exact hv)) (by omega) (by omega)).symm
     go_ret
     exact ⟨_, rfl, by (try rw [hB]); rw [hnl]; exact H69.out.own 0 rfl, by first | exact H69.out.below | exact H69.out.below'⟩
end Go.Proofs.Ytlidacfokgdlgaa
