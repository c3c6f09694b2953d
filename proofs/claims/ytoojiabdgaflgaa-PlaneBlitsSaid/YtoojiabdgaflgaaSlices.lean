/-
  Contracts: the greatest of a list, and a copy of a list.
-/
import Derived.Test.YtoojiabdgaflgaaPNew
import Derived.Test.YtoojiabdgaflgaaAppend
import Derived.WalkLawsBesides
import Derived.WalkSpells
namespace Go.Proofs.Ytoojiabdgaflgaa
open Go.RowKit
attribute [local go_sem ↓] Go.wp_at_zero Go.wp_at_succ
set_option linter.unusedVariables false
set_option linter.unusedSimpArgs false

def MaxPost (zs : List Int) (W : World) (e : Ending) (w' : World) : Prop := ∃ m : Int, e = .returned (.int .i64 m) ∧ m ∈ zs ∧ (∀ z ∈ zs, z ≤ m) ∧ Below W.heap.size W w'
set_option maxRecDepth 100000 in
set_option maxHeartbeats 1600000 in
theorem smax_any (a : Option Addr) (n c : Nat) (zs : List Int) (W : World) (hs : Slc W a n c zs) (hn : 1 ≤ n) :
    Calls Try.prog 79 #[.slice a n c] W (MaxPost zs W) := by
  obtain ⟨B, hB⟩ : ∃ B, W.heap.size = B := ⟨_, rfl⟩
  have HI0 := hid (St.init hB)
  have HS := hid hs
  have HL := hid hs.len
  obtain ⟨b, o, rfl⟩ := row_at hs.row (by omega)
  have nm : (n : Int) ≤ 9223372036854775807 := by have := hs.nc; have := hs.cap; omega
  have c0 := row_cell hs.row (j := 0) (by omega)
  rw [Nat.add_zero] at c0
  obtain ⟨z0, hz0⟩ : ∃ z, zs.getD 0 0 = z := ⟨_, rfl⟩
  rw [hz0] at c0
  have HZ0 := hid hz0
  have n1 : ¬ ((n : Int) < 1) := by omega
  have n2 : (0 : Int) < n := by omega
  clear hs hz0
  go_enter Try.func79, Try.ntmps79
  go_wp2_with fail
  go_loopw [4, 3] (fun i s wr => ∃ (j : Nat) (m : Int), 1 ≤ j ∧ j ≤ n ∧ i = .int .i64 j ∧ s = .int .i64 m ∧ m ∈ zs ∧ (∀ i, i < j → zs.getD i 0 ≤ m) ∧ St B W [] [] wr) (fun i _ _ => n - (intOf i).toNat)
  case atStart => exact ⟨1, z0, by omega, by omega, rfl, rfl, by rw [← HZ0.out]; exact getD_mem' (by rw [HL.out]; omega), fun i hi => by rw [show i = 0 by omega, HZ0.out]; omega, HI0.out⟩
  case round =>
    obtain ⟨j, m, hj0, hj, rfl, rfl, hm, ha, hst⟩ := hrel
    obtain ⟨u1, rfl⟩ : ∃ u1 : World, u1 = wr := ⟨_, rfl⟩
    have H2 := hid hst
    clear hst
    have HA := hid ha
    have HM := hid hm
    clear ha hm c0
    by_cases hjn : j < n
    · skip
      have hjn' : (j : Int) < n := by omega
      have cz := row_cell (H2.out.old HS.out).row hjn
      have hzm := getD_mem' (zs := zs) (j := j) (by rw [HL.out]; exact hjn)
      obtain ⟨z, hz⟩ : ∃ z, zs.getD j 0 = z := ⟨_, rfl⟩
      have HX := hid (show (if m < z then z else m) ∈ zs ∧ ∀ i, i < j + 1 → zs.getD i 0 ≤ (if m < z then z else m) from by
        rw [hz] at hzm
        refine ⟨?_, fun i hi => ?_⟩
        · split
          · exact hzm
          · exact HM.out
        · rcases Nat.lt_or_ge i j with h' | h'
          · have := HA.out i h'; split <;> omega
          · obtain rfl : i = j := by omega
            rw [hz]; split <;> omega)
      rw [hz] at cz
      clear hz hzm
      go_wp2_with fail
      go_roundw
      case rel => exact ⟨j + 1, _, by omega, by omega, by go_num, rfl, HX.out.1, HX.out.2, H2.out⟩
      case measure => first | (simp [intOf]; omega) | (simp [intOf]; done)
    · skip
      have hjn' : ¬ ((j : Int) < n) := by omega
      go_wp2_with fail
      go_ret
      exact ⟨m, rfl, HM.out, fun z hz => by obtain ⟨i, hi, rfl⟩ := mem_getD' hz; exact HA.out i (by rw [HL.out] at hi; omega), by first | exact H2.out.below | exact H2.out.below'⟩

set_option maxRecDepth 100000 in
set_option maxHeartbeats 1600000 in
theorem sclone_any (a : Option Addr) (n c : Nat) (zs : List Int) (W : World) (hs : Slc W a n c zs) (hn : 1 ≤ n) (hn2 : n ≤ 1000000) :
    Calls Try.prog 80 #[.slice a n c] W fun e w' => ∃ v, e = .returned v ∧ Own W.heap.size w' v zs ∧ Below W.heap.size W w' := by
  obtain ⟨B, hB⟩ : ∃ B, W.heap.size = B := ⟨_, rfl⟩
  obtain ⟨b, o, rfl⟩ := row_at hs.row (by omega)
  have HL := hid hs.len
  have HA := hid (((St.init hB).alloc #[] 3 hB).litOwn 0 [] rfl (by simp))
  have HS := hid (HA.out.old hs)
  have hsz : (W.alloc (.cells #[] 3)).heap.size = B + 1 := alloc_size _ hB
  clear hs
  have run_nil := fun (w : World) => Lib.run_eql_slice_nil (P := Try.prog) w 22 3 (some ⟨b, o, none⟩) n c 0 0 Try.underlying22
  go_enter Try.func80, Try.ntmps80
  go_wp2_with (at_builtin; refine append_row rfl _ _ rfl B _ [] b o n c zs rfl rfl (HA.out.own 0 rfl) HS.out.row (by simp; omega) HA.out.size ?_; intro v2 w2 ho hg hv; rw [List.nil_append] at ho; have H2 := hid (HA.out.append 0 rfl ho hg hv); clear hg hv ho)
  go_ret
  exact ⟨v2, rfl, by rw [hB]; exact H2.out.own 0 rfl, by first | exact H2.out.below | exact H2.out.below'⟩
end Go.Proofs.Ytoojiabdgaflgaa
