/-
  Contracts: how great the pixels of an integral plane may be, in the program and in the reference.
-/
import Derived.Test.YtoojiabdgaflgaaIntPlain
import Derived.Test.YtoojiabdgaflgaaMul
import Derived.Test.YtoojiabdgaflgaaTk2
import Derived.Test.YtoojiabdgaflgaaPlane2
namespace Go.Proofs.Ytoojiabdgaflgaa
open Go.RowKit
set_option linter.unusedVariables false
set_option linter.unusedSimpArgs false

def kVal (w h mx : Int) (zs : List Int) : Int := if pValid w h mx zs = true then iVal w h mx else 0
def kCode (w h mx : Int) (zs : List Int) : Int := if pValid w h mx zs = true then iCode w h mx else 1
theorem iOk_no1 {w h mx : Int} (e : ¬ (1 ≤ w ∧ 1 ≤ h ∧ 1 ≤ mx)) : iOk w h mx = false := by rw [← Bool.not_eq_true, iOk_iff]; omega
theorem iVal_no {w h mx : Int} (e : iOk w h mx = false) : iVal w h mx = 0 := by unfold iVal; rw [e]; simp
theorem iVal_yes {w h mx : Int} (e : iOk w h mx = true) : iVal w h mx = w * h * mx := by unfold iVal; rw [if_pos e]

set_option maxRecDepth 100000 in
set_option maxHeartbeats 1600000 in
theorem greatest_any (w h mx : Int) (W : World) :
    Calls Try.prog 73 #[.agg #[.int .i64 w, .int .i64 h, .int .i64 mx]] W fun e w' => e = .returned (.tuple #[.int .i64 (iVal w h mx), .bool (iOk w h mx)]) ∧ Below W.heap.size W w' := by
  obtain ⟨B, hB⟩ : ∃ B, W.heap.size = B := ⟨_, rfl⟩
  have H0 := hid ((St.init hB).alloc #[.int .i64 w, .int .i64 h, .int .i64 mx] 55 hB)
  by_cases hp : 1 ≤ w ∧ 1 ≤ h ∧ 1 ≤ mx
  · obtain ⟨h1, h2, h3⟩ := hp
    have hm := iOk_mul h1 h2 h3
    cases m1 : mOk w h 4294967296 with
    | false =>
      have e0 : iOk w h mx = false := by rw [hm, m1]; rfl
      have e1 : mVal w h 4294967296 = 0 := by simp [mVal, m1]
      rw [e0, iVal_no e0]
      clear hm e0
      go_enter Try.func73, Try.ntmps73
      go_wp2_with (first | (go_at_call 92; refine (mulAny _ _ _ _ (by omega)).mono ?_; rintro e w' ⟨rfl, rfl⟩))
      all_goals (go_ret2; exact ⟨rfl, by first | exact H0.out.below | exact H0.out.below'⟩)
    | true =>
      have e1 : mVal w h 4294967296 = w * h := by simp [mVal, m1]
      cases m2 : mOk (w * h) mx 4294967296 with
      | false =>
        have e0 : iOk w h mx = false := by rw [hm, m1, m2]; rfl
        have e2 : mVal (w * h) mx 4294967296 = 0 := by simp [mVal, m2]
        rw [e0, iVal_no e0]
        clear hm e0
        go_enter Try.func73, Try.ntmps73
        go_wp2_with (first | (go_at_call 92; refine (mulAny _ _ _ _ (by omega)).mono ?_; rintro e w' ⟨rfl, rfl⟩))
        all_goals (go_ret2; exact ⟨rfl, by first | exact H0.out.below | exact H0.out.below'⟩)
      | true =>
        have e0 : iOk w h mx = true := by rw [hm, m1, m2]; rfl
        have e2 : mVal (w * h) mx 4294967296 = w * h * mx := by simp [mVal, m2]
        rw [e0, iVal_yes e0]
        clear hm e0
        go_enter Try.func73, Try.ntmps73
        go_wp2_with (first | (go_at_call 92; refine (mulAny _ _ _ _ (by omega)).mono ?_; rintro e w' ⟨rfl, rfl⟩))
        all_goals (go_ret2; exact ⟨rfl, by first | exact H0.out.below | exact H0.out.below'⟩)
  · have e0 := iOk_no1 hp
    rw [e0, iVal_no e0]
    clear e0
    go_enter Try.func73, Try.ntmps73
    go_wp2_with (first | (go_at_call 92; refine (mulAny _ _ _ _ (by omega)).mono ?_; rintro e w' ⟨rfl, rfl⟩))
    all_goals first
      | (go_ret2; exact ⟨rfl, by first | exact H0.out.below | exact H0.out.below'⟩)
      | (exfalso; omega)

set_option maxRecDepth 100000 in
set_option maxHeartbeats 1600000 in
theorem qmost_any (w h mx : Int) (W : World) :
    Calls Try.prog 74 #[.agg #[.int .i64 w, .int .i64 h, .int .i64 mx]] W fun e w' => e = .returned (.tuple #[.int .i64 (iVal w h mx), .bool (iOk w h mx)]) ∧ Below W.heap.size W w' := by
  obtain ⟨B, hB⟩ : ∃ B, W.heap.size = B := ⟨_, rfl⟩
  have H0 := hid ((St.init hB).alloc #[.int .i64 w, .int .i64 h, .int .i64 mx] 55 hB)
  by_cases hp : 1 ≤ w ∧ 1 ≤ h ∧ 1 ≤ mx
  · obtain ⟨h1, h2, h3⟩ := hp
    have hm := iOk_mul h1 h2 h3
    cases m1 : mOk w h 4294967296 with
    | false =>
      have e0 : iOk w h mx = false := by rw [hm, m1]; rfl
      have e1 : mVal w h 4294967296 = 0 := by simp [mVal, m1]
      rw [e0, iVal_no e0]
      clear hm e0
      go_enter Try.func74, Try.ntmps74
      go_wp2_with (first | (go_at_call 93; refine (qmulAny _ _ _ _ (by omega)).mono ?_; rintro e w' ⟨rfl, rfl⟩))
      all_goals (go_ret2; exact ⟨rfl, by first | exact H0.out.below | exact H0.out.below'⟩)
    | true =>
      have e1 : mVal w h 4294967296 = w * h := by simp [mVal, m1]
      cases m2 : mOk (w * h) mx 4294967296 with
      | false =>
        have e0 : iOk w h mx = false := by rw [hm, m1, m2]; rfl
        have e2 : mVal (w * h) mx 4294967296 = 0 := by simp [mVal, m2]
        rw [e0, iVal_no e0]
        clear hm e0
        go_enter Try.func74, Try.ntmps74
        go_wp2_with (first | (go_at_call 93; refine (qmulAny _ _ _ _ (by omega)).mono ?_; rintro e w' ⟨rfl, rfl⟩))
        all_goals (go_ret2; exact ⟨rfl, by first | exact H0.out.below | exact H0.out.below'⟩)
      | true =>
        have e0 : iOk w h mx = true := by rw [hm, m1, m2]; rfl
        have e2 : mVal (w * h) mx 4294967296 = w * h * mx := by simp [mVal, m2]
        rw [e0, iVal_yes e0]
        clear hm e0
        go_enter Try.func74, Try.ntmps74
        go_wp2_with (first | (go_at_call 93; refine (qmulAny _ _ _ _ (by omega)).mono ?_; rintro e w' ⟨rfl, rfl⟩))
        all_goals (go_ret2; exact ⟨rfl, by first | exact H0.out.below | exact H0.out.below'⟩)
  · have e0 := iOk_no1 hp
    rw [e0, iVal_no e0]
    clear e0
    go_enter Try.func74, Try.ntmps74
    go_wp2_with (first | (go_at_call 93; refine (qmulAny _ _ _ _ (by omega)).mono ?_; rintro e w' ⟨rfl, rfl⟩))
    all_goals first
      | (go_ret2; exact ⟨rfl, by first | exact H0.out.below | exact H0.out.below'⟩)
      | (exfalso; omega)

set_option maxRecDepth 100000 in
theorem icheck_any (w h mx : Int) (W : World) :
    Calls Try.prog 40 #[.agg #[.int .i64 w, .int .i64 h, .int .i64 mx]] W fun e w' => e = .returned (.int .i64 (iCode w h mx)) ∧ Below W.heap.size W w' := by
  obtain ⟨B, hB⟩ : ∃ B, W.heap.size = B := ⟨_, rfl⟩
  have H0 := hid ((St.init hB).alloc #[.int .i64 w, .int .i64 h, .int .i64 mx] 55 hB)
  go_enter Try.func40, Try.ntmps40
  go_wp2_with fail
  refine (greatest_any _ _ _ _).mono ?_
  rintro e w1 ⟨rfl, hb⟩
  have H1 := hid (H0.out.call hb)
  clear hb
  cases hk : iOk w h mx with
  | false =>
    have HC := hid (show iCode w h mx = 11 by simp [iCode, hk])
    clear hk
    go_wp2_with fail
    go_ret
    exact ⟨ret_i HC.out.symm, by first | exact H1.out.below | exact H1.out.below'⟩
  | true =>
    have HC := hid (show iCode w h mx = 0 by simp [iCode, hk])
    clear hk
    go_wp2_with fail
    go_ret
    exact ⟨ret_i HC.out.symm, by first | exact H1.out.below | exact H1.out.below'⟩

set_option maxRecDepth 100000 in
theorem qicheck_any (w h mx : Int) (W : World) :
    Calls Try.prog 41 #[.agg #[.int .i64 w, .int .i64 h, .int .i64 mx]] W fun e w' => e = .returned (.int .i64 (iCode w h mx)) ∧ Below W.heap.size W w' := by
  obtain ⟨B, hB⟩ : ∃ B, W.heap.size = B := ⟨_, rfl⟩
  have H0 := hid ((St.init hB).alloc #[.int .i64 w, .int .i64 h, .int .i64 mx] 55 hB)
  go_enter Try.func41, Try.ntmps41
  go_wp2_with fail
  refine (qmost_any _ _ _ _).mono ?_
  rintro e w1 ⟨rfl, hb⟩
  have H1 := hid (H0.out.call hb)
  clear hb
  cases hk : iOk w h mx with
  | false =>
    have HC := hid (show iCode w h mx = 11 by simp [iCode, hk])
    clear hk
    go_wp2_with fail
    go_ret
    exact ⟨ret_i HC.out.symm, by first | exact H1.out.below | exact H1.out.below'⟩
  | true =>
    have HC := hid (show iCode w h mx = 0 by simp [iCode, hk])
    clear hk
    go_wp2_with fail
    go_ret
    exact ⟨ret_i HC.out.symm, by first | exact H1.out.below | exact H1.out.below'⟩

set_option maxRecDepth 100000 in
theorem checked_any (w h mx : Int) (a : Option Addr) (n c : Nat) (zs : List Int) (W : World) (hs : Slc W a n c zs) :
    Calls Try.prog 71 #[.agg #[.int .i64 w, .int .i64 h, .int .i64 mx, .slice a n c]] W fun e w' => e = .returned (.tuple #[.int .i64 (kVal w h mx zs), .int .i64 (kCode w h mx zs)]) ∧ Below W.heap.size W w' := by
  obtain ⟨B, hB⟩ : ∃ B, W.heap.size = B := ⟨_, rfl⟩
  have H0 := hid ((St.init hB).alloc #[.int .i64 w, .int .i64 h, .int .i64 mx, .slice a n c] 26 hB)
  have HS := hid hs
  clear hs
  go_enter Try.func71, Try.ntmps71
  go_wp2_with fail
  refine (pvalid_any _ _ _ _ _ _ _ _ (by have := HS.out.nc; have := HS.out.cap; omega) (H0.out.old HS.out).row).mono ?_
  rintro e w1 ⟨rfl, hb⟩
  have H1 := hid (H0.out.call hb)
  clear hb
  have x0 := H1.out.cell 0 rfl 0 rfl
  have x1 := H1.out.cell 0 rfl 1 rfl
  have x2 := H1.out.cell 0 rfl 2 rfl
  cases hv : pValid w h mx zs with
  | false =>
    have HV := hid hv
    clear hv
    go_wp2_with fail
    go_ret2
    exact ⟨ret_ii (by unfold kVal; rw [HV.out]; simp) (by unfold kCode; rw [HV.out]; simp), by first | exact H1.out.below | exact H1.out.below'⟩
  | true =>
    have HV := hid hv
    clear hv
    go_wp2_with fail
    refine (greatest_any _ _ _ _).mono ?_
    rintro e w2 ⟨rfl, hb⟩
    have H2 := hid (H1.out.call hb)
    clear hb x0 x1 x2
    cases hk : iOk w h mx with
    | false =>
      have HC := hid (show iCode w h mx = 11 by simp [iCode, hk])
      have HD := hid (iVal_no hk)
      clear hk
      go_wp2_with fail
      go_ret2
      exact ⟨ret_ii (by unfold kVal; rw [HV.out, HD.out]; simp) (by unfold kCode; rw [HV.out, HC.out]; simp), by first | exact H2.out.below | exact H2.out.below'⟩
    | true =>
      have HC := hid (show iCode w h mx = 0 by simp [iCode, hk])
      clear hk
      go_wp2_with fail
      go_ret2
      exact ⟨ret_ii (by unfold kVal; rw [HV.out]; simp) (by unfold kCode; rw [HV.out, HC.out]; simp), by first | exact H2.out.below | exact H2.out.below'⟩

set_option maxRecDepth 100000 in
theorem qchecked_any (w h mx : Int) (a : Option Addr) (n c : Nat) (zs : List Int) (W : World) (hs : Slc W a n c zs) :
    Calls Try.prog 75 #[.agg #[.int .i64 w, .int .i64 h, .int .i64 mx, .slice a n c]] W fun e w' => e = .returned (.tuple #[.int .i64 (kVal w h mx zs), .int .i64 (kCode w h mx zs)]) ∧ Below W.heap.size W w' := by
  obtain ⟨B, hB⟩ : ∃ B, W.heap.size = B := ⟨_, rfl⟩
  have H0 := hid ((St.init hB).alloc #[.int .i64 w, .int .i64 h, .int .i64 mx, .slice a n c] 26 hB)
  have HS := hid hs
  clear hs
  go_enter Try.func75, Try.ntmps75
  go_wp2_with fail
  refine (qpvalid_any _ _ _ _ _ _ _ _ (by have := HS.out.nc; have := HS.out.cap; omega) (H0.out.old HS.out).row).mono ?_
  rintro e w1 ⟨rfl, hb⟩
  have H1 := hid (H0.out.call hb)
  clear hb
  have x0 := H1.out.cell 0 rfl 0 rfl
  have x1 := H1.out.cell 0 rfl 1 rfl
  have x2 := H1.out.cell 0 rfl 2 rfl
  cases hv : pValid w h mx zs with
  | false =>
    have HV := hid hv
    clear hv
    go_wp2_with fail
    go_ret2
    exact ⟨ret_ii (by unfold kVal; rw [HV.out]; simp) (by unfold kCode; rw [HV.out]; simp), by first | exact H1.out.below | exact H1.out.below'⟩
  | true =>
    have HV := hid hv
    clear hv
    go_wp2_with fail
    refine (qmost_any _ _ _ _).mono ?_
    rintro e w2 ⟨rfl, hb⟩
    have H2 := hid (H1.out.call hb)
    clear hb x0 x1 x2
    cases hk : iOk w h mx with
    | false =>
      have HC := hid (show iCode w h mx = 11 by simp [iCode, hk])
      have HD := hid (iVal_no hk)
      clear hk
      go_wp2_with fail
      go_ret2
      exact ⟨ret_ii (by unfold kVal; rw [HV.out, HD.out]; simp) (by unfold kCode; rw [HV.out, HC.out]; simp), by first | exact H2.out.below | exact H2.out.below'⟩
    | true =>
      have HC := hid (show iCode w h mx = 0 by simp [iCode, hk])
      clear hk
      go_wp2_with fail
      go_ret2
      exact ⟨ret_ii (by unfold kVal; rw [HV.out]; simp) (by unfold kCode; rw [HV.out, HC.out]; simp), by first | exact H2.out.below | exact H2.out.below'⟩
end Go.Proofs.Ytoojiabdgaflgaa
