/-
  A region that draws its order and stores into cells that it has loaded: what is held of the world may be given up cell by cell, once the store has come up.
-/
import Derived.Test.YtocikgdkigcjbaaTake
import Derived.Deep.RegionHeld
namespace Go.Proofs.Ytocikgdkigcjbaa
open Go.RowKit

/-- Facts on the world, each as long as an operation has not come up. -/
def Sx (js : List (Nat × (World → Prop))) (L : Array Bool) (w : World) : Prop := ∀ p ∈ js, L.getD p.1 true = false → p.2 w
theorem Sx.nil (L : Array Bool) (w : World) : Sx [] L w := fun p hp => by cases hp
theorem Sx.cons {p : Nat × (World → Prop)} {js : List (Nat × (World → Prop))} {L : Array Bool} {w : World} (h : L.getD p.1 true = false → p.2 w) (t : Sx js L w) : Sx (p :: js) L w := fun q hq => by
  rcases List.mem_cons.1 hq with rfl | hq
  · exact h
  · exact t q hq
theorem Sx.same {js : List (Nat × (World → Prop))} {i : Nat} (h : js.all (fun p => p.1 != i) = true) (L : Array Bool) (w : World) : Sx js (L.setIfInBounds i true) w ↔ Sx js L w := by
  have hne : ∀ p ∈ js, i ≠ p.1 := fun p hp e => by have := List.all_eq_true.1 h p hp; simp [e] at this
  constructor
  · intro hs p hp hl; exact hs p hp (by rw [getD_set_ne true (hne p hp)]; exact hl)
  · intro hs p hp hl; exact hs p hp (by rwa [getD_set_ne true (hne p hp)] at hl)
section
variable {P : Program} {md : Region.Mode} {ops : Array Oper} {Q : Exit → Act → World → Prop} {js : List (Nat × (World → Prop))}
def wpAnyG (P : Program) (md : Region.Mode) (ops : Array Oper) (Q : Exit → Act → World → Prop) (js : List (Nat × (World → Prop))) : Nat → Array Bool → Act → World → Prop
  | 0, L, a, w => Region.ready md ops L = [] ∧ Q .normal a w
  | fuel + 1, L, a, w => (Region.ready md ops L = [] → Q .normal a w) ∧
      ∀ i ∈ Region.ready md ops L, wpOp P ops Q i (fun a' w' => Sx js (L.setIfInBounds i true) w' ∧ wpAnyG P md ops Q js fuel (L.setIfInBounds i true) a' w') a w
theorem wpAny_of_G : ∀ (fuel : Nat) (L : Array Bool) (a : Act) (w : World), wpAnyG P md ops Q js fuel L a w → wpAny P md ops Q fuel L a w
  | 0, _, _, _, h => h
  | fuel + 1, _, _, _, h => ⟨h.1, fun i hi => wpOp_mono (fun a' w' h' => wpAny_of_G fuel _ a' w' h'.2) (h.2 i hi)⟩
theorem wpAnyG_first {i : Nat} {oi : Oper} {v : Value} (hi : ops[i]? = some oi) (hsel : ∀ (j : Nat) (o : Oper) cs b, ops[j]? = some o → o.op ≠ .select cs b)
    (hQ : ∀ c a w, Q (.panic c) (a.put oi.dst v) w → Q (.panic c) a w) (hall : js.all (fun p => p.1 != i) = true) (In : Array Bool → Prop)
    (hIn : ∀ L k, In L → L.getD i true = false → k ∈ Region.ready md ops L → k ≠ i → In (L.setIfInBounds k true)) :
    ∀ (fuel : Nat) (L : Array Bool) (a : Act) (w : World),
      (∀ j oj, ops[j]? = some oj → j ≠ i → L.getD j true = false → (∀ e ∈ oj.after, Region.binds md e = true → e.on ≠ i) → oi.apart ops oj = true) →
      i ∈ Region.ready md ops L → YieldsIf P ops (fun w => ∃ L, In L ∧ Sx js L w) oi v a → In L → Sx js L w →
      wpAnyG P md ops Q js fuel (L.setIfInBounds i true) (a.put oi.dst v) w → wpAnyG P md ops Q js (fuel + 1) L a w := by
  intro fuel
  induction fuel with
  | zero =>
    intro L a w _ hr hy hL hS H
    refine ⟨fun h => (by rw [h] at hr; cases hr), fun j hj => ?_⟩
    by_cases hji : j = i
    · subst hji; exact hy.wpOp hi ⟨L, hL, hS⟩ ⟨(Sx.same hall L w).2 hS, H⟩
    · have := ready_mono hj hji
      rw [H.1] at this
      cases this
  | succ fuel ih =>
    intro L a w hfree hr hy hL hS H
    refine ⟨fun h => (by rw [h] at hr; cases hr), fun j hj => ?_⟩
    by_cases hji : j = i
    · subst hji; exact hy.wpOp hi ⟨L, hL, hS⟩ ⟨(Sx.same hall L w).2 hS, H⟩
    · have h1 := H.2 j (ready_mono hj hji)
      obtain ⟨hjun, oj, hoj, hja⟩ := mem_ready.1 hj
      have hiun := (mem_ready.1 hr).1
      have hnot : ∀ e ∈ oj.after, Region.binds md e = true → e.on ≠ i := fun e he hb heq => by
        have h1 := hja e he hb
        rw [heq] at h1
        rcases Nat.lt_or_ge i L.size with h' | h'
        · simp [h'] at hiun h1; rw [hiun] at h1; cases h1
        · simp [Array.getElem?_eq_none h'] at h1
      have h2 := wpOp_putIf hoj (hfree j oj hoj hji hjun hnot) (fun cs b => hsel i oi cs b hi) (fun cs b => hsel j oj cs b hoj) hQ hy h1
      have hfree' : ∀ k ok, ops[k]? = some ok → k ≠ i → (L.setIfInBounds j true).getD k true = false →
          (∀ e ∈ ok.after, Region.binds md e = true → e.on ≠ i) → oi.apart ops ok = true := fun k ok hk hki hun hno => by
        refine hfree k ok hk hki ?_ hno
        by_cases hjk : j = k
        · subst hjk; exact hjun
        · rw [getD_set_ne true hjk] at hun; exact hun
      refine wpOp_mono (fun a' w' h3 => ?_) h2
      have hS3 : Sx js (L.setIfInBounds j true) w' := (Sx.same hall _ w').1 (by rw [Array.setIfInBounds_comm _ _ hji]; exact h3.2.1)
      refine ⟨hS3, ih (L.setIfInBounds j true) a' w' hfree' (ready_mono hr (Ne.symm hji)) h3.1 (hIn L j hL hiun hj hji) hS3 ?_⟩
      rw [Array.setIfInBounds_comm _ _ hji]
      exact h3.2.2
/-- The operation j waits for i. -/
def waits (md : Region.Mode) (ops : Array Oper) (j i : Nat) : Bool := match ops[j]? with | none => false | some o => o.after.any fun e => Region.binds md e && e.on == i
/-- A pure operation first. -/
theorem tgP (i : Nat) {oi : Oper} {v : Value} {fuel : Nat} {L : Array Bool} {a : Act} {w : World} (hS : Sx js L w) (h : Sx js (L.setIfInBounds i true) w → wpAnyG P md ops Q js fuel (L.setIfInBounds i true) (a.put oi.dst v) w) (hi : ops[i]? = some oi := by exact rfl)
    (hs : Region.noSelect ops = true := by kernel_rfl) (hf : Region.free md ops L i = true := by kernel_rfl) (hr : (Region.ready md ops L).contains i = true := by kernel_rfl)
    (hw : Region.wanted oi (yielded ops a.tmps) = true := by rfl) (hy : ∀ w, (execOp a.eval oi).run P w = .ok (.value v) w := by (intro wS; go_simp; (try with_reducible rfl)))
    (hQ : ∀ c a w, Q (.panic c) (a.put oi.dst v) w → Q (.panic c) a w := by exact fun _ _ _ h => h) (hall : js.all (fun p => p.1 != i) = true := by rfl) : wpAnyG P md ops Q js (fuel + 1) L a w :=
  wpAnyG_first hi (Region.noSelect_spec hs) hQ hall (fun _ => True) (fun _ _ _ _ _ _ => trivial) fuel L a w (Region.free_spec hi hf) (by simpa using hr) (Or.inl ⟨hw, fun w _ => hy w⟩) trivial hS (h ((Sx.same hall L w).2 hS))
/-- A load first, whose cell a later store hits. -/
theorem tgL (i k : Nat) {j : Nat} {C : World → Prop} {oi : Oper} {v : Value} {fuel : Nat} {L : Array Bool} {a : Act} {w : World} (hS : Sx js L w) (h : Sx js (L.setIfInBounds i true) w → wpAnyG P md ops Q js fuel (L.setIfInBounds i true) (a.put oi.dst v) w) (hk : js[k]? = some (j, C) := by rfl) (hi : ops[i]? = some oi := by exact rfl)
    (hs : Region.noSelect ops = true := by kernel_rfl) (hf : Region.free md ops L i = true := by kernel_rfl) (hr : (Region.ready md ops L).contains i = true := by kernel_rfl)
    (hw : Region.wanted oi (yielded ops a.tmps) = true := by rfl) (hy : ∀ w, C w → (execOp a.eval oi).run P w = .ok (.value v) w := by (intro wS hSw; (try dsimp only at hSw); go_simp; (try with_reducible rfl)))
    (hj : L.getD j true = false := by kernel_rfl) (hwt : waits md ops j i = true := by kernel_rfl)
    (hQ : ∀ c a w, Q (.panic c) (a.put oi.dst v) w → Q (.panic c) a w := by exact fun _ _ _ h => h) (hall : js.all (fun p => p.1 != i) = true := by rfl) : wpAnyG P md ops Q js (fuel + 1) L a w := by
  have hstep : ∀ (L : Array Bool) (k : Nat), L.getD j true = false → L.getD i true = false → k ∈ Region.ready md ops L → k ≠ i → (L.setIfInBounds k true).getD j true = false := fun L k hLj hLi hkr hki => by
    by_cases hkj : k = j
    · exfalso
      subst hkj
      obtain ⟨_, ok, hok, hall⟩ := mem_ready.1 hkr
      unfold waits at hwt
      rw [hok] at hwt
      obtain ⟨e, he, hb⟩ := Array.any_eq_true'.1 hwt
      simp only [Bool.and_eq_true, beq_iff_eq] at hb
      have h1 := hall e he hb.1
      rw [hb.2] at h1
      rcases Nat.lt_or_ge i L.size with h' | h'
      · simp [h'] at hLi h1; rw [hLi] at h1; cases h1
      · simp [Array.getElem?_eq_none h'] at h1
    · rw [getD_set_ne true hkj]; exact hLj
  exact wpAnyG_first hi (Region.noSelect_spec hs) hQ hall (fun L => L.getD j true = false) hstep fuel L a w (Region.free_spec hi hf) (by simpa using hr)
    (Or.inl ⟨hw, fun w ⟨L', hL', hS'⟩ => hy w (hS' (j, C) (List.mem_of_getElem? hk) hL')⟩) hj hS (h ((Sx.same hall L w).2 hS))
def AllReadyG (P : Program) (md : Region.Mode) (ops : Array Oper) (Q : Exit → Act → World → Prop) (js : List (Nat × (World → Prop))) (fuel : Nat) (L : Array Bool) (a : Act) (w : World) (rs : List Nat) : Prop :=
  ∀ i ∈ rs, wpOp P ops Q i (fun a' w' => Sx js (L.setIfInBounds i true) w' ∧ wpAnyG P md ops Q js fuel (L.setIfInBounds i true) a' w') a w
theorem AllReadyG.nil {fuel : Nat} {L : Array Bool} {a : Act} {w : World} : AllReadyG P md ops Q js fuel L a w [] := fun _ h => by cases h
theorem AllReadyG.cons {fuel : Nat} {L : Array Bool} {a : Act} {w : World} {i : Nat} {o : Oper} {rs : List Nat} (ho : ops[i]? = some o)
    (h : ∀ K' : Act → World → Prop, Shut (∀ a w, Sx js (L.setIfInBounds i true) w → (Sx js (L.setIfInBounds i true) w → wpAnyG P md ops Q js fuel (L.setIfInBounds i true) a w) → K' a w) → if Region.wanted o (yielded ops a.tmps) = true then Oper.wp P o a w K' Q else K' (a.put o.dst undef) w)
    (hs : AllReadyG P md ops Q js fuel L a w rs) : AllReadyG P md ops Q js fuel L a w (i :: rs) := fun j hj => by
  rcases List.mem_cons.1 hj with rfl | hj
  · exact wpOp_step ho (fun K' hK => h K' (fun a w hS hW => hK a w ⟨hS, hW hS⟩))
  · exact hs j hj
theorem wpAnyG_ready {rs : List Nat} {fuel : Nat} {L : Array Bool} {a : Act} {w : World} (hr : Region.ready md ops L = rs) (hne : rs ≠ [])
    (h : AllReadyG P md ops Q js fuel L a w rs) : wpAnyG P md ops Q js (fuel + 1) L a w := ⟨fun h0 => absurd (hr ▸ h0) hne, hr ▸ h⟩
theorem wpAnyG_done {L : Array Bool} {a : Act} {w : World} (hr : Region.ready md ops L = []) (h : Q .normal a w) : ∀ fuel, wpAnyG P md ops Q js fuel L a w
  | 0 => ⟨hr, h⟩
  | _ + 1 => ⟨fun _ => h, by rw [hr]; simp⟩
theorem wp_region_G (js : List (Nat × (World → Prop))) {id : Nat} {a : Act} {w : World} (hm : P.follows .mixedOrders = true) (hS : Sx js (Array.replicate ops.size false) w.drew)
    (h : Sx js (Array.replicate ops.size false) w.drew → wpAnyG P .any ops Q js ops.size (Array.replicate ops.size false) a w.drew) : (Code.region id ops true).wp P Q a w := wp_region_any hm (wpAny_of_G _ _ _ _ (h hS))
end
end Go.Proofs.Ytocikgdkigcjbaa
