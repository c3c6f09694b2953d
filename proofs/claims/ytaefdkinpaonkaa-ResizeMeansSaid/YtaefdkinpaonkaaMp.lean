/-
  A map of rows that the call makes: its block as a part of the memory, what each key holds, look-ups and stores.
-/
import Derived.Test.YtaefdkinpaonkaaTaps
import Derived.Maps.OwnOps
import Derived.Maps.Views
namespace Go.Proofs.Ytaefdkinpaonkaa
open Go.RowKit Go.Maps Go.ChangeMaps Go.MapKept
open Go.WideElems (Fit rd rg pl)
set_option linter.unusedVariables false

/-- How an element reads: as itself. -/
def mR (v : Value) : Option (DataW Value × List MemPlace) := some (.held v, [])
def nilV : Value := .slice none 0 0
def mD (P : Program) (kt : TypeId) (es : Array MapEntry) : DataW Value := .map ((es.toList.map (rg P kt mR)).foldr DataW.insert [])
/-- The entries of a map keyed by integers: the key k holds g k (nil where there is none). -/
structure Mp (P : Program) (kt : TypeId) (g : Int → Value) (n : Nat) (es : Array MapEntry) (cl : Nat) : Prop where
  fit : Fit P kt mR es cl
  sz : es.size ≤ n
  here : ∀ k : Int, (mD P kt es).atKey (.int .i64 k) (.held nilV) = .held (g k)
theorem Mp.empty (P : Program) (kt : TypeId) : Mp P kt (fun _ => nilV) 0 #[] 0 := ⟨⟨by simp, stamped_empty 0, by simp⟩, Nat.le_refl _, fun k => rfl⟩
theorem Mp.mono {P : Program} {kt : TypeId} {g : Int → Value} {n n' : Nat} {es : Array MapEntry} {cl : Nat} (h : Mp P kt g n es cl) (hn : n ≤ n') : Mp P kt g n' es cl := ⟨h.fit, Nat.le_trans h.sz hn, h.here⟩
theorem wf_i64 {k : Int} (h : -9223372036854775808 ≤ k ∧ k ≤ 9223372036854775807) : (Lit.int .i64 k).wf = true := WalkArith.wf_i64 (by omega)
theorem Mp.look {P : Program} {kt t e : TypeId} {g : Int → Value} {n : Nat} {es : Array MapEntry} {cl : Nat} {w : World} {b : Nat} (h : Mp P kt g n es cl) (hb : w.heap[b]? = some (.map es cl)) (hk : P.underlying kt = some (.int .i64)) (ht : P.underlying t = some (.map kt e)) (hz : (zeroValue e).run P w = .ok nilV w)
    {k : Int} (hI : -9223372036854775808 ≤ k ∧ k ≤ 9223372036854775807) : (Instr.lookup t (.map (some b)) (.int .i64 k) false).run P w = .ok (g k) w := by
  have hkey := keyOf_int_mk hk (wf_i64 hI)
  have ha := h.here k
  rcases fit_look false (int_keyed hk) ht hz hb h.fit hkey with ⟨hrun, _, hat⟩ | ⟨e0, y, _, _, hrun, hRv, hat, _⟩
  · have := hat (.held nilV)
    unfold mD at ha
    rw [ha] at this
    injection this with e1
    rw [e1]; exact hrun
  · have := hat (.held nilV)
    unfold mD at ha
    rw [ha] at this
    simp only [mR, Option.some.injEq] at hRv
    rw [← hRv] at this
    injection this with e1
    rw [e1]; exact hrun
theorem Mp.put {P : Program} {kt t e : TypeId} {g : Int → Value} {n : Nat} {es : Array MapEntry} {cl : Nat} {w : World} {b : Nat} (h : Mp P kt g n es cl) (hb : w.heap[b]? = some (.map es cl)) (hk : P.underlying kt = some (.int .i64)) (ht : P.underlying t = some (.map kt e)) (hn : n < maxLen)
    {k : Int} (hI : -9223372036854775808 ≤ k ∧ k ≤ 9223372036854775807) (v : Value) : ∃ es' cl', (Instr.mapUpdate t (.map (some b)) (.int .i64 k) v).run P w = .ok () (setBlock w b (.map es' cl')) ∧ Mp P kt (fun x => if x = k then v else g x) (n + 1) es' cl' := by
  have K := int_keyed hk
  have hkey := keyOf_int_mk hk (wf_i64 hI)
  have hlit : WideAt.IsKeyLit (.int .i64 k) := K.key hkey
  obtain ⟨es', clock', hrun, F', hput, _⟩ := fit_store (R' := mR) K ht hb h.fit (Nat.lt_of_le_of_lt h.sz hn) (fun _ _ _ _ hz => hz) hkey (yv := (.held v, [])) (val := v) rfl
  have hD : mD P kt es' = (mD P kt es).put (.int .i64 k) (.held v) := by unfold mD; rw [DataW.put_eq, hput]
  refine ⟨es', clock', hrun, F', ?_, fun x => ?_⟩
  · have e1 : es'.size = ((es'.toList.map (rg P kt mR)).foldr DataW.insert []).length := by rw [length_sorted]; simp
    rw [e1, hput]
    unfold putKey
    rw [length_insert]
    have e2 := List.length_filter_le (notKey (.int .i64 k)) ((es.toList.map (rg P kt mR)).foldr DataW.insert [])
    rw [length_sorted] at e2
    simp at e2
    have := h.sz
    omega
  · rw [hD]
    by_cases hx : x = k
    · subst hx; rw [if_pos rfl]; exact atKey_put_same ⟨_, rfl⟩ hlit _ _
    · rw [if_neg hx, atKey_put_other (fun e1 => hx (by injection e1))]; exact h.here x
/-- Each key holds nothing or a row that is only read, of the list f k. -/
def GOk (rs : List Ro) (f : Int → List Int) (g : Int → Value) : Prop := ∀ k, g k = nilV ∨ ∃ r ∈ rs, g k = r.v ∧ r.zs = f k
theorem GOk.empty (rs : List Ro) (f : Int → List Int) : GOk rs f (fun _ => nilV) := fun _ => .inl rfl
theorem GOk.put {rs : List Ro} {f : Int → List Int} {g : Int → Value} (h : GOk rs f g) {k : Int} {r : Ro} (hz : r.zs = f k) : GOk (r :: rs) f (fun x => if x = k then r.v else g x) := fun x => by
  show (if x = k then r.v else g x) = nilV ∨ ∃ r' ∈ r :: rs, (if x = k then r.v else g x) = r'.v ∧ r'.zs = f x
  by_cases hx : x = k
  · subst hx; rw [if_pos rfl]; exact .inr ⟨r, List.mem_cons_self, rfl, hz⟩
  · rw [if_neg hx]
    rcases h x with h1 | ⟨r', h1, h2⟩
    · exact .inl h1
    · exact .inr ⟨r', List.mem_cons_of_mem _ h1, h2⟩
section
variable {B : Nat} {W w w' : World} {l : List Ch} {rs : List Ro}
theorem St.blkAt (h : St B W l rs w) (i : Nat) {b : Nat} {o : Obj} (hi : l[i]? = some (.blk b o)) : w.heap[b]? = some o := (h.all i _ hi).2
theorem St.newBlk (h : St B W l rs w) (o : Obj) {D : Nat} (hD : w.heap.size = D) : St B W (.blk D o :: l) rs (w.alloc o) :=
  h.new (below_self _ _) ⟨by have := h.size; omega, by rw [← hD]; exact heap_alloc_new w o⟩ (fun b hb => by cases hb; omega)
theorem St.setBlk (h : St B W l rs w) (i : Nat) {b : Nat} {es : Array MapEntry} {cl : Nat} (hi : l[i]? = some (.blk b (.map es cl))) (o' : Obj) : St B W (l.set i (.blk b o')) rs (setBlock w b o') := by
  have hb := h.all i _ hi
  have hg : w.grownBy (setBlock w b o') (some b) := ⟨rfl, rfl, rfl, by simp [setBlock], fun i _ hi => heap_setBlock_other hb.2 _ (fun e => hi (by rw [e]))⟩
  exact h.upd i hi (h.since.grown hg hb.1) ⟨hb.1, heap_setBlock_same hb.2 _⟩ (fun _ e => .inl e) (fun k hlt hk => hg.block k hlt (fun e => hk e.symm))
end
end Go.Proofs.Ytaefdkinpaonkaa
