/-
  The memory of a call as a list of parts that lie apart: boxes, rows of integers, tapes; and rows that are only read.
-/
import Derived.Test.YtoojiabdgaflgaaMake
import Derived.Test.YtoojiabdgaflgaaTape
namespace Go.Proofs.Ytoojiabdgaflgaa
open Go.RowKit

inductive Ch where
  | cells (b : Nat) (cs : Array Value) (t : TypeId)
  | own (v : Value) (zs : List Int)
  | arr (e : TypeId) (sz : Nat) (v : Value) (n : Nat) (vs : List Value)
  | tape (k : Nat)
structure Ro where
  a : Option Addr
  n : Nat
  c : Nat
  zs : List Int

def Ch.block : Ch → Option Nat
  | .cells b _ _ => some b
  | .own v _ => v.ownBlock
  | .arr _ _ v _ _ => v.ownBlock
  | .tape k => some k
def Ch.at (B : Nat) (w : World) : Ch → Prop
  | .cells b cs t => B ≤ b ∧ w.heap[b]? = some (.cells cs t (0, 0))
  | .own v zs => Own B w v zs
  | .arr e sz v n vs => w.ownsRow B e sz v n vs
  | .tape k => TapeB B w k

theorem ownsRow_keep {w w' : World} {B : Nat} {e : TypeId} {sz : Nat} {v : Value} {n : Nat} {vs : List Value} (h : w.ownsRow B e sz v n vs) (hk : ∀ b, v.ownBlock = some b → w'.heap[b]? = w.heap[b]?) : w'.ownsRow B e sz v n vs := by
  refine ⟨h.1, ?_⟩
  rcases h.2 with h' | ⟨g, cap, cur, rfl, h1, h2, h3⟩
  · exact .inl h'
  · exact .inr ⟨g, cap, cur, rfl, h1, by rw [hk g rfl]; exact h2, h3⟩
theorem TapeB.keep {w w' : World} {B k : Nat} (h : TapeB B w k) (hk : w'.heap[k]? = w.heap[k]?) (hB : ∀ j, j < B → w'.heap[j]? = w.heap[j]?) : TapeB B w' k := by
  obtain ⟨h0, a, n, c, zs, t, h1, h2, h3, h4, h5⟩ := h
  refine ⟨h0, a, n, c, zs, t, by rw [hk]; exact h1, h2, h3, h4.keep ?_, h5⟩
  intro b _ ⟨x, e, hx⟩ hn
  rcases h5 with h0 | ⟨y, e', hy⟩
  · omega
  · rw [e] at e'; cases e'; exact hB b (by omega)
theorem Ch.bound {B : Nat} {w : World} {c : Ch} {b : Nat} (h : c.at B w) (hb : c.block = some b) : B ≤ b ∧ b < w.heap.size := by
  cases c with
  | cells b' cs t => cases hb; exact ⟨h.1, lt_of_block h.2⟩
  | own v zs => exact World.ownsRow.lt (show w.ownsRow B _ _ _ _ _ from h) b hb
  | arr e sz v n vs => exact World.ownsRow.lt (show w.ownsRow B _ _ _ _ _ from h) b hb
  | tape k => cases hb; exact ⟨h.1, TapeB.lt h⟩
theorem Ch.keep {B : Nat} {w w' : World} {c : Ch} (h : c.at B w) (hk : ∀ b, c.block = some b → w'.heap[b]? = w.heap[b]?) (hB : ∀ j, j < B → w'.heap[j]? = w.heap[j]?) : c.at B w' := by
  cases c with
  | cells b' cs t => exact ⟨h.1, by rw [hk b' rfl]; exact h.2⟩
  | own v zs => exact ownsRow_keep (show w.ownsRow B _ _ _ _ _ from h) hk
  | arr e sz v n vs => exact ownsRow_keep (show w.ownsRow B _ _ _ _ _ from h) hk
  | tape k => exact TapeB.keep h (hk k rfl) hB

structure St (B : Nat) (W : World) (l : List Ch) (rs : List Ro) (w : World) : Prop where
  hB : W.heap.size = B
  since : Since B W w
  all : ∀ (i : Nat) c, l[i]? = some c → c.at B w
  sep : ∀ (i j : Nat) c d b, l[i]? = some c → l[j]? = some d → i ≠ j → c.block = some b → d.block = some b → False
  ro : ∀ (i : Nat) r, rs[i]? = some r → Slc w r.a r.n r.c r.zs ∧ ∀ (j : Nat) c b, l[j]? = some c → c.block = some b → Far r.a r.n b

section
variable {B : Nat} {W w w' : World} {l : List Ch} {rs : List Ro}
theorem St.below (h : St B W l rs w) : Below W.heap.size W w := h.since.all h.hB
theorem St.below' (h : St B W l rs w) : Below B W w := h.since.below
theorem St.size (h : St B W l rs w) : B ≤ w.heap.size := h.since.size
theorem St.init {W : World} (hB : W.heap.size = B) : St B W [] [] W := ⟨hB, Since.self hB, fun i c h => by simp at h, fun i j c d b h => by simp at h, fun i r h => by simp at h⟩
theorem St.old (h : St B W l rs w) {a : Option Addr} {n c : Nat} {zs : List Int} (hs : Slc W a n c zs) : Slc w a n c zs := hs.call h.below
theorem St.oldRow (h : St B W l rs w) {k : IntKind} {a : Option Addr} {n : Nat} {zs : List Int} (hs : Row W k a n zs) : Row w k a n zs := hs.below h.below

theorem Far.keepSlc {a : Option Addr} {n c : Nat} {zs : List Int} (h : Slc w a n c zs) (hk : ∀ b, b < w.heap.size → (∃ x, a = some x ∧ x.block = b) → 0 < n → w'.heap[b]? = w.heap[b]?) : Slc w' a n c zs := ⟨h.row.keep hk, h.nc, h.cap⟩

/-- One part may change; the others and what lies below stay. -/
theorem St.upd (h : St B W l rs w) (i : Nat) {c c' : Ch} (hi : l[i]? = some c) (hS : Since B W w') (hc : c'.at B w')
    (hbk : ∀ b, c'.block = some b → c.block = some b ∨ w.heap.size ≤ b) (hk : ∀ k, k < w.heap.size → c.block ≠ some k → w'.heap[k]? = w.heap[k]?) : St B W (l.set i c') rs w' := by
  have hlow : ∀ j, j < B → w'.heap[j]? = w.heap[j]? := fun j hj => hk j (Nat.lt_of_lt_of_le hj h.size) (fun e => by have := (Ch.bound (h.all i c hi) e).1; omega)
  have hget : ∀ j d, (l.set i c')[j]? = some d → (j = i ∧ d = c') ∨ (j ≠ i ∧ l[j]? = some d) := fun j d hj => by
    rw [List.getElem?_set] at hj
    by_cases e : i = j
    · subst e
      have : i < l.length := by rcases List.getElem?_eq_some_iff.1 hi with ⟨h', _⟩; exact h'
      simp [this] at hj
      exact .inl ⟨rfl, hj.symm⟩
    · rw [if_neg e] at hj; exact .inr ⟨fun e' => e e'.symm, hj⟩
  have hoth : ∀ j d b, j ≠ i → l[j]? = some d → d.block = some b → w'.heap[b]? = w.heap[b]? := fun j d b hne hj hb =>
    hk b (Ch.bound (h.all j d hj) hb).2 (fun e => h.sep i j c d b hi hj (fun e' => hne e'.symm) e hb)
  refine ⟨h.hB, hS, fun j d hj => ?_, fun j1 j2 c1 c2 b h1 h2 hne hb1 hb2 => ?_, fun j r hr => ?_⟩
  · rcases hget j d hj with ⟨rfl, rfl⟩ | ⟨hne, hj'⟩
    · exact hc
    · exact Ch.keep (h.all j d hj') (fun b hb => hoth j d b hne hj' hb) hlow
  · rcases hget j1 c1 h1 with ⟨rfl, rfl⟩ | ⟨hn1, h1'⟩ <;> rcases hget j2 c2 h2 with ⟨rfl, rfl⟩ | ⟨hn2, h2'⟩
    · exact hne rfl
    · rcases hbk b hb1 with e | e
      · exact h.sep _ _ _ _ b hi h2' hne e hb2
      · have := (Ch.bound (h.all _ _ h2') hb2).2; omega
    · rcases hbk b hb2 with e | e
      · exact h.sep _ _ _ _ b h1' hi hne hb1 e
      · have := (Ch.bound (h.all _ _ h1') hb1).2; omega
    · exact h.sep _ _ _ _ b h1' h2' hne hb1 hb2
  · obtain ⟨s, f⟩ := h.ro j r hr
    refine ⟨Far.keepSlc s fun b hb hx hn => hk b hb fun e => ?_, fun j' d b hd hb => ?_⟩
    · rcases f i c b hi e with h0 | ⟨y, ey, hy⟩
      · omega
      · obtain ⟨x, ex, hx⟩ := hx
        rw [ex] at ey; cases ey; exact hy hx
    · rcases hget j' d hd with ⟨rfl, rfl⟩ | ⟨_, hd'⟩
      · rcases hbk b hb with e | e
        · exact f _ _ b hi e
        · exact s.far e
      · exact f _ _ b hd' hb

theorem St.call (h : St B W l rs w) (hb : Below w.heap.size w w') : St B W l rs w' := by
  refine ⟨h.hB, h.since.call hb, fun i c hc => Ch.keep (h.all i c hc) (fun b hbk => hb.block b (Ch.bound (h.all i c hc) hbk).2) (fun j hj => hb.block j (Nat.lt_of_lt_of_le hj h.size)), h.sep, fun i r hr => ⟨(h.ro i r hr).1.call hb, (h.ro i r hr).2⟩⟩
theorem St.drewN (h : St B W l rs w) (m : Nat) : St B W l rs (w.drewN m) := h.call (below_drewN (Below.refl _ _) _)
theorem St.drew (h : St B W l rs w) : St B W l rs w.drew := h.call (Below.refl _ _).drew

/-- A new part. -/
theorem St.newOf (h : St B W l rs w) (h' : St B W l rs w') {c : Ch} (hc : c.at B w') (hn : ∀ b, c.block = some b → w.heap.size ≤ b) : St B W (c :: l) rs w' := by
  have hget : ∀ (j : Nat) d, (c :: l)[j]? = some d → (j = 0 ∧ d = c) ∨ ∃ j', j = j' + 1 ∧ l[j']? = some d := fun j d hj => by
    cases j with
    | zero => simp at hj; exact .inl ⟨rfl, hj.symm⟩
    | succ j => simp at hj; exact .inr ⟨j, rfl, hj⟩
  refine ⟨h.hB, h'.since, fun j d hj => ?_, fun j1 j2 c1 c2 b h1 h2 hne hb1 hb2 => ?_, fun j r hr => ⟨(h'.ro j r hr).1, fun j' d b hd hbk => ?_⟩⟩
  · rcases hget j d hj with ⟨rfl, rfl⟩ | ⟨j', rfl, hj'⟩
    · exact hc
    · exact h'.all _ _ hj'
  · rcases hget j1 c1 h1 with ⟨rfl, rfl⟩ | ⟨j1', rfl, h1'⟩ <;> rcases hget j2 c2 h2 with ⟨rfl, rfl⟩ | ⟨j2', rfl, h2'⟩
    · exact hne rfl
    · have := hn b hb1; have := (Ch.bound (h.all _ _ h2') hb2).2; omega
    · have := hn b hb2; have := (Ch.bound (h.all _ _ h1') hb1).2; omega
    · exact h.sep _ _ _ _ b h1' h2' (by omega) hb1 hb2
  · rcases hget j' d hd with ⟨rfl, rfl⟩ | ⟨j'', rfl, hd'⟩
    · exact (h.ro j r hr).1.far (hn b hbk)
    · exact (h.ro j r hr).2 _ _ b hd' hbk
theorem St.new (h : St B W l rs w) {c : Ch} (hb : Below w.heap.size w w') (hc : c.at B w') (hn : ∀ b, c.block = some b → w.heap.size ≤ b) : St B W (c :: l) rs w' := h.newOf (h.call hb) hc hn
theorem St.alloc (h : St B W l rs w) (cs : Array Value) (t : TypeId) {D : Nat} (hD : w.heap.size = D) : St B W (.cells D cs t :: l) rs (w.alloc (.cells cs t)) :=
  h.new (below_self _ _) ⟨by have := h.size; omega, alloc_at _ hD⟩ (fun b hb => by cases hb; omega)
theorem St.grow (h : St B W l rs w) {v : Value} {zs : List Int} (hb : Below w.heap.size w w') (ho : Own w.heap.size w' v zs) : St B W (.own v zs :: l) rs w' :=
  h.new hb (ho.base h.size) (fun _ hv => (World.ownsRow.lt (show w'.ownsRow _ _ _ _ _ _ from ho) _ hv).1)
/-- A row that a callee made while it also changed a part. -/
theorem St.add (h : St B W l rs w) (h' : St B W l rs w') {v : Value} {zs : List Int} (ho : Own w.heap.size w' v zs) : St B W (.own v zs :: l) rs w' :=
  h.newOf h' (c := .own v zs) (ho.base h.size) (fun _ hv => (World.ownsRow.lt (show w'.ownsRow _ _ _ _ _ _ from ho) _ hv).1)
/-- Behind a make. -/
theorem St.made (h : St B W l rs w) {D n : Nat} {zs : List Int} (hD : w.heap.size = D) (ho : Own D w' (.slice (some ⟨D, 0, none⟩) n n) zs) (hb : Below w.heap.size w w') : St B W (.own (.slice (some ⟨D, 0, none⟩) n n) zs :: l) rs w' := h.grow hb (by rw [hD]; exact ho)
theorem St.set (h : St B W l rs w) (i : Nat) {b : Nat} {cs : Array Value} {t : TypeId} (hi : l[i]? = some (.cells b cs t)) (j : Nat) (u : Value) : St B W (l.set i (.cells b (cs.setIfInBounds j u) t)) rs (w.setCell ⟨b, j, none⟩ u) :=
  h.upd i hi (h.since.set (h.all i _ hi).1 u) ⟨(h.all i _ hi).1, block_setCell u (h.all i _ hi).2⟩ (fun _ e => .inl e) (fun k _ hk => Below.heap_setCell _ _ _ _ (fun e => hk (by rw [e]; rfl)))
theorem St.set4 (h : St B W l rs w) (i : Nat) {b : Nat} {x0 y0 z0 u0 : Value} {t : TypeId} (hi : l[i]? = some (.cells b #[x0, y0, z0, u0] t)) (x y z u : Value) : St B W (l.set i (.cells b #[x, y, z, u] t)) rs (set4 w b x y z u) :=
  h.upd i hi (h.since.set4 (h.all i _ hi).1) ⟨(h.all i _ hi).1, set4_block (h.all i _ hi).2⟩ (fun _ e => .inl e) (fun k _ hk => set4_other (fun e => hk (by rw [e]; rfl)))
theorem Own.size {base n c : Nat} {zs : List Int} {p : Option Addr} (h : Own base w (.slice p n c) zs) : n = zs.length := by
  rcases h.2 with ⟨e, h0⟩ | ⟨g', cap, cur, e, _⟩
  · cases e; exact h0.symm
  · cases e; rfl
theorem St.store (h : St B W l rs w) (i : Nat) {g n c : Nat} {zs : List Int} (hi : l[i]? = some (.own (.slice (some ⟨g, 0, none⟩) n c) zs)) (j : Nat) (z : Int) :
    St B W (l.set i (.own (.slice (some ⟨g, 0, none⟩) n c) (zs.set j z))) rs (w.setCell ⟨g, j, none⟩ (.int .i64 z)) := by
  have ho : Own B w (.slice (some ⟨g, 0, none⟩) n c) zs := h.all i _ hi
  obtain rfl := Own.size ho
  obtain ⟨h1, h2⟩ := ho.stored j z
  have hg := (Ch.bound (h.all i _ hi) rfl).1
  refine h.upd i hi (h.since.set hg _) (by rw [List.length_set] at h1; exact h1) (fun _ e => .inl e) (fun k hlt hk => h2.block k hlt (fun e => hk e.symm))
theorem St.storeSlc (h : St B W l rs w) (i : Nat) {g n c : Nat} {zs : List Int} (hi : l[i]? = some (.own (.slice (some ⟨g, 0, none⟩) n c) zs)) (j : Nat) (z : Int) : w.grownBy (w.setCell ⟨g, j, none⟩ (.int .i64 z)) (some g) := by
  have ho : Own B w (.slice (some ⟨g, 0, none⟩) n c) zs := h.all i _ hi
  obtain rfl := Own.size ho
  exact (ho.stored j z).2
theorem St.next (h : St B W l rs w) (i : Nat) {k : Nat} (hi : l[i]? = some (.tape k)) (ht : TapeB B w' k) (hg : w.grownBy w' (some k)) : St B W l rs w' := by
  have := h.upd i (c' := .tape k) hi (h.since.grown hg ht.1) ht (fun _ e => .inl e) (fun j hj hk => hg.block j hj (fun e => hk e.symm))
  have e : l.set i (.tape k) = l := by
    refine List.ext_getElem? fun j => ?_
    rw [List.getElem?_set]
    split
    · rename_i e; subst e
      rw [hi]
      obtain ⟨h', _⟩ := List.getElem?_eq_some_iff.1 hi
      simp [h']
    · rfl
  rwa [e] at this
theorem St.append (h : St B W l rs w) (i : Nat) {v v' : Value} {zs zs' : List Int} (hi : l[i]? = some (.own v zs)) (ho : Own B w' v' zs') (hg : w.grownBy w' v.ownBlock) (hv : v'.ownBlock = v.ownBlock ∨ v'.ownBlock = some w.heap.size) : St B W (l.set i (.own v' zs')) rs w' := by
  refine h.upd i hi (Since.mk (h.since.below.grown hg h.size (fun k hk => (Ch.bound (h.all i _ hi) hk).1)) (Nat.le_trans h.size hg.size)) ho (fun b hb => ?_) (fun k hlt hk => hg.block k hlt (fun e => hk e.symm))
  rcases hv with e | e
  · exact .inl (e.symm.trans hb)
  · right; have : some w.heap.size = some b := e.symm.trans hb; cases this; exact Nat.le_refl _
theorem St.erase (h : St B W l rs w) (i : Nat) : St B W (l.eraseIdx i) rs w := by
  have hget : ∀ (j : Nat) d, (l.eraseIdx i)[j]? = some d → l[if j < i then j else j + 1]? = some d := fun j d hj => by
    rw [List.getElem?_eraseIdx] at hj
    split <;> simp_all
  refine ⟨h.hB, h.since, fun j d hj => h.all _ _ (hget j d hj), fun j1 j2 c1 c2 b h1 h2 hne hb1 hb2 => h.sep _ _ _ _ b (hget _ _ h1) (hget _ _ h2) (by split <;> split <;> omega) hb1 hb2, fun j r hr => ⟨(h.ro j r hr).1, fun j' d b hd hb => (h.ro j r hr).2 _ _ b (hget _ _ hd) hb⟩⟩
/-- Some of the parts, in another order. -/
theorem St.pick (h : St B W l rs w) {l' : List Ch} (ix : List Nat) (hl : ix.map (fun i => l[i]?) = l'.map some) (hnd : ix.Nodup) : St B W l' rs w := by
  have hget : ∀ (i : Nat) c, l'[i]? = some c → ∃ j, ix[i]? = some j ∧ l[j]? = some c := fun i c hi => by
    have e : (l'.map some)[i]? = some (some c) := by rw [List.getElem?_map, hi]; rfl
    rw [← hl, List.getElem?_map] at e
    cases hx : ix[i]? with
    | none => rw [hx] at e; simp at e
    | some j => rw [hx] at e; simp at e; exact ⟨j, rfl, e⟩
  refine ⟨h.hB, h.since, fun i c hi => ?_, fun i1 i2 c1 c2 b h1 h2 hne hb1 hb2 => ?_, fun i r hr => ⟨(h.ro i r hr).1, fun j c b hj hb => ?_⟩⟩
  · obtain ⟨j, _, hj⟩ := hget i c hi; exact h.all j c hj
  · obtain ⟨j1, e1, hj1⟩ := hget _ _ h1
    obtain ⟨j2, e2, hj2⟩ := hget _ _ h2
    refine h.sep j1 j2 c1 c2 b hj1 hj2 (fun e => hne ?_) hb1 hb2
    subst e
    obtain ⟨k1, _⟩ := List.getElem?_eq_some_iff.1 e1
    exact (List.getElem?_inj k1 hnd).1 (e1.trans e2.symm)
  · obtain ⟨j', _, hj'⟩ := hget _ _ hj; exact (h.ro i r hr).2 _ _ b hj' hb
/-- A row of the call's own that is only read from now on. -/
theorem St.freeze (h : St B W l rs w) (i : Nat) {a : Option Addr} {n c : Nat} {zs : List Int} (hi : l[i]? = some (.own (.slice a n c) zs)) : St B W (l.eraseIdx i) (⟨a, n, c, zs⟩ :: rs) w := by
  have he := h.erase i
  refine ⟨he.hB, he.since, he.all, he.sep, fun j r hr => ?_⟩
  cases j with
  | succ j => exact he.ro j r (by simpa using hr)
  | zero =>
    simp at hr; subst hr
    have ho : Own B w (.slice a n c) zs := h.all i _ hi
    obtain ⟨a', c', e, hs⟩ := ho.slc
    cases e
    refine ⟨hs, fun j d b hd hb => ?_⟩
    rw [List.getElem?_eraseIdx] at hd
    rcases ho.form with ⟨e, e0⟩ | ⟨g, c', e, _⟩
    · exact .inl (by subst e0; rfl)
    · cases e
      refine .inr ⟨_, rfl, fun e => ?_⟩
      subst e
      split at hd
      · exact h.sep i j _ _ _ hi hd (by omega) rfl hb
      · exact h.sep i (j + 1) _ _ _ hi hd (by omega) rfl hb
theorem St.cell (h : St B W l rs w) (i : Nat) {b : Nat} {cs : Array Value} {t : TypeId} (hi : l[i]? = some (.cells b cs t)) (j : Nat) {v : Value} (hv : cs[j]? = some v) : w.cell? ⟨b, j, none⟩ = some v := cell_of (h.all i _ hi).2 hv
theorem St.free (h : St B W l rs w) (i : Nat) {b : Nat} {cs : Array Value} {t : TypeId} (hi : l[i]? = some (.cells b cs t)) (j : Nat) : w.frozen? ⟨b, j, none⟩ = false := free_of (h.all i _ hi).2
theorem St.tapeAt (h : St B W l rs w) (i : Nat) {k : Nat} (hi : l[i]? = some (.tape k)) : TapeB B w k := h.all i _ hi
theorem St.own (h : St B W l rs w) (i : Nat) {v : Value} {zs : List Int} (hi : l[i]? = some (.own v zs)) : Own B w v zs := h.all i _ hi
theorem St.slc (h : St B W l rs w) (i : Nat) {a : Option Addr} {n c : Nat} {zs : List Int} (hi : l[i]? = some (.own (.slice a n c) zs)) : Slc w a n c zs := by
  obtain ⟨a', c', e, hs⟩ := (h.own i hi).slc
  cases e; exact hs
theorem St.get (h : St B W l rs w) (i : Nat) {g n c : Nat} {zs : List Int} (hi : l[i]? = some (.own (.slice (some ⟨g, 0, none⟩) n c) zs)) {j : Nat} (hj : j < zs.length) : w.cell? ⟨g, j, none⟩ = some (.int .i64 (zs.getD j 0)) ∧ w.frozen? ⟨g, j, none⟩ = false := by
  rcases (h.own i hi).form with ⟨e, _⟩ | ⟨g', c', e, _, _, hc⟩
  · cases e
  · cases e; exact hc j hj
theorem St.rof (h : St B W l rs w) (i : Nat) {a : Option Addr} {n c : Nat} {zs : List Int} (hi : rs[i]? = some ⟨a, n, c, zs⟩) : Slc w a n c zs := (h.ro i _ hi).1
/-- A row laid out of a literal, as a callee sees it. -/
theorem St.lit (h : St B W l rs w) (i : Nat) {b : Nat} {t : TypeId} (zs : List Int) (hi : l[i]? = some (.cells b (zs.map (Value.int .i64)).toArray t)) (hn : zs.length ≤ 1000000) : Slc w (some ⟨b, 0, none⟩) zs.length zs.length zs :=
  ⟨row_lit zs (h.all i _ hi).2, Nat.le_refl _, by omega⟩
theorem Own.pos {base : Nat} {w : World} {v : Value} {zs : List Int} (h : Own base w v zs) (hn : 0 < zs.length) : ∃ g c, v = .slice (some ⟨g, 0, none⟩) zs.length c := by
  rcases h.form with ⟨_, e⟩ | ⟨g, c, e, _⟩
  · subst e; simp at hn
  · exact ⟨g, c, e⟩
theorem St.lt (h : St B W l rs w) (i : Nat) {c : Ch} {b : Nat} (hi : l[i]? = some c) (hb : c.block = some b) : B ≤ b ∧ b < w.heap.size := Ch.bound (h.all i _ hi) hb
theorem St.ne (h : St B W l rs w) (i j : Nat) {c d : Ch} {b b' : Nat} (hi : l[i]? = some c) (hj : l[j]? = some d) (hne : i ≠ j) (hb : c.block = some b) (hb' : d.block = some b') : b ≠ b' := fun e => h.sep i j c d b hi hj hne hb (e ▸ hb')
end
end Go.Proofs.Ytoojiabdgaflgaa
