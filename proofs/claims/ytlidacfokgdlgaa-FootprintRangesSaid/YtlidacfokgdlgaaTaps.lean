/-
  Tables of taps: what a reader sees, and tables that a call makes: an array of firsts and rows, the rows frozen.
-/
import Derived.Test.YtlidacfokgdlgaaPrs
import Derived.Test.YtlidacfokgdlgaaKA
namespace Go.Proofs.Ytlidacfokgdlgaa
open Go.RowKit
set_option linter.unusedVariables false

def Ro.v (r : Ro) : Value := .slice r.a r.n r.c
def tapV (tp : List (Int × Ro)) : List Value := tp.flatMap fun p => [.int .i64 p.1, p.2.v]
def tapD (tp : List (Int × Ro)) : List (Int × List Int) := tp.map fun p => (p.1, p.2.zs)
theorem tapV_len : ∀ tp : List (Int × Ro), (tapV tp).length = tp.length * 2
  | [] => rfl
  | p :: tp => by have := tapV_len tp; simp only [tapV, List.flatMap_cons, List.length_append, List.length_cons, List.length_nil] at this ⊢; omega
theorem tapV_app (a b : List (Int × Ro)) : tapV (a ++ b) = tapV a ++ tapV b := by simp [tapV]
theorem tapD_len (tp : List (Int × Ro)) : (tapD tp).length = tp.length := by simp [tapD]
theorem tapD_app (a b : List (Int × Ro)) : tapD (a ++ b) = tapD a ++ tapD b := by simp [tapD]
theorem tapV_get : ∀ (tp : List (Int × Ro)) (i : Nat) (p : Int × Ro), tp[i]? = some p → (tapV tp)[i * 2]? = some (.int .i64 p.1) ∧ (tapV tp)[i * 2 + 1]? = some p.2.v
  | [], i, p, h => by simp at h
  | q :: tp, 0, p, h => by simp at h; subst h; simp [tapV]
  | q :: tp, i + 1, p, h => by
    have ih := tapV_get tp i p (by simpa using h)
    have e : tapV (q :: tp) = .int .i64 q.1 :: q.2.v :: tapV tp := by simp [tapV]
    rw [e, show (i + 1) * 2 = i * 2 + 1 + 1 by omega]
    simpa using ih
theorem tapV_set : ∀ (tp : List (Int × Ro)) (i : Nat) (p : Int × Ro), i < tp.length → ((tapV tp).set (i * 2) (.int .i64 p.1)).set (i * 2 + 1) p.2.v = tapV (tp.set i p)
  | [], i, p, h => by simp at h
  | q :: tp, 0, p, h => by simp [tapV]
  | q :: tp, i + 1, p, h => by
    have ih := tapV_set tp i p (by simpa using h)
    have e : tapV (q :: tp) = .int .i64 q.1 :: q.2.v :: tapV tp := by simp [tapV]
    have e2 : tapV (q :: tp.set i p) = .int .i64 q.1 :: q.2.v :: tapV (tp.set i p) := by simp [tapV]
    rw [List.set_cons_succ, e, e2, ← ih, show (i + 1) * 2 = i * 2 + 1 + 1 by omega]
    simp

/-- What a reader of a table is told. -/
structure Tps (w : World) (a : Option Addr) (n c : Nat) (ts : List (Int × List Int)) : Prop where
  len : n = ts.length
  nc : n ≤ c
  cap : c ≤ 9223372036854775807
  rows : n = 0 ∨ ∃ b o, a = some ⟨b, o, none⟩ ∧ ∀ i, i < n → ∃ ai ni ci, w.cell? ⟨b, o + i * 2, none⟩ = some (.int .i64 (ts.getD i (0, [])).1) ∧ w.cell? ⟨b, o + i * 2 + 1, none⟩ = some (.slice ai ni ci) ∧ Slc w ai ni ci (ts.getD i (0, [])).2
theorem Tps.call {w w' : World} {a : Option Addr} {n c : Nat} {ts : List (Int × List Int)} (h : Tps w a n c ts) (hb : Below w.heap.size w w') : Tps w' a n c ts := by
  refine ⟨h.len, h.nc, h.cap, ?_⟩
  rcases h.rows with h0 | ⟨b, o, e, hr⟩
  · exact .inl h0
  · refine .inr ⟨b, o, e, fun i hi => ?_⟩
    obtain ⟨ai, ni, ci, h1, h2, h3⟩ := hr i hi
    exact ⟨ai, ni, ci, cell_keep hb h1, cell_keep hb h2, h3.call hb⟩
theorem Tps.at {w : World} {a : Option Addr} {n c : Nat} {ts : List (Int × List Int)} (h : Tps w a n c ts) (hn : 0 < n) : ∃ b o, a = some ⟨b, o, none⟩ := by
  rcases h.rows with h0 | ⟨b, o, e, _⟩
  · omega
  · exact ⟨b, o, e⟩
theorem Tps.row {w : World} {b o n c : Nat} {ts : List (Int × List Int)} (h : Tps w (some ⟨b, o, none⟩) n c ts) {i : Nat} (hi : i < n) : ∃ ai ni ci, w.cell? ⟨b, o + i * 2, none⟩ = some (.int .i64 (ts.getD i (0, [])).1) ∧ w.cell? ⟨b, o + i * 2 + 1, none⟩ = some (.slice ai ni ci) ∧ Slc w ai ni ci (ts.getD i (0, [])).2 := by
  rcases h.rows with h0 | ⟨b', o', e, hr⟩
  · omega
  · cases e; exact hr i hi
theorem Tps.nil (w : World) : Tps w none 0 0 [] := ⟨rfl, Nat.le_refl _, by omega, .inl rfl⟩

/-- A row that lies behind B. -/
def NewR (B : Nat) (r : Ro) : Prop := r.n = 0 ∨ ∃ x, r.a = some x ∧ B ≤ x.block
/-- The taps' rows are among the frozen ones, and new. -/
def TQ (B : Nat) (rs : List Ro) (tp : List (Int × Ro)) : Prop := ∀ p ∈ tp, p.2 ∈ rs ∧ NewR B p.2
/-- A table that a call has made. -/
def OwnT (B : Nat) (w : World) (v : Value) (ts : List (Int × List Int)) : Prop :=
  ∃ tp : List (Int × Ro), tapD tp = ts ∧ w.ownsRow B 68 2 v tp.length (tapV tp) ∧ ∀ p ∈ tp, Slc w p.2.a p.2.n p.2.c p.2.zs ∧ NewR B p.2 ∧ ∀ b, v.ownBlock = some b → Far p.2.a p.2.n b
theorem OwnT.nil (B : Nat) (w : World) : OwnT B w (.slice none 0 0) [] := ⟨[], rfl, World.ownsRow_nil w B _ _, fun p h => by simp at h⟩

section
variable {B : Nat} {W w w' : World} {l : List Ch} {rs : List Ro}
theorem St.oldTps (h : St B W l rs w) {a : Option Addr} {n c : Nat} {ts : List (Int × List Int)} (hs : Tps W a n c ts) : Tps w a n c ts := hs.call h.below
theorem tp_get {tp : List (Int × Ro)} {i : Nat} (hi : i < tp.length) : ∃ p, tp[i]? = some p ∧ p ∈ tp ∧ (tapD tp).getD i (0, []) = (p.1, p.2.zs) := by
  refine ⟨tp[i], List.getElem?_eq_getElem hi, List.getElem_mem hi, ?_⟩
  unfold tapD
  rw [List.getD_eq_getElem?_getD, List.getElem?_map, List.getElem?_eq_getElem hi]; rfl
theorem St.roMem (h : St B W l rs w) {r : Ro} (hr : r ∈ rs) : Slc w r.a r.n r.c r.zs ∧ ∀ (j : Nat) c b, l[j]? = some c → c.block = some b → Far r.a r.n b := by
  obtain ⟨i, hi, e⟩ := List.getElem_of_mem hr
  exact h.ro i r (by rw [List.getElem?_eq_getElem hi, e])
/-- What a reader of an owned table sees. -/
theorem taps_read {e : TypeId} {v : Value} {tp : List (Int × Ro)} (ho : w.ownsRow B e 2 v tp.length (tapV tp)) (hs : ∀ p ∈ tp, Slc w p.2.a p.2.n p.2.c p.2.zs) : ∃ a c, v = .slice a tp.length c ∧ Tps w a tp.length c (tapD tp) := by
  rcases ownsRow_form ho with ⟨rfl, h0⟩ | ⟨g, c, rfl, h1, h2, _, h3⟩
  · rw [h0]
    exact ⟨none, 0, rfl, ⟨by rw [tapD_len, h0], Nat.le_refl _, by omega, .inl rfl⟩⟩
  · refine ⟨_, c, rfl, ⟨by rw [tapD_len], h1, h2, .inr ⟨g, 0, rfl, fun i hi => ?_⟩⟩⟩
    obtain ⟨p, hp, hm, hd⟩ := tp_get hi
    obtain ⟨g1, g2⟩ := tapV_get tp i p hp
    rw [Nat.zero_add, hd]
    exact ⟨p.2.a, p.2.n, p.2.c, h3 _ _ g1, h3 _ _ g2, hs p hm⟩
theorem OwnT.read {v : Value} {ts : List (Int × List Int)} (h : OwnT B w v ts) : ∃ a c, v = .slice a ts.length c ∧ Tps w a ts.length c ts := by
  obtain ⟨tp, rfl, ho, hs⟩ := h
  rw [tapD_len]
  exact taps_read ho fun p hp => (hs p hp).1
theorem St.taps (h : St B W l rs w) (i : Nat) {e : TypeId} {a : Option Addr} {n c : Nat} {tp : List (Int × Ro)} (hi : l[i]? = some (.arr e 2 (.slice a n c) n (tapV tp))) (hq : TQ B rs tp) : Tps w a n c (tapD tp) := by
  have ho : w.ownsRow B e 2 (.slice a n c) n (tapV tp) := h.all i _ hi
  have hn : n = tp.length := by have := ho.1; rw [tapV_len] at this; omega
  subst hn
  obtain ⟨a', c', e0, hp⟩ := taps_read ho fun p hp => (h.roMem (hq p hp).1).1
  cases e0
  exact hp
/-- The table at the end of a call. -/
theorem St.outT (h : St B W l rs w) (i : Nat) {v : Value} {n : Nat} {tp : List (Int × Ro)} (hi : l[i]? = some (.arr 68 2 v n (tapV tp))) (hq : TQ B rs tp) : OwnT B w v (tapD tp) := by
  have ho : w.ownsRow B 68 2 v n (tapV tp) := h.all i _ hi
  have hn : n = tp.length := by have := ho.1; rw [tapV_len] at this; omega
  subst hn
  exact ⟨tp, rfl, ho, fun p hp => ⟨(h.roMem (hq p hp).1).1, (hq p hp).2, fun b hb => (h.roMem (hq p hp).1).2 i _ b hi hb⟩⟩
theorem NewR.far {r : Ro} {b : Nat} (h : NewR B r) (hb : b < B) : Far r.a r.n b := by
  rcases h with h0 | ⟨x, e, hx⟩
  · exact .inl h0
  · exact .inr ⟨x, e, by omega⟩
theorem NewR.le {r : Ro} {B' : Nat} (h : NewR B r) (hb : B' ≤ B) : NewR B' r := by
  rcases h with h0 | ⟨x, e, hx⟩
  · exact .inl h0
  · exact .inr ⟨x, e, by omega⟩
/-- A table that a callee made. -/
theorem St.addT (h : St B W l rs w) (hb : Below w.heap.size w w') {v : Value} {ts : List (Int × List Int)} (ho : OwnT w.heap.size w' v ts) :
    ∃ tp, tapD tp = ts ∧ TQ B (tp.map (·.2) ++ rs) tp ∧ St B W (.arr 68 2 v tp.length (tapV tp) :: l) (tp.map (·.2) ++ rs) w' := by
  obtain ⟨tp, hd, ho, hs⟩ := ho
  have hg := h.growE hb ho
  refine ⟨tp, hd, fun p hp => ⟨List.mem_append_left _ (List.mem_map.2 ⟨p, hp, rfl⟩), (hs p hp).2.1.le h.size⟩, ?_⟩
  refine ⟨hg.hB, hg.since, hg.all, hg.sep, fun i r hr => ?_⟩
  have hm := List.mem_of_getElem? hr
  rcases List.mem_append.1 hm with hm | hm
  · obtain ⟨p, hp, rfl⟩ := List.mem_map.1 hm
    obtain ⟨h1, h2, h3⟩ := hs p hp
    refine ⟨h1, fun j c b hj hbk => ?_⟩
    cases j with
    | zero => simp at hj; subst hj; exact h3 b hbk
    | succ j => exact h2.far (Ch.bound (h.all j c (by simpa using hj)) hbk).2
  · exact hg.roMem hm
theorem St.subRo (h : St B W l rs w) {rs' : List Ro} (hs : ∀ r ∈ rs', r ∈ rs) : St B W l rs' w :=
  ⟨h.hB, h.since, h.all, h.sep, fun i r hr => h.roMem (hs r (List.mem_of_getElem? hr))⟩
/-- A row that is laid into a table: frozen. -/
theorem St.lay (h : St B W l rs w) (i : Nat) {a : Option Addr} {n c : Nat} {zs : List Int} (hi : l[i]? = some (.own (.slice a n c) zs)) : NewR B ⟨a, n, c, zs⟩ := by
  have ho : Own B w (.slice a n c) zs := h.all i _ hi
  rcases ho.form with ⟨e, e0⟩ | ⟨g, c', e, hb⟩
  · cases e; exact .inl rfl
  · cases e
    exact .inr ⟨_, rfl, (Ch.bound (h.all i _ hi) rfl).1⟩
theorem TQ.cons {B : Nat} {rs : List Ro} {tp : List (Int × Ro)} (h : TQ B rs tp) (r : Ro) : TQ B (r :: rs) tp := fun p hp => ⟨List.mem_cons_of_mem _ (h p hp).1, (h p hp).2⟩
theorem TQ.snoc {B : Nat} {rs : List Ro} {tp : List (Int × Ro)} (h : TQ B rs tp) {k : Int} {r : Ro} (hr : NewR B r) : TQ B (r :: rs) (tp ++ [(k, r)]) := fun p hp => by
  rcases List.mem_append.1 hp with hp | hp
  · exact h.cons r p hp
  · simp at hp; subst hp; exact ⟨List.mem_cons_self, hr⟩
theorem TQ.nil (B : Nat) (rs : List Ro) : TQ B rs [] := fun p hp => by simp at hp
theorem TQ.set {B : Nat} {rs : List Ro} {tp : List (Int × Ro)} (h : TQ B rs tp) {k : Int} {r : Ro} (hr : NewR B r) (i : Nat) : TQ B (r :: rs) (tp.set i (k, r)) := fun p hp => by
  rcases List.mem_or_eq_of_mem_set hp with hp | rfl
  · exact h.cons r p hp
  · exact ⟨List.mem_cons_self, hr⟩
theorem St.arrOfT (h : St B W l rs w) (i : Nat) {e : TypeId} {sz : Nat} {v : Value} {n : Nat} {vs : List Value} (hi : l[i]? = some (.arr e sz v n vs)) : w.ownsRow B e sz v n vs := h.all i _ hi
/-- A store of both cells of a tap. -/
theorem St.storeTap (h : St B W l rs w) (i : Nat) {e : TypeId} {sz g n c : Nat} {vs : List Value} (hi : l[i]? = some (.arr e sz (.slice (some ⟨g, 0, none⟩) n c) n vs)) (j : Nat) (u : Value) :
    St B W (l.set i (.arr e sz (.slice (some ⟨g, 0, none⟩) n c) n (vs.set j u))) rs (w.setCell ⟨g, j, none⟩ u) := by
  have ho : w.ownsRow B e sz (.slice (some ⟨g, 0, none⟩) n c) n vs := h.all i _ hi
  have hs := World.ownsRow.stored ho j u
  have hb : B ≤ g := (World.ownsRow.lt ho g rfl).1
  exact h.upd i hi (h.since.set hb u) hs.1 (fun _ e => .inl e) (fun k hlt hk => hs.2.block k hlt (fun e => hk e.symm))
theorem St.arrCell (h : St B W l rs w) (i : Nat) {e : TypeId} {sz g n c : Nat} {vs : List Value} (hi : l[i]? = some (.arr e sz (.slice (some ⟨g, 0, none⟩) n c) n vs)) {j : Nat} (hj : j < n * sz) : w.cell? ⟨g, j, none⟩ = vs[j]? ∧ w.frozen? ⟨g, j, none⟩ = false :=
  have ho : w.ownsRow B e sz (.slice (some ⟨g, 0, none⟩) n c) n vs := h.all i _ hi
  ⟨World.ownsRow.cellAt ho j hj, World.ownsRow.frozenAt ho j⟩
end
theorem arr_posT {B : Nat} {w : World} {e : TypeId} {sz n : Nat} {v : Value} {vs : List Value} (h : w.ownsRow B e sz v n vs) (hn : 0 < n) : ∃ g c, v = .slice (some ⟨g, 0, none⟩) n c := by
  rcases ownsRow_form h with ⟨_, h0⟩ | ⟨g, c, e, _⟩
  · omega
  · exact ⟨g, c, e⟩
/-- A table that is filled from the left. -/
structure TabTo (f : Nat → Int × List Int) (tp : List (Int × Ro)) (M j : Nat) : Prop where
  len : tp.length = M
  vals : ∀ i, i < j → (tapD tp).getD i (0, []) = f i
def nilTap : Int × Ro := (0, ⟨none, 0, 0, []⟩)
theorem TabTo.zero (f : Nat → Int × List Int) (M : Nat) : TabTo f (List.replicate M nilTap) M 0 := ⟨by simp, fun i hi => by omega⟩
theorem TabTo.next {f : Nat → Int × List Int} {tp : List (Int × Ro)} {M j : Nat} (h : TabTo f tp M j) (hj : j < M) {k : Int} {r : Ro} (hf : (k, r.zs) = f j) : TabTo f (tp.set j (k, r)) M (j + 1) := by
  refine ⟨by rw [List.length_set]; exact h.len, fun i hi => ?_⟩
  unfold tapD
  rw [List.getD_eq_getElem?_getD, List.getElem?_map, List.getElem?_set]
  by_cases e : j = i
  · subst e
    rw [if_pos rfl, if_pos (by rw [h.len]; exact hj)]; exact hf
  · rw [if_neg e]
    have := h.vals i (by omega)
    unfold tapD at this
    rwa [List.getD_eq_getElem?_getD, List.getElem?_map] at this
theorem TabTo.all {f : Nat → Int × List Int} {tp : List (Int × Ro)} {M : Nat} (h : TabTo f tp M M) : tapD tp = (List.range M).map f := by
  refine List.ext_getElem? fun i => ?_
  by_cases hi : i < M
  · have := h.vals i hi
    rw [List.getElem?_map, List.getElem?_range hi]
    have hl : i < (tapD tp).length := by rw [tapD_len, h.len]; exact hi
    rw [List.getD_eq_getElem?_getD, List.getElem?_eq_getElem hl] at this
    rw [List.getElem?_eq_getElem hl]; simpa using this
  · rw [List.getElem?_eq_none (by rw [tapD_len, h.len]; omega), List.getElem?_eq_none (by simp; omega)]
section
variable {B : Nat} {W w w' : World} {l : List Ch} {rs : List Ro}
theorem St.nilRo (h : St B W l rs w) : St B W l (⟨none, 0, 0, []⟩ :: rs) w := by
  refine ⟨h.hB, h.since, h.all, h.sep, fun i r hr => ?_⟩
  cases i with
  | zero => simp at hr; subst hr; exact ⟨Slc.nil _, fun j c b _ _ => .inl rfl⟩
  | succ i => exact h.ro i r (by simpa using hr)
theorem TQ.nils (B M : Nat) (rs : List Ro) : TQ B (⟨none, 0, 0, []⟩ :: rs) (List.replicate M nilTap) := fun p hp => by
  rw [List.eq_of_mem_replicate hp]; exact ⟨List.mem_cons_self, .inl rfl⟩
/-- The cells of a tap in a table that the call owns. -/
theorem St.tapCell (h : St B W l rs w) (i : Nat) {e : TypeId} {g n c : Nat} {tp : List (Int × Ro)} (hi : l[i]? = some (.arr e 2 (.slice (some ⟨g, 0, none⟩) n c) n (tapV tp))) {j : Nat} (hj : j < tp.length) :
    ∃ u u', w.cell? ⟨g, j * 2, none⟩ = some u ∧ w.frozen? ⟨g, j * 2, none⟩ = false ∧ w.cell? ⟨g, j * 2 + 1, none⟩ = some u' ∧ w.frozen? ⟨g, j * 2 + 1, none⟩ = false := by
  have ho : w.ownsRow B e 2 (.slice (some ⟨g, 0, none⟩) n c) n (tapV tp) := h.all i _ hi
  have hn : n = tp.length := by have := ho.1; rw [tapV_len] at this; omega
  obtain ⟨p, hp, _, _⟩ := tp_get hj
  obtain ⟨g1, g2⟩ := tapV_get tp j p hp
  obtain ⟨a1, a2⟩ := h.arrCell i hi (j := j * 2) (by omega)
  obtain ⟨b1, b2⟩ := h.arrCell i hi (j := j * 2 + 1) (by omega)
  exact ⟨_, _, a1.trans g1, a2, b1.trans g2, b2⟩
/-- A literal of integers that is laid into a table: frozen. -/
theorem St.layLit (h : St B W l rs w) (i : Nat) {b : Nat} (zs : List Int) (hi : l[i]? = some (.cells b (zs.map (Value.int .i64)).toArray 3)) (hn : zs.length ≤ 1000000) :
    St B W (l.eraseIdx i) (⟨some ⟨b, 0, none⟩, zs.length, zs.length, zs⟩ :: rs) w ∧ NewR B ⟨some ⟨b, 0, none⟩, zs.length, zs.length, zs⟩ := by
  have h1 := h.litOwn i zs hi hn
  have hi' : (l.set i (.own (.slice (some ⟨b, 0, none⟩) zs.length zs.length) zs))[i]? = some (.own (.slice (some ⟨b, 0, none⟩) zs.length zs.length) zs) := by
    have : i < l.length := (List.getElem?_eq_some_iff.1 hi).1
    rw [List.getElem?_set, if_pos rfl, if_pos this]
  have h2 := h1.freeze i hi'
  rw [List.eraseIdx_set_eq] at h2
  exact ⟨h2, h1.lay i hi'⟩
end
theorem info_tap : (Try.prog.info? 68).map (fun i => (i.zero, i.size, i.bytes)) = some (some (.agg #[.int .i64 0, .slice none 0 0]), 2, 32) := by kernel_rfl
theorem toList_madeCells_two (k : Int) (r : Ro) (n : Nat) : (madeCells #[.int .i64 k, r.v] (n * 2)).toList = tapV (List.replicate n (k, r)) := by
  refine List.ext_getElem? fun j => ?_
  unfold madeCells
  by_cases hj : j < n * 2
  · have hi : j / 2 < n := by omega
    obtain ⟨g1, g2⟩ := tapV_get (List.replicate n (k, r)) (j / 2) (k, r) (by simp [hi])
    simp only [Array.toList_map, Array.toList_range, List.getElem?_map, List.getElem?_range hj, Option.map_some]
    rcases Nat.mod_two_eq_zero_or_one j with h0 | h0
    · rw [show j / 2 * 2 = j by omega] at g1
      rw [g1]; simp [h0]
    · rw [show j / 2 * 2 + 1 = j by omega] at g2
      rw [g2]; simp [h0]
  · rw [List.getElem?_eq_none (by simp; omega), List.getElem?_eq_none (by rw [tapV_len]; simp; omega)]
/-- make([]api.Tap, n). -/
theorem make_taps {ops : Array Oper} {rest : List Oper} {o : Oper} {a : Act} {Q : Exit → Act → World → Prop} {w : World} (hgd : o.guard = none) (l c : Operand)
    (ho : o.op = Op.makeSlice 30 l c) (base : Nat) (L C : Int) (n : Nat) (hl : a.eval l = .int .i64 L) (hc : a.eval c = .int .i64 C) (hL : L = (n : Int)) (hC : C = (n : Int)) (hn : n ≤ 1000000) (hbase : base ≤ w.heap.size)
    (h : ∀ w', w'.ownsRow base 68 2 (.slice (some ⟨w.heap.size, 0, none⟩) n n) n (tapV (List.replicate n (0, ⟨none, 0, 0, []⟩))) → Below w.heap.size w w' → wpList Try.prog ops Q rest (a.put o.dst (.slice (some ⟨w.heap.size, 0, none⟩) n n)) w') :
    wpList Try.prog ops Q (o :: rest) a w := by
  obtain ⟨i0, hi, hz0, hz1, hz2⟩ := info_parts info_tap
  refine wpList_make_full w hgd l c 30 ho base 68 i0 (.agg #[.int .i64 0, .slice none 0 0]) 2 Try.underlying30 hi hz0 hz1 .i64 .i64 L C n hl hc hL hC (by rw [hz2]; omega) (by unfold maxLen; omega) hbase ?_
  intro w' h1 h2
  refine h w' ?_ (below_of_grown_none h2)
  have e : (madeCells (Value.agg #[.int .i64 0, .slice none 0 0]).cells (n * 2)).toList = tapV (List.replicate n (0, ⟨none, 0, 0, []⟩)) := by
    have hc : (Value.agg #[.int .i64 0, .slice none 0 0]).cells = #[.int .i64 0, .slice none 0 0] := rfl
    rw [hc]
    exact toList_madeCells_two 0 ⟨none, 0, 0, []⟩ n
  rw [e] at h1
  exact h1
end Go.Proofs.Ytlidacfokgdlgaa
