/-
  Slices of structs of two integers, as a call reads and makes them; the reslice of a row that the call owns.
-/
import Derived.Test.YtlidacfokgdlgaaKA
namespace Go.Proofs.Ytlidacfokgdlgaa
open Go.RowKit
set_option linter.unusedVariables false

def prV (zs : List (Int × Int)) : List Value := zs.flatMap fun p => [.int .i64 p.1, .int .i64 p.2]
theorem prV_len : ∀ zs : List (Int × Int), (prV zs).length = zs.length * 2
  | [] => rfl
  | p :: zs => by have := prV_len zs; simp only [prV, List.flatMap_cons, List.length_append, List.length_cons, List.length_nil] at this ⊢; omega
theorem prV_app (a b : List (Int × Int)) : prV (a ++ b) = prV a ++ prV b := by simp [prV]
theorem prV_get : ∀ (zs : List (Int × Int)) (i : Nat), i < zs.length → (prV zs)[i * 2]? = some (.int .i64 (zs.getD i (0, 0)).1) ∧ (prV zs)[i * 2 + 1]? = some (.int .i64 (zs.getD i (0, 0)).2)
  | [], i, h => by simp at h
  | p :: zs, 0, _ => by simp [prV]
  | p :: zs, i + 1, h => by
    have h' : i < zs.length := by simpa using h
    have ih := prV_get zs i h'
    have e : prV (p :: zs) = .int .i64 p.1 :: .int .i64 p.2 :: prV zs := by simp [prV]
    rw [e, show (i + 1) * 2 = i * 2 + 1 + 1 by omega]
    simpa using ih
theorem prV_take (zs : List (Int × Int)) (k : Nat) : (prV zs).take (k * 2) = prV (zs.take k) := by
  induction zs generalizing k with
  | nil => simp [prV]
  | cons p zs ih =>
    cases k with
    | zero => simp [prV]
    | succ k =>
      have e : prV (p :: zs) = .int .i64 p.1 :: .int .i64 p.2 :: prV zs := by simp [prV]
      have e2 : prV ((p :: zs).take (k + 1)) = .int .i64 p.1 :: .int .i64 p.2 :: prV (zs.take k) := by simp [prV]
      rw [e, e2, show (k + 1) * 2 = k * 2 + 1 + 1 by omega, List.take_succ_cons, List.take_succ_cons, ih]
theorem prV_one : ∀ (zs : List (Int × Int)), ∀ u ∈ prV zs, u.oneCell' = true := by
  intro zs u hu
  simp only [prV, List.mem_flatMap] at hu
  obtain ⟨p, _, hp⟩ := hu
  simp at hp
  rcases hp with rfl | rfl <;> rfl

/-- What a reader of a slice of pairs is told. -/
structure Prs (w : World) (a : Option Addr) (n c : Nat) (zs : List (Int × Int)) : Prop where
  len : n = zs.length
  nc : n ≤ c
  cap : c ≤ 9223372036854775807
  rows : n = 0 ∨ ∃ b o, a = some ⟨b, o, none⟩ ∧ ∀ i, i < n → w.cell? ⟨b, o + i * 2, none⟩ = some (.int .i64 (zs.getD i (0, 0)).1) ∧ w.cell? ⟨b, o + i * 2 + 1, none⟩ = some (.int .i64 (zs.getD i (0, 0)).2)
theorem Prs.call {w w' : World} {a : Option Addr} {n c : Nat} {zs : List (Int × Int)} (h : Prs w a n c zs) (hb : Below w.heap.size w w') : Prs w' a n c zs := by
  refine ⟨h.len, h.nc, h.cap, ?_⟩
  rcases h.rows with h0 | ⟨b, o, e, hr⟩
  · exact .inl h0
  · exact .inr ⟨b, o, e, fun i hi => ⟨cell_keep hb (hr i hi).1, cell_keep hb (hr i hi).2⟩⟩
theorem Prs.at {w : World} {a : Option Addr} {n c : Nat} {zs : List (Int × Int)} (h : Prs w a n c zs) (hn : 0 < n) : ∃ b o, a = some ⟨b, o, none⟩ := by
  rcases h.rows with h0 | ⟨b, o, e, _⟩
  · omega
  · exact ⟨b, o, e⟩
theorem Prs.get {w : World} {b o n c : Nat} {zs : List (Int × Int)} (h : Prs w (some ⟨b, o, none⟩) n c zs) {i : Nat} (hi : i < n) : w.cell? ⟨b, o + i * 2, none⟩ = some (.int .i64 (zs.getD i (0, 0)).1) ∧ w.cell? ⟨b, o + i * 2 + 1, none⟩ = some (.int .i64 (zs.getD i (0, 0)).2) := by
  rcases h.rows with h0 | ⟨b', o', e, hr⟩
  · omega
  · cases e; exact hr i hi
theorem Prs.nil (w : World) : Prs w none 0 0 [] := ⟨rfl, Nat.le_refl _, by omega, .inl rfl⟩

section
variable {P : Program}
/-- append of the cells of a literal. -/
theorem append_vals {ops : Array Oper} {rest : List Oper} {o : Oper} {a : Act} {Q : Exit → Act → World → Prop} {w : World} (hgd : o.guard = none) (s x : Operand) (t e : TypeId) (size bytes : Nat) (z : Value)
    (hu : P.underlying t = some (.slice e)) (hinf : (P.info? e).map (fun i => (i.zero, i.size, i.bytes)) = some (some z, size, bytes)) (hzs : z.cells.size = size) (hsz : 0 < size) (hby : bytes ≤ 64)
    (ho : o.op = .call { callee := .builtin .append, args := #[s, x], argTypes := #[t, t] })
    (base : Nat) (v : Value) (n : Nat) (vs : List Value) (b m c : Nat) (news : List Value) (hs : a.eval s = v) (hx : a.eval x = .slice (some ⟨b, 0, none⟩) m c) (hl : news.length = m * size) (hown : w.ownsRow base e size v n vs)
    (hc : ∀ j u, news[j]? = some u → w.cell? ⟨b, j, none⟩ = some u) (h1 : ∀ u ∈ news, u.oneCell' = true) (hlen : n + m ≤ 1000000000) (hbase : base ≤ w.heap.size)
    (h : ∀ v' w', w'.ownsRow base e size v' (n + m) (vs ++ news) → w.grownBy w' v.ownBlock → (v'.ownBlock = v.ownBlock ∨ v'.ownBlock = some w.heap.size) → wpList P ops Q rest (a.put o.dst v') w') :
    wpList P ops Q (o :: rest) a w := by
  obtain ⟨i0, hi, hz0, hz1, hz2⟩ := info_parts hinf
  refine wpList_append_own_at w hgd s x t ho base e i0 z size bytes hu hi hz0 hz1 hz2 hzs hsz v n vs hs hown ⟨b, 0, none⟩ m c news hx hl ?_ h1 (by unfold maxLen; omega) ?_ hbase (fun v' w' g1 g2 _ g4 => h v' w' g1 g2 g4)
  · intro j u hj
    have := hc j u hj
    simp only [Addr.add]
    split
    · rename_i e0; subst e0; exact this
    · rw [Nat.zero_add]; exact this
  · exact Nat.le_trans (Nat.mul_le_mul hlen hby) (by decide)
theorem oper_append_vals {o : Oper} {a : Act} {Q : Exit → Act → World → Prop} {K : Act → World → Prop} {w : World} (s x : Operand) (t e : TypeId) (size bytes : Nat) (z : Value)
    (hu : P.underlying t = some (.slice e)) (hinf : (P.info? e).map (fun i => (i.zero, i.size, i.bytes)) = some (some z, size, bytes)) (hzs : z.cells.size = size) (hsz : 0 < size) (hby : bytes ≤ 64)
    (ho : o.op = .call { callee := .builtin .append, args := #[s, x], argTypes := #[t, t] })
    (base : Nat) (v : Value) (n : Nat) (vs : List Value) (b m c : Nat) (news : List Value) (hs : a.eval s = v) (hx : a.eval x = .slice (some ⟨b, 0, none⟩) m c) (hl : news.length = m * size) (hown : w.ownsRow base e size v n vs)
    (hc : ∀ j u, news[j]? = some u → w.cell? ⟨b, j, none⟩ = some u) (h1 : ∀ u ∈ news, u.oneCell' = true) (hlen : n + m ≤ 1000000000) (hbase : base ≤ w.heap.size)
    (h : ∀ v' w', w'.ownsRow base e size v' (n + m) (vs ++ news) → w.grownBy w' v.ownBlock → (v'.ownBlock = v.ownBlock ∨ v'.ownBlock = some w.heap.size) → K (a.put o.dst v') w') :
    o.wp P a w K Q := by
  obtain ⟨i0, hi, hz0, hz1, hz2⟩ := info_parts hinf
  obtain ⟨v', w', hr, h2, h3, _, h5⟩ := run_append_own_at (P := P) w base t o.type e i0 z size bytes hu hi hz0 hz1 hz2 hzs hsz v n vs hown ⟨b, 0, none⟩ m c news hl
    (by intro j u hj
        have := hc j u hj
        simp only [Addr.add]
        split
        · rename_i e0; subst e0; exact this
        · rw [Nat.zero_add]; exact this) h1 (by unfold maxLen; omega) (Nat.le_trans (Nat.mul_le_mul hlen hby) (by decide)) hbase
  unfold Oper.wp execOp
  simp only [ho, resolve, invoke, builtin, Sem.run_bind, Sem.run_pure, Result.andThen_ok, List.map_toArray, List.map_cons, List.map_nil, hs, hx, hr]
  exact h v' w' h2 h3 h5
end

/-- The reslice of an owned row from its start. -/
theorem ownsRow_take {w : World} {B : Nat} {e : TypeId} {sz : Nat} {g n c : Nat} {vs : List Value} (h : w.ownsRow B e sz (.slice (some ⟨g, 0, none⟩) n c) n vs) {k : Nat} (hk : k ≤ n) : w.ownsRow B e sz (.slice (some ⟨g, 0, none⟩) k c) k (vs.take (k * sz)) := by
  have hkn : k * sz ≤ n * sz := Nat.mul_le_mul_right _ hk
  refine ⟨by rw [List.length_take, h.1]; omega, ?_⟩
  rcases h.2 with ⟨e0, _⟩ | ⟨g', cap, cur, e0, h1, h2, h3, h4, h5, h6⟩
  · cases e0
  · cases e0
    refine .inr ⟨g, c, cur, rfl, h1, h2, by omega, h4, h5, ?_⟩
    rw [← h6, List.take_take]
    congr 1
    omega
theorem Own.take {w : World} {B : Nat} {g n c : Nat} {zs : List Int} (h : Own B w (.slice (some ⟨g, 0, none⟩) n c) zs) {k : Nat} (hk : k ≤ n) : Own B w (.slice (some ⟨g, 0, none⟩) k c) (zs.take k) := by
  have hn := Own.size h
  subst hn
  have := ownsRow_take (show w.ownsRow B 3 1 _ zs.length (zs.map (Value.int .i64)) from h) hk
  unfold Own
  rw [List.length_take, Nat.min_eq_left hk, List.map_take]
  rw [Nat.mul_one] at this
  exact this

section
variable {B : Nat} {W w w' : World} {l : List Ch} {rs : List Ro}
theorem St.take (h : St B W l rs w) (i : Nat) {e : TypeId} {sz g n c : Nat} {vs : List Value} (hi : l[i]? = some (.arr e sz (.slice (some ⟨g, 0, none⟩) n c) n vs)) {k : Nat} (hk : k ≤ n) : St B W (l.set i (.arr e sz (.slice (some ⟨g, 0, none⟩) k c) k (vs.take (k * sz)))) rs w :=
  h.upd i hi h.since (ownsRow_take (show w.ownsRow B e sz _ n vs from h.all i _ hi) hk) (fun _ e => .inl e) (fun _ _ _ => rfl)
theorem St.takeOwn (h : St B W l rs w) (i : Nat) {g n c : Nat} {zs : List Int} (hi : l[i]? = some (.own (.slice (some ⟨g, 0, none⟩) n c) zs)) {k : Nat} (hk : k ≤ n) : St B W (l.set i (.own (.slice (some ⟨g, 0, none⟩) k c) (zs.take k))) rs w :=
  h.upd i hi h.since (Own.take (show Own B w _ zs from h.all i _ hi) hk) (fun _ e => .inl e) (fun _ _ _ => rfl)
theorem St.arrNilE (h : St B W l rs w) (e : TypeId) (sz : Nat) : St B W (.arr e sz (.slice none 0 0) 0 [] :: l) rs w :=
  h.new (Below.refl _ _) (c := .arr e sz (.slice none 0 0) 0 []) (World.ownsRow_nil w B _ _) (fun b e => by cases e)
theorem St.appendE (h : St B W l rs w) (i : Nat) {e : TypeId} {sz : Nat} {v v' : Value} {n n' : Nat} {vs vs' : List Value} (hi : l[i]? = some (.arr e sz v n vs)) (ho : w'.ownsRow B e sz v' n' vs') (hg : w.grownBy w' v.ownBlock) (hv : v'.ownBlock = v.ownBlock ∨ v'.ownBlock = some w.heap.size) : St B W (l.set i (.arr e sz v' n' vs')) rs w' := by
  refine h.upd i hi (Since.mk (h.since.below.grown hg h.size (fun k hk => (Ch.bound (h.all i _ hi) hk).1)) (Nat.le_trans h.size hg.size)) ho (fun b hb => ?_) (fun k hlt hk => hg.block k hlt (fun e => hk e.symm))
  rcases hv with e | e
  · exact .inl (e.symm.trans hb)
  · right; have : some w.heap.size = some b := e.symm.trans hb; cases this; exact Nat.le_refl _
theorem St.arrE (h : St B W l rs w) (i : Nat) {e : TypeId} {sz : Nat} {v : Value} {n : Nat} {vs : List Value} (hi : l[i]? = some (.arr e sz v n vs)) : w.ownsRow B e sz v n vs := h.all i _ hi
theorem St.growE (h : St B W l rs w) {e : TypeId} {sz : Nat} {v : Value} {n : Nat} {vs : List Value} (hb : Below w.heap.size w w') (ho : w'.ownsRow w.heap.size e sz v n vs) : St B W (.arr e sz v n vs :: l) rs w' := by
  refine h.new hb (c := .arr e sz v n vs) ?_ (fun _ hv => (World.ownsRow.lt ho _ hv).1)
  refine ⟨ho.1, ?_⟩
  rcases ho.2 with h0 | ⟨g, cap, cur, e0, h1, h2⟩
  · exact .inl h0
  · exact .inr ⟨g, cap, cur, e0, Nat.le_trans h.size h1, h2⟩
theorem ownsRow_form {w : World} {B : Nat} {e : TypeId} {sz n : Nat} {v : Value} {vs : List Value} (h : w.ownsRow B e sz v n vs) : (v = .slice none 0 0 ∧ n = 0) ∨ ∃ g c, v = .slice (some ⟨g, 0, none⟩) n c ∧ n ≤ c ∧ c ≤ 9223372036854775807 ∧ B ≤ g ∧ ∀ j u, vs[j]? = some u → w.cell? ⟨g, j, none⟩ = some u := by
  rcases h.2 with h0 | ⟨g, cap, cur, rfl, h1, h2, h3, h4, h5, h6⟩
  · exact .inl h0
  · refine .inr ⟨g, cap, rfl, h3, by unfold maxLen at h4; omega, h1, fun j u hj => ?_⟩
    have := World.ownsRow.cells h (g := g) rfl j u hj
    simp only [Addr.add] at this
    split at this
    · rename_i e0; subst e0; exact this
    · rw [Nat.zero_add] at this; exact this
/-- What a reader of an owned slice of pairs sees. -/
theorem prs_own {w : World} {B : Nat} {e : TypeId} {v : Value} {zs : List (Int × Int)} (h : w.ownsRow B e 2 v zs.length (prV zs)) : ∃ a c, v = .slice a zs.length c ∧ Prs w a zs.length c zs := by
  rcases ownsRow_form h with ⟨rfl, h0⟩ | ⟨g, c, rfl, h1, h2, _, h3⟩
  · rw [h0]
    exact ⟨none, 0, rfl, ⟨h0.symm, Nat.le_refl _, by omega, .inl rfl⟩⟩
  · refine ⟨_, c, rfl, ⟨rfl, h1, h2, .inr ⟨g, 0, rfl, fun i hi => ?_⟩⟩⟩
    obtain ⟨g1, g2⟩ := prV_get zs i hi
    rw [Nat.zero_add]
    exact ⟨h3 _ _ g1, h3 _ _ g2⟩
theorem St.prs (h : St B W l rs w) (i : Nat) {e : TypeId} {a : Option Addr} {n c : Nat} {zs : List (Int × Int)} (hi : l[i]? = some (.arr e 2 (.slice a n c) n (prV zs))) : Prs w a n c zs := by
  have ho := h.arrE i hi
  have hn : n = zs.length := by have := ho.1; rw [prV_len] at this; omega
  subst hn
  obtain ⟨a', c', e0, hp⟩ := prs_own ho
  cases e0
  exact hp
theorem St.oldPrs (h : St B W l rs w) {a : Option Addr} {n c : Nat} {zs : List (Int × Int)} (hs : Prs W a n c zs) : Prs w a n c zs := hs.call h.below
/-- A literal of pairs, as a callee sees it. -/
theorem St.litPrs (h : St B W l rs w) (i : Nat) {b : Nat} {t : TypeId} (zs : List (Int × Int)) (hi : l[i]? = some (.cells b (prV zs).toArray t)) (hn : zs.length ≤ 1000000) : Prs w (some ⟨b, 0, none⟩) zs.length zs.length zs := by
  refine ⟨rfl, Nat.le_refl _, by omega, .inr ⟨b, 0, rfl, fun j hj => ?_⟩⟩
  obtain ⟨g1, g2⟩ := prV_get zs j hj
  rw [Nat.zero_add]
  exact ⟨h.cell i hi _ (by simpa using g1), h.cell i hi _ (by simpa using g2)⟩
/-- Two limbs of one part: a literal's cells as a list. -/
theorem lit_news (h : St B W l rs w) (i : Nat) {b : Nat} {t : TypeId} (vs : List Value) (hi : l[i]? = some (.cells b vs.toArray t)) : ∀ j u, vs[j]? = some u → w.cell? ⟨b, j, none⟩ = some u := fun j u hj => h.cell i hi j (by simpa using hj)
end
end Go.Proofs.Ytlidacfokgdlgaa
