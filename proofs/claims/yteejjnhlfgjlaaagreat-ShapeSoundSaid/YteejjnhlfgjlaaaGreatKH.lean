/-
 A slice of slices of integers. Slices of structs of two integers, as a call reads and makes them; the reslice of a row that the call owns. Tables of taps: what a reader sees, and tables that a call makes: an array of firsts and rows, the rows frozen. Tables that callees made, in the walks of laws. Slices of any kind of numbers in the walks of the tape's methods. Tables that the tape made, in the walks of laws. What a reader of an owned slice of structs of two integers sees. Parts ahead of a tail of parts. The store of a whole struct into a box, as one step. Slices of slices that a call makes: what is appended, what a reader sees. Slices of slices that a call makes by make: a row laid into one, what a reader sees; rows that are filled from the left. Shorter words for the walk of a region that draws its order. A plain region operation by operation: a pure operation, one that is unwanted, a call. The memory of a method of the tape that makes tables: the parts, the frozen rows, the tape. A stage as an array of values behind a letter: its load out of a box.
-/
import Derived.Test.YteejjnhlfgjlaaaGreatKA
import Derived.Laws.Tables
import Derived.Deep.RegionHeld
import Derived.Laws.Rows
namespace Go.Proofs.YteejjnhlfgjlaaaGreat
section
open Go.RowKit

structure Mat (w : World) (a : Option Addr) (n c : Nat) (L : List (List Int)) : Prop where
 len : n = L.length
 nc : n ≤ c
 cap : c ≤ 9223372036854775807
 rows : n = 0 ∨ ∃ b o, a = some ⟨b, o, none⟩ ∧ ∀ i, i < n → ∃ ai ni ci, w.cell? ⟨b, o + i, none⟩ = some (.slice ai ni ci) ∧ Slc w ai ni ci (L.getD i [])
theorem Mat.call {w w' : World} {a : Option Addr} {n c : Nat} {L : List (List Int)} (h : Mat w a n c L) (hb : Below w.heap.size w w') : Mat w' a n c L := by
 refine ⟨h.len, h.nc, h.cap, ?_⟩
 rcases h.rows with h0 | ⟨b, o, e, hr⟩
 ·
  exact .inl h0
 refine .inr ⟨b, o, e, fun i hi => ?_⟩; obtain ⟨ai, ni, ci, h1, h2⟩ := hr i hi; exact ⟨ai, ni, ci, cell_keep hb h1, h2.call hb⟩
theorem Mat.at {w : World} {a : Option Addr} {n c : Nat} {L : List (List Int)} (h : Mat w a n c L) (hn : 0 < n) : ∃ b o, a = some ⟨b, o, none⟩ := by
 rcases h.rows with h0 | ⟨b, o, e, _⟩
 ·
  omega
 exact ⟨b, o, e⟩
theorem Mat.row {w : World} {b o n c : Nat} {L : List (List Int)} (h : Mat w (some ⟨b, o, none⟩) n c L) {i : Nat} (hi : i < n) : ∃ ai ni ci, w.cell? ⟨b, o + i, none⟩ = some (.slice ai ni ci) ∧ Slc w ai ni ci (L.getD i []) := by
 rcases h.rows with h0 | ⟨b', o', e, hr⟩
 ·
  omega
 cases e; exact hr i hi
end

section
open Go.RowKit
set_option linter.unusedVariables false

def prV (zs : List (Int × Int)) : List Value := zs.flatMap fun p => [.int .i64 p.1, .int .i64 p.2]
theorem prV_len : ∀ zs : List (Int × Int), (prV zs).length = zs.length * 2
 | [] => rfl
 | p :: zs => by have := prV_len zs; simp only [prV, List.flatMap_cons, List.length_append, List.length_cons, List.length_nil] at this ⊢; omega
theorem prV_app (a b : List (Int × Int)) : prV (a ++ b) = prV a ++ prV b := by simp [prV]
theorem prV_get : ∀ (zs : List (Int × Int)) (i : Nat), i < zs.length → (prV zs)[i * 2]? = some (.int .i64 (zs.getD i (0, 0)).1) ∧ (prV zs)[i * 2 + 1]? = some (.int .i64 (zs.getD i (0, 0)).2)
 | [], i, h => by simp at h
 | p :: zs, 0, _ => by simp [prV]
 | p :: zs, i + 1, h => by
  have h' : i < zs.length := by simpa using h
  have ih := prV_get zs i h'; have e : prV (p :: zs) = .int .i64 p.1 :: .int .i64 p.2 :: prV zs := by simp [prV]
  rw [e, show (i + 1) * 2 = i * 2 + 1 + 1 by omega]; simpa using ih
theorem prV_take (zs : List (Int × Int)) (k : Nat) : (prV zs).take (k * 2) = prV (zs.take k) := by
 induction zs generalizing k with
 | nil => simp [prV]
 | cons p zs ih =>
  cases k with
  | zero => simp [prV]
  | succ k =>
   have e : prV (p :: zs) = .int .i64 p.1 :: .int .i64 p.2 :: prV zs := by simp [prV]
   have e2 : prV ((p :: zs).take (k + 1)) = .int .i64 p.1 :: .int .i64 p.2 :: prV (zs.take k) := by simp [prV]
   rw [e, e2, show (k + 1) * 2 = k * 2 + 1 + 1 by omega, List.take_succ_cons, List.take_succ_cons, ih]
theorem prV_one : ∀ (zs : List (Int × Int)), ∀ u ∈ prV zs, u.oneCell' = true := by
 intro zs u hu; simp only [prV, List.mem_flatMap] at hu; obtain ⟨p, _, hp⟩ := hu; simp at hp
 rcases hp with rfl | rfl <;> rfl

structure Prs (w : World) (a : Option Addr) (n c : Nat) (zs : List (Int × Int)) : Prop where
 len : n = zs.length
 nc : n ≤ c
 cap : c ≤ 9223372036854775807
 rows : n = 0 ∨ ∃ b o, a = some ⟨b, o, none⟩ ∧ ∀ i, i < n → w.cell? ⟨b, o + i * 2, none⟩ = some (.int .i64 (zs.getD i (0, 0)).1) ∧ w.cell? ⟨b, o + i * 2 + 1, none⟩ = some (.int .i64 (zs.getD i (0, 0)).2)
theorem Prs.call {w w' : World} {a : Option Addr} {n c : Nat} {zs : List (Int × Int)} (h : Prs w a n c zs) (hb : Below w.heap.size w w') : Prs w' a n c zs := by
 refine ⟨h.len, h.nc, h.cap, ?_⟩
 rcases h.rows with h0 | ⟨b, o, e, hr⟩
 ·
  exact .inl h0
 exact .inr ⟨b, o, e, fun i hi => ⟨cell_keep hb (hr i hi).1, cell_keep hb (hr i hi).2⟩⟩
theorem Prs.at {w : World} {a : Option Addr} {n c : Nat} {zs : List (Int × Int)} (h : Prs w a n c zs) (hn : 0 < n) : ∃ b o, a = some ⟨b, o, none⟩ := by
 rcases h.rows with h0 | ⟨b, o, e, _⟩
 ·
  omega
 exact ⟨b, o, e⟩
theorem Prs.get {w : World} {b o n c : Nat} {zs : List (Int × Int)} (h : Prs w (some ⟨b, o, none⟩) n c zs) {i : Nat} (hi : i < n) : w.cell? ⟨b, o + i * 2, none⟩ = some (.int .i64 (zs.getD i (0, 0)).1) ∧ w.cell? ⟨b, o + i * 2 + 1, none⟩ = some (.int .i64 (zs.getD i (0, 0)).2) := by
 rcases h.rows with h0 | ⟨b', o', e, hr⟩
 ·
  omega
 cases e; exact hr i hi
theorem Prs.nil (w : World) : Prs w none 0 0 [] := ⟨rfl, Nat.le_refl _, by omega, .inl rfl⟩

section
variable {P : Program}
theorem append_vals {ops : Array Oper} {rest : List Oper} {o : Oper} {a : Act} {Q : Exit → Act → World → Prop} {w : World} (hgd : o.guard = none) (s x : Operand) (t e : TypeId) (size bytes : Nat) (z : Value)
  (hu : P.underlying t = some (.slice e)) (hinf : (P.info? e).map (fun i => (i.zero, i.size, i.bytes)) = some (some z, size, bytes)) (hzs : z.cells.size = size) (hsz : 0 < size) (hby : bytes ≤ 64)
  (ho : o.op = .call { callee := .builtin .append, args := #[s, x], argTypes := #[t, t] })
  (base : Nat) (v : Value) (n : Nat) (vs : List Value) (b m c : Nat) (news : List Value) (hs : a.eval s = v) (hx : a.eval x = .slice (some ⟨b, 0, none⟩) m c) (hl : news.length = m * size) (hown : w.ownsRow base e size v n vs)
  (hc : ∀ j u, news[j]? = some u → w.cell? ⟨b, j, none⟩ = some u) (h1 : ∀ u ∈ news, u.oneCell' = true) (hlen : n + m ≤ 1000000000) (hbase : base ≤ w.heap.size)
  (h : ∀ v' w', w'.ownsRow base e size v' (n + m) (vs ++ news) → w.grownBy w' v.ownBlock → (v'.ownBlock = v.ownBlock ∨ v'.ownBlock = some w.heap.size) → wpList P ops Q rest (a.put o.dst v') w') :
  wpList P ops Q (o :: rest) a w := by
 obtain ⟨i0, hi, hz0, hz1, hz2⟩ := info_parts hinf; refine wpList_append_own_at w hgd s x t ho base e i0 z size bytes hu hi hz0 hz1 hz2 hzs hsz v n vs hs hown ⟨b, 0, none⟩ m c news hx hl ?_ h1 (by unfold maxLen; omega) ?_ hbase (fun v' w' g1 g2 _ g4 => h v' w' g1 g2 g4)
 ·
  intro j u hj; have := hc j u hj; simp only [Addr.add]
  split
  ·
   rename_i e0; subst e0; exact this
  rw [Nat.zero_add]; exact this
 exact Nat.le_trans (Nat.mul_le_mul hlen hby) (by decide)
theorem oper_append_vals {o : Oper} {a : Act} {Q : Exit → Act → World → Prop} {K : Act → World → Prop} {w : World} (s x : Operand) (t e : TypeId) (size bytes : Nat) (z : Value)
    (hu : P.underlying t = some (.slice e)) (hinf : (P.info? e).map (fun i => (i.zero, i.size, i.bytes)) = some (some z, size, bytes)) (hzs : z.cells.size = size) (hsz : 0 < size) (hby : bytes ≤ 64)
    (ho : o.op = .call { callee := .builtin .append, args := #[s, x], argTypes := #[t, t] })
    (base : Nat) (v : Value) (n : Nat) (vs : List Value) (b m c : Nat) (news : List Value) (hs : a.eval s = v) (hx : a.eval x = .slice (some ⟨b, 0, none⟩) m c) (hl : news.length = m * size) (hown : w.ownsRow base e size v n vs)
    (hc : ∀ j u, news[j]? = some u → w.cell? ⟨b, j, none⟩ = some u) (h1 : ∀ u ∈ news, u.oneCell' = true) (hlen : n + m ≤ 1000000000) (hbase : base ≤ w.heap.size)
    (h : ∀ v' w', w'.ownsRow base e size v' (n + m) (vs ++ news) → w.grownBy w' v.ownBlock → (v'.ownBlock = v.ownBlock ∨ v'.ownBlock = some w.heap.size) → K (a.put o.dst v') w') :
    o.wp P a w K Q := by
  obtain ⟨i0, hi, hz0, hz1, hz2⟩ := info_parts hinf
  obtain ⟨v', w', hr, h2, h3, _, h5⟩ := run_append_own_at (P := P) w base t o.type e i0 z size bytes hu hi hz0 hz1 hz2 hzs hsz v n vs hown ⟨b, 0, none⟩ m c news hl
    (by intro j u hj
        have := hc j u hj; simp only [Addr.add]
        split
        · rename_i e0; subst e0; exact this
        · rw [Nat.zero_add]; exact this) h1 (by unfold maxLen; omega) (Nat.le_trans (Nat.mul_le_mul hlen hby) (by decide)) hbase
  unfold Oper.wp execOp
  simp only [ho, resolve, invoke, builtin, Sem.run_bind, Sem.run_pure, Result.andThen_ok, List.map_toArray, List.map_cons, List.map_nil, hs, hx, hr]; exact h v' w' h2 h3 h5
end

theorem ownsRow_take {w : World} {B : Nat} {e : TypeId} {sz : Nat} {g n c : Nat} {vs : List Value} (h : w.ownsRow B e sz (.slice (some ⟨g, 0, none⟩) n c) n vs) {k : Nat} (hk : k ≤ n) : w.ownsRow B e sz (.slice (some ⟨g, 0, none⟩) k c) k (vs.take (k * sz)) := by
 have hkn : k * sz ≤ n * sz := Nat.mul_le_mul_right _ hk; refine ⟨by rw [List.length_take, h.1]; omega, ?_⟩
 rcases h.2 with ⟨e0, _⟩ | ⟨g', cap, cur, e0, h1, h2, h3, h4, h5, h6⟩
 ·
  cases e0
 cases e0
 refine .inr ⟨g, c, cur, rfl, h1, h2, by omega, h4, h5, ?_⟩; rw [← h6, List.take_take]
 congr 1
 omega
theorem Own.take {w : World} {B : Nat} {g n c : Nat} {zs : List Int} (h : Own B w (.slice (some ⟨g, 0, none⟩) n c) zs) {k : Nat} (hk : k ≤ n) : Own B w (.slice (some ⟨g, 0, none⟩) k c) (zs.take k) := by
 have hn := Own.size h; subst hn; have := ownsRow_take (show w.ownsRow B 3 1 _ zs.length (zs.map (Value.int .i64)) from h) hk
 unfold Own
 rw [List.length_take, Nat.min_eq_left hk, List.map_take]; rw [Nat.mul_one] at this; exact this

section
variable {B : Nat} {W w w' : World} {l : List Ch} {rs : List Ro}
theorem St.take (h : St B W l rs w) (i : Nat) {e : TypeId} {sz g n c : Nat} {vs : List Value} (hi : l[i]? = some (.arr e sz (.slice (some ⟨g, 0, none⟩) n c) n vs)) {k : Nat} (hk : k ≤ n) : St B W (l.set i (.arr e sz (.slice (some ⟨g, 0, none⟩) k c) k (vs.take (k * sz)))) rs w :=
 h.upd i hi h.since (ownsRow_take (show w.ownsRow B e sz _ n vs from h.all i _ hi) hk) (fun _ e => .inl e) (fun _ _ _ => rfl)
theorem St.takeOwn (h : St B W l rs w) (i : Nat) {g n c : Nat} {zs : List Int} (hi : l[i]? = some (.own (.slice (some ⟨g, 0, none⟩) n c) zs)) {k : Nat} (hk : k ≤ n) : St B W (l.set i (.own (.slice (some ⟨g, 0, none⟩) k c) (zs.take k))) rs w :=
 h.upd i hi h.since (Own.take (show Own B w _ zs from h.all i _ hi) hk) (fun _ e => .inl e) (fun _ _ _ => rfl)
theorem St.arrNilE (h : St B W l rs w) (e : TypeId) (sz : Nat) : St B W (.arr e sz (.slice none 0 0) 0 [] :: l) rs w :=
 h.new (Below.refl _ _) (c := .arr e sz (.slice none 0 0) 0 []) (World.ownsRow_nil w B _ _) (fun b e => by cases e)
theorem St.appendE (h : St B W l rs w) (i : Nat) {e : TypeId} {sz : Nat} {v v' : Value} {n n' : Nat} {vs vs' : List Value} (hi : l[i]? = some (.arr e sz v n vs)) (ho : w'.ownsRow B e sz v' n' vs') (hg : w.grownBy w' v.ownBlock) (hv : v'.ownBlock = v.ownBlock ∨ v'.ownBlock = some w.heap.size) : St B W (l.set i (.arr e sz v' n' vs')) rs w' := by
 refine h.upd i hi (Since.mk (h.since.below.grown hg h.size (fun k hk => (Ch.bound (h.all i _ hi) hk).1)) (Nat.le_trans h.size hg.size)) ho (fun b hb => ?_) (fun k hlt hk => hg.block k hlt (fun e => hk e.symm))
 rcases hv with e | e
 ·
  exact .inl (e.symm.trans hb)
 right; have : some w.heap.size = some b := e.symm.trans hb; cases this; exact Nat.le_refl _
theorem St.arrE (h : St B W l rs w) (i : Nat) {e : TypeId} {sz : Nat} {v : Value} {n : Nat} {vs : List Value} (hi : l[i]? = some (.arr e sz v n vs)) : w.ownsRow B e sz v n vs := h.all i _ hi
theorem St.growE (h : St B W l rs w) {e : TypeId} {sz : Nat} {v : Value} {n : Nat} {vs : List Value} (hb : Below w.heap.size w w') (ho : w'.ownsRow w.heap.size e sz v n vs) : St B W (.arr e sz v n vs :: l) rs w' := by
 refine h.new hb (c := .arr e sz v n vs) ?_ (fun _ hv => (World.ownsRow.lt ho _ hv).1); refine ⟨ho.1, ?_⟩
 rcases ho.2 with h0 | ⟨g, cap, cur, e0, h1, h2⟩
 ·
  exact .inl h0
 exact .inr ⟨g, cap, cur, e0, Nat.le_trans h.size h1, h2⟩
theorem ownsRow_form {w : World} {B : Nat} {e : TypeId} {sz n : Nat} {v : Value} {vs : List Value} (h : w.ownsRow B e sz v n vs) : (v = .slice none 0 0 ∧ n = 0) ∨ ∃ g c, v = .slice (some ⟨g, 0, none⟩) n c ∧ n ≤ c ∧ c ≤ 9223372036854775807 ∧ B ≤ g ∧ ∀ j u, vs[j]? = some u → w.cell? ⟨g, j, none⟩ = some u := by
 rcases h.2 with h0 | ⟨g, cap, cur, rfl, h1, h2, h3, h4, h5, h6⟩
 ·
  exact .inl h0
 refine .inr ⟨g, cap, rfl, h3, by unfold maxLen at h4; omega, h1, fun j u hj => ?_⟩; have := World.ownsRow.cells h (g := g) rfl j u hj; simp only [Addr.add] at this
 split at this
 ·
  rename_i e0; subst e0; exact this
 rw [Nat.zero_add] at this; exact this
theorem prs_own {w : World} {B : Nat} {e : TypeId} {v : Value} {zs : List (Int × Int)} (h : w.ownsRow B e 2 v zs.length (prV zs)) : ∃ a c, v = .slice a zs.length c ∧ Prs w a zs.length c zs := by
 rcases ownsRow_form h with ⟨rfl, h0⟩ | ⟨g, c, rfl, h1, h2, _, h3⟩
 ·
  rw [h0]; exact ⟨none, 0, rfl, ⟨h0.symm, Nat.le_refl _, by omega, .inl rfl⟩⟩
 refine ⟨_, c, rfl, ⟨rfl, h1, h2, .inr ⟨g, 0, rfl, fun i hi => ?_⟩⟩⟩; obtain ⟨g1, g2⟩ := prV_get zs i hi; rw [Nat.zero_add]; exact ⟨h3 _ _ g1, h3 _ _ g2⟩
theorem St.prs (h : St B W l rs w) (i : Nat) {e : TypeId} {a : Option Addr} {n c : Nat} {zs : List (Int × Int)} (hi : l[i]? = some (.arr e 2 (.slice a n c) n (prV zs))) : Prs w a n c zs := by
 have ho := h.arrE i hi; have hn : n = zs.length := by have := ho.1; rw [prV_len] at this; omega
 subst hn; obtain ⟨a', c', e0, hp⟩ := prs_own ho; cases e0
 exact hp
theorem St.oldPrs (h : St B W l rs w) {a : Option Addr} {n c : Nat} {zs : List (Int × Int)} (hs : Prs W a n c zs) : Prs w a n c zs := hs.call h.below
theorem lit_news (h : St B W l rs w) (i : Nat) {b : Nat} {t : TypeId} (vs : List Value) (hi : l[i]? = some (.cells b vs.toArray t)) : ∀ j u, vs[j]? = some u → w.cell? ⟨b, j, none⟩ = some u := fun j u hj => h.cell i hi j (by simpa using hj)
end
end

section
open Go.RowKit
set_option linter.unusedVariables false

def Ro.v (r : Ro) : Value := .slice r.a r.n r.c
def tapV (tp : List (Int × Ro)) : List Value := tp.flatMap fun p => [.int .i64 p.1, p.2.v]
def tapD (tp : List (Int × Ro)) : List (Int × List Int) := tp.map fun p => (p.1, p.2.zs)
theorem tapV_len : ∀ tp : List (Int × Ro), (tapV tp).length = tp.length * 2
 | [] => rfl
 | p :: tp => by have := tapV_len tp; simp only [tapV, List.flatMap_cons, List.length_append, List.length_cons, List.length_nil] at this ⊢; omega
theorem tapV_app (a b : List (Int × Ro)) : tapV (a ++ b) = tapV a ++ tapV b := by simp [tapV]
theorem tapD_len (tp : List (Int × Ro)) : (tapD tp).length = tp.length := by simp [tapD]
theorem tapD_app (a b : List (Int × Ro)) : tapD (a ++ b) = tapD a ++ tapD b := by simp [tapD]
theorem tapV_get : ∀ (tp : List (Int × Ro)) (i : Nat) (p : Int × Ro), tp[i]? = some p → (tapV tp)[i * 2]? = some (.int .i64 p.1) ∧ (tapV tp)[i * 2 + 1]? = some p.2.v
 | [], i, p, h => by simp at h
 | q :: tp, 0, p, h => by simp at h; subst h; simp [tapV]
 | q :: tp, i + 1, p, h => by
  have ih := tapV_get tp i p (by simpa using h); have e : tapV (q :: tp) = .int .i64 q.1 :: q.2.v :: tapV tp := by simp [tapV]
  rw [e, show (i + 1) * 2 = i * 2 + 1 + 1 by omega]; simpa using ih
theorem tapV_set : ∀ (tp : List (Int × Ro)) (i : Nat) (p : Int × Ro), i < tp.length → ((tapV tp).set (i * 2) (.int .i64 p.1)).set (i * 2 + 1) p.2.v = tapV (tp.set i p)
 | [], i, p, h => by simp at h
 | q :: tp, 0, p, h => by simp [tapV]
 | q :: tp, i + 1, p, h => by
  have ih := tapV_set tp i p (by simpa using h); have e : tapV (q :: tp) = .int .i64 q.1 :: q.2.v :: tapV tp := by simp [tapV]
  have e2 : tapV (q :: tp.set i p) = .int .i64 q.1 :: q.2.v :: tapV (tp.set i p) := by simp [tapV]
  rw [List.set_cons_succ, e, e2, ← ih, show (i + 1) * 2 = i * 2 + 1 + 1 by omega]; simp

structure Tps (w : World) (a : Option Addr) (n c : Nat) (ts : List (Int × List Int)) : Prop where
 len : n = ts.length
 nc : n ≤ c
 cap : c ≤ 9223372036854775807
 rows : n = 0 ∨ ∃ b o, a = some ⟨b, o, none⟩ ∧ ∀ i, i < n → ∃ ai ni ci, w.cell? ⟨b, o + i * 2, none⟩ = some (.int .i64 (ts.getD i (0, [])).1) ∧ w.cell? ⟨b, o + i * 2 + 1, none⟩ = some (.slice ai ni ci) ∧ Slc w ai ni ci (ts.getD i (0, [])).2
theorem Tps.call {w w' : World} {a : Option Addr} {n c : Nat} {ts : List (Int × List Int)} (h : Tps w a n c ts) (hb : Below w.heap.size w w') : Tps w' a n c ts := by
 refine ⟨h.len, h.nc, h.cap, ?_⟩
 rcases h.rows with h0 | ⟨b, o, e, hr⟩
 ·
  exact .inl h0
 refine .inr ⟨b, o, e, fun i hi => ?_⟩; obtain ⟨ai, ni, ci, h1, h2, h3⟩ := hr i hi; exact ⟨ai, ni, ci, cell_keep hb h1, cell_keep hb h2, h3.call hb⟩
theorem Tps.at {w : World} {a : Option Addr} {n c : Nat} {ts : List (Int × List Int)} (h : Tps w a n c ts) (hn : 0 < n) : ∃ b o, a = some ⟨b, o, none⟩ := by
 rcases h.rows with h0 | ⟨b, o, e, _⟩
 ·
  omega
 exact ⟨b, o, e⟩
theorem Tps.row {w : World} {b o n c : Nat} {ts : List (Int × List Int)} (h : Tps w (some ⟨b, o, none⟩) n c ts) {i : Nat} (hi : i < n) : ∃ ai ni ci, w.cell? ⟨b, o + i * 2, none⟩ = some (.int .i64 (ts.getD i (0, [])).1) ∧ w.cell? ⟨b, o + i * 2 + 1, none⟩ = some (.slice ai ni ci) ∧ Slc w ai ni ci (ts.getD i (0, [])).2 := by
 rcases h.rows with h0 | ⟨b', o', e, hr⟩
 ·
  omega
 cases e; exact hr i hi
theorem Tps.nil (w : World) : Tps w none 0 0 [] := ⟨rfl, Nat.le_refl _, by omega, .inl rfl⟩

def NewR (B : Nat) (r : Ro) : Prop := r.n = 0 ∨ ∃ x, r.a = some x ∧ B ≤ x.block
def TQ (B : Nat) (rs : List Ro) (tp : List (Int × Ro)) : Prop := ∀ p ∈ tp, p.2 ∈ rs ∧ NewR B p.2
def OwnT (B : Nat) (w : World) (v : Value) (ts : List (Int × List Int)) : Prop :=
 ∃ tp : List (Int × Ro), tapD tp = ts ∧ w.ownsRow B 59 2 v tp.length (tapV tp) ∧ ∀ p ∈ tp, Slc w p.2.a p.2.n p.2.c p.2.zs ∧ NewR B p.2 ∧ ∀ b, v.ownBlock = some b → Far p.2.a p.2.n b
theorem OwnT.nil (B : Nat) (w : World) : OwnT B w (.slice none 0 0) [] := ⟨[], rfl, World.ownsRow_nil w B _ _, fun p h => by simp at h⟩

section
variable {B : Nat} {W w w' : World} {l : List Ch} {rs : List Ro}
theorem St.oldTps (h : St B W l rs w) {a : Option Addr} {n c : Nat} {ts : List (Int × List Int)} (hs : Tps W a n c ts) : Tps w a n c ts := hs.call h.below
theorem tp_get {tp : List (Int × Ro)} {i : Nat} (hi : i < tp.length) : ∃ p, tp[i]? = some p ∧ p ∈ tp ∧ (tapD tp).getD i (0, []) = (p.1, p.2.zs) := by
 refine ⟨tp[i], List.getElem?_eq_getElem hi, List.getElem_mem hi, ?_⟩
 unfold tapD
 rw [List.getD_eq_getElem?_getD, List.getElem?_map, List.getElem?_eq_getElem hi]; rfl
theorem St.roMem (h : St B W l rs w) {r : Ro} (hr : r ∈ rs) : Slc w r.a r.n r.c r.zs ∧ ∀ (j : Nat) c b, l[j]? = some c → c.block = some b → Far r.a r.n b := by
 obtain ⟨i, hi, e⟩ := List.getElem_of_mem hr; exact h.ro i r (by rw [List.getElem?_eq_getElem hi, e])
theorem taps_read {e : TypeId} {v : Value} {tp : List (Int × Ro)} (ho : w.ownsRow B e 2 v tp.length (tapV tp)) (hs : ∀ p ∈ tp, Slc w p.2.a p.2.n p.2.c p.2.zs) : ∃ a c, v = .slice a tp.length c ∧ Tps w a tp.length c (tapD tp) := by
 rcases ownsRow_form ho with ⟨rfl, h0⟩ | ⟨g, c, rfl, h1, h2, _, h3⟩
 ·
  rw [h0]; exact ⟨none, 0, rfl, ⟨by rw [tapD_len, h0], Nat.le_refl _, by omega, .inl rfl⟩⟩
 refine ⟨_, c, rfl, ⟨by rw [tapD_len], h1, h2, .inr ⟨g, 0, rfl, fun i hi => ?_⟩⟩⟩; obtain ⟨p, hp, hm, hd⟩ := tp_get hi; obtain ⟨g1, g2⟩ := tapV_get tp i p hp; rw [Nat.zero_add, hd]; exact ⟨p.2.a, p.2.n, p.2.c, h3 _ _ g1, h3 _ _ g2, hs p hm⟩
theorem OwnT.read {v : Value} {ts : List (Int × List Int)} (h : OwnT B w v ts) : ∃ a c, v = .slice a ts.length c ∧ Tps w a ts.length c ts := by
 obtain ⟨tp, rfl, ho, hs⟩ := h; rw [tapD_len]; exact taps_read ho fun p hp => (hs p hp).1
theorem St.taps (h : St B W l rs w) (i : Nat) {e : TypeId} {a : Option Addr} {n c : Nat} {tp : List (Int × Ro)} (hi : l[i]? = some (.arr e 2 (.slice a n c) n (tapV tp))) (hq : TQ B rs tp) : Tps w a n c (tapD tp) := by
 have ho : w.ownsRow B e 2 (.slice a n c) n (tapV tp) := h.all i _ hi; have hn : n = tp.length := by have := ho.1; rw [tapV_len] at this; omega
 subst hn; obtain ⟨a', c', e0, hp⟩ := taps_read ho fun p hp => (h.roMem (hq p hp).1).1
 cases e0
 exact hp
theorem St.outT (h : St B W l rs w) (i : Nat) {v : Value} {n : Nat} {tp : List (Int × Ro)} (hi : l[i]? = some (.arr 59 2 v n (tapV tp))) (hq : TQ B rs tp) : OwnT B w v (tapD tp) := by
 have ho : w.ownsRow B 59 2 v n (tapV tp) := h.all i _ hi; have hn : n = tp.length := by have := ho.1; rw [tapV_len] at this; omega
 subst hn; exact ⟨tp, rfl, ho, fun p hp => ⟨(h.roMem (hq p hp).1).1, (hq p hp).2, fun b hb => (h.roMem (hq p hp).1).2 i _ b hi hb⟩⟩
theorem NewR.far {r : Ro} {b : Nat} (h : NewR B r) (hb : b < B) : Far r.a r.n b := by
 rcases h with h0 | ⟨x, e, hx⟩
 ·
  exact .inl h0
 exact .inr ⟨x, e, by omega⟩
theorem NewR.le {r : Ro} {B' : Nat} (h : NewR B r) (hb : B' ≤ B) : NewR B' r := by
 rcases h with h0 | ⟨x, e, hx⟩
 ·
  exact .inl h0
 exact .inr ⟨x, e, by omega⟩
theorem St.addT (h : St B W l rs w) (hb : Below w.heap.size w w') {v : Value} {ts : List (Int × List Int)} (ho : OwnT w.heap.size w' v ts) :
  ∃ tp, tapD tp = ts ∧ TQ B (tp.map (·.2) ++ rs) tp ∧ St B W (.arr 59 2 v tp.length (tapV tp) :: l) (tp.map (·.2) ++ rs) w' := by
 obtain ⟨tp, hd, ho, hs⟩ := ho; have hg := h.growE hb ho; refine ⟨tp, hd, fun p hp => ⟨List.mem_append_left _ (List.mem_map.2 ⟨p, hp, rfl⟩), (hs p hp).2.1.le h.size⟩, ?_⟩; refine ⟨hg.hB, hg.since, hg.all, hg.sep, fun i r hr => ?_⟩; have hm := List.mem_of_getElem? hr
 rcases List.mem_append.1 hm with hm | hm
 ·
  obtain ⟨p, hp, rfl⟩ := List.mem_map.1 hm; obtain ⟨h1, h2, h3⟩ := hs p hp; refine ⟨h1, fun j c b hj hbk => ?_⟩; cases j with
  | zero => simp at hj; subst hj; exact h3 b hbk
  | succ j => exact h2.far (Ch.bound (h.all j c (by simpa using hj)) hbk).2
 exact hg.roMem hm
theorem St.lay (h : St B W l rs w) (i : Nat) {a : Option Addr} {n c : Nat} {zs : List Int} (hi : l[i]? = some (.own (.slice a n c) zs)) : NewR B ⟨a, n, c, zs⟩ := by
 have ho : Own B w (.slice a n c) zs := h.all i _ hi
 rcases ho.form with ⟨e, e0⟩ | ⟨g, c', e, hb⟩
 ·
  cases e; exact .inl rfl
 cases e
 exact .inr ⟨_, rfl, (Ch.bound (h.all i _ hi) rfl).1⟩
theorem TQ.cons {B : Nat} {rs : List Ro} {tp : List (Int × Ro)} (h : TQ B rs tp) (r : Ro) : TQ B (r :: rs) tp := fun p hp => ⟨List.mem_cons_of_mem _ (h p hp).1, (h p hp).2⟩
theorem TQ.snoc {B : Nat} {rs : List Ro} {tp : List (Int × Ro)} (h : TQ B rs tp) {k : Int} {r : Ro} (hr : NewR B r) : TQ B (r :: rs) (tp ++ [(k, r)]) := fun p hp => by
 rcases List.mem_append.1 hp with hp | hp
 ·
  exact h.cons r p hp
 simp at hp; subst hp; exact ⟨List.mem_cons_self, hr⟩
theorem TQ.nil (B : Nat) (rs : List Ro) : TQ B rs [] := fun p hp => by simp at hp
theorem TQ.set {B : Nat} {rs : List Ro} {tp : List (Int × Ro)} (h : TQ B rs tp) {k : Int} {r : Ro} (hr : NewR B r) (i : Nat) : TQ B (r :: rs) (tp.set i (k, r)) := fun p hp => by
 rcases List.mem_or_eq_of_mem_set hp with hp | rfl
 ·
  exact h.cons r p hp
 exact ⟨List.mem_cons_self, hr⟩
theorem St.arrOfT (h : St B W l rs w) (i : Nat) {e : TypeId} {sz : Nat} {v : Value} {n : Nat} {vs : List Value} (hi : l[i]? = some (.arr e sz v n vs)) : w.ownsRow B e sz v n vs := h.all i _ hi
theorem St.storeTap (h : St B W l rs w) (i : Nat) {e : TypeId} {sz g n c : Nat} {vs : List Value} (hi : l[i]? = some (.arr e sz (.slice (some ⟨g, 0, none⟩) n c) n vs)) (j : Nat) (u : Value) :
  St B W (l.set i (.arr e sz (.slice (some ⟨g, 0, none⟩) n c) n (vs.set j u))) rs (w.setCell ⟨g, j, none⟩ u) := by
 have ho : w.ownsRow B e sz (.slice (some ⟨g, 0, none⟩) n c) n vs := h.all i _ hi; have hs := World.ownsRow.stored ho j u; have hb : B ≤ g := (World.ownsRow.lt ho g rfl).1; exact h.upd i hi (h.since.set hb u) hs.1 (fun _ e => .inl e) (fun k hlt hk => hs.2.block k hlt (fun e => hk e.symm))
theorem St.arrCell (h : St B W l rs w) (i : Nat) {e : TypeId} {sz g n c : Nat} {vs : List Value} (hi : l[i]? = some (.arr e sz (.slice (some ⟨g, 0, none⟩) n c) n vs)) {j : Nat} (hj : j < n * sz) : w.cell? ⟨g, j, none⟩ = vs[j]? ∧ w.frozen? ⟨g, j, none⟩ = false :=
 have ho : w.ownsRow B e sz (.slice (some ⟨g, 0, none⟩) n c) n vs := h.all i _ hi
 ⟨World.ownsRow.cellAt ho j hj, World.ownsRow.frozenAt ho j⟩
end
theorem arr_posT {B : Nat} {w : World} {e : TypeId} {sz n : Nat} {v : Value} {vs : List Value} (h : w.ownsRow B e sz v n vs) (hn : 0 < n) : ∃ g c, v = .slice (some ⟨g, 0, none⟩) n c := by
 rcases ownsRow_form h with ⟨_, h0⟩ | ⟨g, c, e, _⟩
 ·
  omega
 exact ⟨g, c, e⟩
structure TabTo (f : Nat → Int × List Int) (tp : List (Int × Ro)) (M j : Nat) : Prop where
 len : tp.length = M
 vals : ∀ i, i < j → (tapD tp).getD i (0, []) = f i
def nilTap : Int × Ro := (0, ⟨none, 0, 0, []⟩)
theorem TabTo.zero (f : Nat → Int × List Int) (M : Nat) : TabTo f (List.replicate M nilTap) M 0 := ⟨by simp, fun i hi => by omega⟩
theorem TabTo.next {f : Nat → Int × List Int} {tp : List (Int × Ro)} {M j : Nat} (h : TabTo f tp M j) (hj : j < M) {k : Int} {r : Ro} (hf : (k, r.zs) = f j) : TabTo f (tp.set j (k, r)) M (j + 1) := by
 refine ⟨by rw [List.length_set]; exact h.len, fun i hi => ?_⟩
 unfold tapD
 rw [List.getD_eq_getElem?_getD, List.getElem?_map, List.getElem?_set]; by_cases e : j = i
 ·
  subst e; rw [if_pos rfl, if_pos (by rw [h.len]; exact hj)]; exact hf
 rw [if_neg e]; have := h.vals i (by omega)
 unfold tapD at this
 rwa [List.getD_eq_getElem?_getD, List.getElem?_map] at this
theorem TabTo.all {f : Nat → Int × List Int} {tp : List (Int × Ro)} {M : Nat} (h : TabTo f tp M M) : tapD tp = (List.range M).map f := by
 refine List.ext_getElem? fun i => ?_
 by_cases hi : i < M
 ·
  have := h.vals i hi; rw [List.getElem?_map, List.getElem?_range hi]; have hl : i < (tapD tp).length := by rw [tapD_len, h.len]; exact hi
  rw [List.getD_eq_getElem?_getD, List.getElem?_eq_getElem hl] at this; rw [List.getElem?_eq_getElem hl]; simpa using this
 rw [List.getElem?_eq_none (by rw [tapD_len, h.len]; omega), List.getElem?_eq_none (by simp; omega)]
section
variable {B : Nat} {W w w' : World} {l : List Ch} {rs : List Ro}
theorem St.tapCell (h : St B W l rs w) (i : Nat) {e : TypeId} {g n c : Nat} {tp : List (Int × Ro)} (hi : l[i]? = some (.arr e 2 (.slice (some ⟨g, 0, none⟩) n c) n (tapV tp))) {j : Nat} (hj : j < tp.length) :
  ∃ u u', w.cell? ⟨g, j * 2, none⟩ = some u ∧ w.frozen? ⟨g, j * 2, none⟩ = false ∧ w.cell? ⟨g, j * 2 + 1, none⟩ = some u' ∧ w.frozen? ⟨g, j * 2 + 1, none⟩ = false := by
 have ho : w.ownsRow B e 2 (.slice (some ⟨g, 0, none⟩) n c) n (tapV tp) := h.all i _ hi; have hn : n = tp.length := by have := ho.1; rw [tapV_len] at this; omega
 obtain ⟨p, hp, _, _⟩ := tp_get hj; obtain ⟨g1, g2⟩ := tapV_get tp j p hp; obtain ⟨a1, a2⟩ := h.arrCell i hi (j := j * 2) (by omega); obtain ⟨b1, b2⟩ := h.arrCell i hi (j := j * 2 + 1) (by omega); exact ⟨_, _, a1.trans g1, a2, b1.trans g2, b2⟩
theorem St.layLit (h : St B W l rs w) (i : Nat) {b : Nat} (zs : List Int) (hi : l[i]? = some (.cells b (zs.map (Value.int .i64)).toArray 3)) (hn : zs.length ≤ 1000000) :
  St B W (l.eraseIdx i) (⟨some ⟨b, 0, none⟩, zs.length, zs.length, zs⟩ :: rs) w ∧ NewR B ⟨some ⟨b, 0, none⟩, zs.length, zs.length, zs⟩ := by
 have h1 := h.litOwn i zs hi hn
 have hi' : (l.set i (.own (.slice (some ⟨b, 0, none⟩) zs.length zs.length) zs))[i]? = some (.own (.slice (some ⟨b, 0, none⟩) zs.length zs.length) zs) := by
  have : i < l.length := (List.getElem?_eq_some_iff.1 hi).1; rw [List.getElem?_set, if_pos rfl, if_pos this]
 have h2 := h1.freeze i hi'; rw [List.eraseIdx_set_eq] at h2; exact ⟨h2, h1.lay i hi'⟩
end
theorem info_tap : (Tryz.prog.info? 59).map (fun i => (i.zero, i.size, i.bytes)) = some (some (.agg #[.int .i64 0, .slice none 0 0]), 2, 32) := by kernel_rfl
end

section
open Go.RowKit
set_option linter.unusedVariables false

theorem TQ.more {B : Nat} {rs : List Ro} {tp : List (Int × Ro)} (h : TQ B rs tp) (rs' : List Ro) : TQ B (rs' ++ rs) tp := fun p hp => ⟨List.mem_append_right _ (h p hp).1, (h p hp).2⟩
section
variable {B : Nat} {W w w' : World} {l : List Ch} {rs : List Ro}
theorem St.addT' (h : St B W l rs w) (hb : Below w.heap.size w w') {v : Value} {ts : List (Int × List Int)} (ho : OwnT w.heap.size w' v ts) :
  ∃ tp R a c, v = .slice a ts.length c ∧ tapD tp = ts ∧ TQ B R tp ∧ (∀ tp', TQ B rs tp' → TQ B R tp') ∧ St B W (.arr 59 2 (.slice a ts.length c) ts.length (tapV tp) :: l) R w' := by
 obtain ⟨a, c, rfl, _⟩ := ho.read; obtain ⟨tp, h1, h2, h3⟩ := h.addT hb ho; have e : tp.length = ts.length := by rw [← h1, tapD_len]
 rw [e] at h3; exact ⟨tp, _, a, c, rfl, h1, h2, fun tp' h => h.more _, h3⟩
end
end

section
open Go.RowKit
set_option linter.unusedVariables false

section
variable {B0 k B : Nat} {W w : World} {l : List Ch}
end
theorem St.litArr2 {B : Nat} {W w : World} {l : List Ch} {rs : List Ro} (h : St B W l rs w) (i : Nat) {b : Nat} {t : TypeId} (sz n : Nat) (vs : List Value) (hi : l[i]? = some (.cells b vs.toArray t)) (hl : vs.length = n * sz) (hn : n ≤ 1000000) :
  St B W (l.set i (.arr t sz (.slice (some ⟨b, 0, none⟩) n n) n vs)) rs w := by
 have hc := h.all i _ hi; refine h.upd i hi h.since ?_ (fun _ e => .inl e) (fun _ _ _ => rfl); exact ⟨hl, .inr ⟨b, n, _, rfl, hc.1, hc.2, Nat.le_refl _, by unfold maxLen; omega, by simpa using hl, by rw [List.take_of_length_le (by simp; omega)]⟩⟩
theorem ownsRow_up2 {w : World} {B B' : Nat} {e : TypeId} {sz n : Nat} {v : Value} {vs : List Value} (h : w.ownsRow B e sz v n vs) (hB : B' ≤ B) : w.ownsRow B' e sz v n vs := by
 refine ⟨h.1, ?_⟩
 rcases h.2 with h' | ⟨g, cap, cur, e, h1, h2⟩
 ·
  exact .inl h'
 exact .inr ⟨g, cap, cur, e, Nat.le_trans hB h1, h2⟩
section
variable {B : Nat} {W w w' : World} {l : List Ch} {rs : List Ro}
theorem St.addE2 (h : St B W l rs w) (h' : St B W l rs w') {e : TypeId} {sz n : Nat} {v : Value} {vs : List Value} (ho : w'.ownsRow w.heap.size e sz v n vs) : St B W (.arr e sz v n vs :: l) rs w' :=
 h.newOf h' (c := .arr e sz v n vs) (ownsRow_up2 ho h.size) (fun _ hv => (World.ownsRow.lt ho _ hv).1)
end
section
variable {B0 k B : Nat} {W w w' : World} {l l' : List Ch}
theorem Tk.litArr2 (h : Tk B0 k B W l w) (i : Nat) {b : Nat} {t : TypeId} (sz n : Nat) (vs : List Value) (hi : l[i]? = some (.cells b vs.toArray t)) (hl : vs.length = n * sz) (hn : n ≤ 1000000) :
  Tk B0 k B W (l.set i (.arr t sz (.slice (some ⟨b, 0, none⟩) n n) n vs)) w := h.map (fun _ hs => hs.litArr2 i sz n vs hi hl hn) h.tape
theorem Tk.addE2 (h : Tk B0 k B W l w) (ht : TapeB B0 w' k) (hg : w.grownBy w' (some k)) {e : TypeId} {sz n : Nat} {v : Value} {vs : List Value} (ho : w'.ownsRow w.heap.size e sz v n vs) (hn : l.all Ch.notTape = true := by rfl) : Tk B0 k B W (.arr e sz v n vs :: l) w' := by
 obtain ⟨w1, hs', hW⟩ := (h.next ht hg hn).st; obtain ⟨w0, hs, _⟩ := h.st; have hsz := hs.size; have hb := fun b (hv : v.ownBlock = some b) => (World.ownsRow.lt ho b hv).1
 refine ⟨⟨w1, ?_, hW⟩, ht, h.kB, h.WB⟩; refine ⟨hs'.hB, hs'.since, fun i c hi => ?_, fun i j c d b hi hj hne hbc hbd => ?_, fun i r hr => by simp at hr⟩
 ·
  cases i with
  | zero => simp at hi; subst hi; exact ownsRow_up2 ho hsz
  | succ i => exact hs'.all i c (by simpa using hi)
 cases i with
 | zero =>
  simp at hi; subst hi
  cases j with
  | zero => exact hne rfl
  | succ j =>
   have h1 := hb b hbc; have h2 := (hs.lt j (by simpa using hj) hbd).2
   omega
 | succ i =>
  cases j with
  | zero =>
   simp at hj; subst hj
   have h1 := hb b hbd; have h2 := (hs.lt i (by simpa using hi) hbc).2
   omega
  | succ j => exact hs'.sep i j c d b (by simpa using hi) (by simpa using hj) (by omega) hbc hbd
end
section
variable {B0 k B : Nat} {W w w' : World} {l l' : List Ch} {rs : List Ro}
end
end

section
open Go.RowKit
set_option linter.unusedVariables false

section
variable {B : Nat} {W w w' : World} {l : List Ch} {rs : List Ro}
theorem St.addTT (h : St B W l rs w) (h' : St B W l rs w') {v : Value} {ts : List (Int × List Int)} (ho : OwnT w.heap.size w' v ts) :
  ∃ tp R a c, v = .slice a ts.length c ∧ tapD tp = ts ∧ TQ B R tp ∧ (∀ tp', TQ B rs tp' → TQ B R tp') ∧ St B W (.arr 59 2 (.slice a ts.length c) ts.length (tapV tp) :: l) R w' := by
 obtain ⟨a, c, rfl, _⟩ := ho.read; obtain ⟨tp, hd, ho, hs⟩ := ho; have e : tp.length = ts.length := by rw [← hd, tapD_len]
 rw [e] at ho; have hg := h.addE2 h' ho; refine ⟨tp, tp.map (·.2) ++ rs, a, c, rfl, hd, fun p hp => ⟨List.mem_append_left _ (List.mem_map.2 ⟨p, hp, rfl⟩), (hs p hp).2.1.le h.size⟩, fun tp' h => h.more _, ?_⟩; refine ⟨hg.hB, hg.since, hg.all, hg.sep, fun i r hr => ?_⟩; have hm := List.mem_of_getElem? hr
 rcases List.mem_append.1 hm with hm | hm
 ·
  obtain ⟨p, hp, rfl⟩ := List.mem_map.1 hm; obtain ⟨h1, h2, h3⟩ := hs p hp; refine ⟨h1, fun j c b hj hbk => ?_⟩; cases j with
  | zero => simp at hj; subst hj; exact h3 b hbk
  | succ j => exact h2.far (Ch.bound (h.all j c (by simpa using hj)) hbk).2
 exact hg.roMem hm
end
end

section
open Go.RowKit
set_option linter.unusedVariables false

theorem arr_pos {B : Nat} {w : World} {e : TypeId} {sz n : Nat} {v : Value} {vs : List Value} (h : w.ownsRow B e sz v n vs) (hn : 0 < n) : ∃ g c, v = .slice (some ⟨g, 0, none⟩) n c := by
 rcases ownsRow_form h with ⟨_, h0⟩ | ⟨g, c, e, _⟩
 ·
  omega
 exact ⟨g, c, e⟩
theorem arr_cap {B : Nat} {w : World} {e : TypeId} {sz n g c : Nat} {vs : List Value} (h : w.ownsRow B e sz (.slice (some ⟨g, 0, none⟩) n c) n vs) : n ≤ c := by
 rcases ownsRow_form h with ⟨e, _⟩ | ⟨g', c', e, h1, _⟩
 ·
  cases e
 cases e; exact h1
theorem arr_pair {B : Nat} {w : World} {e : TypeId} {n g c : Nat} {L : List (Int × Int)} (h : w.ownsRow B e 2 (.slice (some ⟨g, 0, none⟩) n c) n (prV L)) {i : Nat} (hi : i < L.length) : w.cell? ⟨g, i * 2, none⟩ = some (.int .i64 (L.getD i (0, 0)).1) ∧ w.cell? ⟨g, i * 2 + 1, none⟩ = some (.int .i64 (L.getD i (0, 0)).2) := by
 rcases ownsRow_form h with ⟨e, _⟩ | ⟨g', c', e, _, _, _, h3⟩
 ·
  cases e
 cases e
 obtain ⟨g1, g2⟩ := prV_get L i hi; exact ⟨h3 _ _ g1, h3 _ _ g2⟩
theorem arr_len {B : Nat} {w : World} {e : TypeId} {n : Nat} {v : Value} {L : List (Int × Int)} (h : w.ownsRow B e 2 v n (prV L)) : L.length = n := by
 have := h.1; rw [prV_len] at this; omega
end

section
open Go.RowKit
set_option linter.unusedVariables false
section
variable {B : Nat} {W w w' : World} {rs : List Ro}
theorem St.pickT {l0 T : List Ch} (h : St B W (l0 ++ T) rs w) {l' : List Ch} (ix : List Nat) (hl : ix.map (fun i => l0[i]?) = l'.map some) (hnd : ix.Nodup) : St B W (l' ++ T) rs w := by
 have hlen : ix.length = l'.length := by have := congrArg List.length hl; simpa using this
 have hlt : ∀ j ∈ ix, j < l0.length := fun j hj => by
  have : l0[j]? ∈ l'.map some := by rw [← hl]; exact List.mem_map.2 ⟨j, hj, rfl⟩
  obtain ⟨c, _, e⟩ := List.mem_map.1 this; exact (List.getElem?_eq_some_iff.1 e.symm).1
 refine h.pick (ix ++ (List.range T.length).map (fun i => l0.length + i)) ?_ ?_
 ·
  rw [List.map_append, List.map_append]
  congr 1
  ·
   rw [← hl]; refine List.map_congr_left fun j hj => ?_
   rw [List.getElem?_append_left (hlt j hj)]
  rw [List.map_map]; refine List.ext_getElem? fun i => ?_
  rw [List.getElem?_map, List.getElem?_map]; by_cases hi : i < T.length
  ·
   rw [List.getElem?_range hi, List.getElem?_eq_getElem hi]
   show some ((l0 ++ T)[l0.length + i]?) = some (some T[i])
   rw [List.getElem?_append_right (by omega), Nat.add_sub_cancel_left, List.getElem?_eq_getElem hi]
  rw [List.getElem?_eq_none (by simp; omega), List.getElem?_eq_none (by omega)]; rfl
 rw [List.nodup_append]; refine ⟨hnd, ?_, fun a ha b hb e => ?_⟩
 ·
  exact List.Pairwise.map _ (fun a b (h : a ≠ b) e => h (by omega)) List.nodup_range
 subst e; obtain ⟨i, _, e⟩ := List.mem_map.1 hb; have := hlt _ ha
 omega
end
end

section
open Go.RowKit
set_option linter.unusedVariables false
theorem St.setRow {B : Nat} {W w : World} {l : List Ch} {rs : List Ro} (h : St B W l rs w) (i : Nat) {b : Nat} {cs : Array Value} {t : TypeId} (hi : l[i]? = some (.cells b cs t)) (cs' : Array Value) :
  St B W (l.set i (.cells b cs' t)) rs (w.setRow b cs') := by
 have hc := h.all i _ hi; refine h.upd i hi (c' := .cells b cs' t) ⟨h.since.below.trans ⟨rfl, rfl, rfl, ?_, fun k hk => setRow_other _ _ _ _ (by have := hc.1; omega)⟩, ?_⟩ ⟨hc.1, setRow_heap _ _ _ _ _ _ hc.2⟩ (fun _ e => .inl e) (fun k _ hk => setRow_other _ _ _ _ (fun e => hk (by rw [e]; rfl)))
 ·
  simp [World.setRow]
 have := h.since.size; simpa [World.setRow] using this
theorem St.rowAt {B : Nat} {W w : World} {l : List Ch} {rs : List Ro} (h : St B W l rs w) (i : Nat) {b : Nat} {cs : Array Value} {t : TypeId} (hi : l[i]? = some (.cells b cs t)) : w.heap[b]? = some (.cells cs t (0, 0)) := (h.all i _ hi).2
theorem storeArm {P : Program} {ops : Array Oper} {Q : Exit → Act → World → Prop} {rest : List Oper} {a : Act} {w : World} {d : Option Nat} {T ty t : TypeId} {x y : Operand} {pos : String} {af : _} {gd : _} {b : Nat} {cs cs' : Array Value}
  (hg : w.heap[b]? = some (.cells cs t (0, 0))) (hsz : (P.info? T).map (·.size) = some cs'.size) (ho : cs.size = cs'.size) (h1 : cs'.all (·.oneCell') = true)
  (hx : a.eval x = .pointer (some ⟨b, 0, none⟩)) (hy : a.eval y = .agg cs')
  (hw : Region.wanted { dst := d, op := .store T x y, type := ty, pos := pos, after := af, guard := gd } (yielded ops a.tmps) = true) (h : wpList P ops Q rest (a.put d undef) (w.setRow b cs')) :
  wpList P ops Q ({ dst := d, op := .store T x y, type := ty, pos := pos, after := af, guard := gd } :: rest) a w :=
 wpList_step fun K hK => by
  rw [if_pos hw]; exact wp_store_row T x y rfl b cs' hx hy t cs hg hsz ho h1 (hK _ _ h)
end

section
open Go.RowKit

def Ro.val (r : Ro) : Value := .slice r.a r.n r.c
section
variable {B : Nat} {W w w' : World} {l : List Ch} {rs : List Ro}
theorem St.arr (h : St B W l rs w) (i : Nat) {e : TypeId} {v : Value} {n : Nat} {vs : List Value} (hi : l[i]? = some (.arr e 1 v n vs)) : w.ownsRow B e 1 v n vs := h.all i _ hi
end
end

section
open Go.RowKit
set_option linter.unusedVariables false

section
variable {B : Nat} {W w w' : World} {l : List Ch} {rs : List Ro}
end
end

section
open Go.RowKit

theorem p1 : type_of% @List.getElem_toArray := @List.getElem_toArray
theorem p2 : type_of% @List.getElem_cons_zero := @List.getElem_cons_zero
theorem p3 : type_of% @List.getElem_cons_succ := @List.getElem_cons_succ
theorem p4 : type_of% @List.setIfInBounds_toArray := @List.setIfInBounds_toArray
theorem p5 : type_of% @List.set_cons_zero := @List.set_cons_zero
theorem p6 : type_of% @List.set_cons_succ := @List.set_cons_succ
section
variable {P : Program} {ops : Array Oper} {Q : Exit → Act → World → Prop} {md : Region.Mode} {S : World → Prop}
theorem tkA (i : Nat) {oi : Oper} {v : Value} {fuel : Nat} {listed : Array Bool} {a : Act} {w : World} (h : wpAnyH P md ops Q S fuel (listed.setIfInBounds i true) (a.put oi.dst v) w) (hi : ops[i]? = some oi := by exact rfl)
  (hs : Region.noSelect ops = true := by kernel_rfl) (hf : Region.free md ops listed i = true := by kernel_rfl) (hr : (Region.ready md ops listed).contains i = true := by kernel_rfl)
  (hw : Region.wanted oi (yielded ops a.tmps) = true := by rfl)
  (hy : ∀ w, S w → (execOp a.eval oi).run P w = .ok (.value v) w := by (intro wS hSw; (try dsimp only at hSw); go_simp; (try with_reducible rfl))) (hQ : ∀ c a w, Q (.panic c) (a.put oi.dst v) w → Q (.panic c) a w := by exact fun _ _ _ h => h) (hS : S w := by assumption) :
  wpAnyH P md ops Q S (fuel + 1) listed a w :=
 wpAnyH_take hi hs hf hr hQ (Or.inl ⟨hw, hy⟩) hS h
theorem tkU (i : Nat) {oi : Oper} {v : Value} {fuel : Nat} {listed : Array Bool} {a : Act} {w : World} (h : wpAnyH P md ops Q S fuel (listed.setIfInBounds i true) (a.put oi.dst v) w) (hi : ops[i]? = some oi := by exact rfl)
  (hs : Region.noSelect ops = true := by kernel_rfl) (hf : Region.free md ops listed i = true := by kernel_rfl) (hr : (Region.ready md ops listed).contains i = true := by kernel_rfl)
  (hw : Region.wanted oi (yielded ops a.tmps) = false := by rfl) (hv : v = undef := by rfl) (hQ : ∀ c a w, Q (.panic c) (a.put oi.dst v) w → Q (.panic c) a w := by exact fun _ _ _ h => h) (hS : S w := by assumption) :
  wpAnyH P md ops Q S (fuel + 1) listed a w :=
 wpAnyH_take hi hs hf hr hQ (Or.inr ⟨hw, hv⟩) hS h
end
end

section
open Go.RowKit
section
variable {P : Program} {ops : Array Oper} {Q : Exit → Act → World → Prop} {rest : List Oper} {o : Oper} {a : Act} {w w' : World}
@[irreducible] def wL (P : Program) (ops : Array Oper) (Q : Exit → Act → World → Prop) (rest : List Oper) (a : Act) (w : World) : Prop := wpList P ops Q rest a w
theorem wL_of (h : wpList P ops Q rest a w) : wL P ops Q rest a w := by unfold wL; exact h
theorem wL_to (h : wL P ops Q rest a w) : wpList P ops Q rest a w := by unfold wL at h; exact h
theorem wL_nil (h : Q .normal a w) : wL P ops Q [] a w := wL_of (wpList_nil h)
theorem lsB {v : Value} (h : wL P ops Q rest (a.put o.dst v) w') (hw : Region.wanted o (yielded ops a.tmps) = true := by rfl)
  (hy : (execOp a.eval o).run P w = .ok (.value v) w' := by (go_simp; (try exact ⟨rfl, rfl⟩))) : wL P ops Q (o :: rest) a w :=
 wL_of <| wpList_step fun K hK => by rw [if_pos hw]; unfold Oper.wp; rw [hy]; exact hK _ _ (wL_to h)
theorem lsA {v : Value} (h : wL P ops Q rest (a.put o.dst v) w) (hw : Region.wanted o (yielded ops a.tmps) = true := by rfl)
  (hy : (execOp a.eval o).run P w = .ok (.value v) w := by (go_simp; (try with_reducible rfl))) : wL P ops Q (o :: rest) a w := lsB h hw hy
theorem lsU (h : wL P ops Q rest (a.put o.dst undef) w) (hw : Region.wanted o (yielded ops a.tmps) = false := by rfl) : wL P ops Q (o :: rest) a w := wL_of (wpList_skip hw (wL_to h))
theorem la {v : Value} {a' : Act} (h : wL P ops Q rest a' w) (hw : Region.wanted o (yielded ops a.tmps) = true := by rfl)
  (hy : (execOp a.eval o).run P w = .ok (.value v) w := by (go_simp; (try with_reducible rfl))) (ha : a.put o.dst v = a' := by ((try simp only [pz]); try rfl)) : wL P ops Q (o :: rest) a w := by
 subst ha; exact lsB h hw hy
theorem lu {a' : Act} (h : wL P ops Q rest a' w) (hw : Region.wanted o (yielded ops a.tmps) = false := by rfl) (ha : a.put o.dst undef = a' := by ((try simp only [pz]); try rfl)) : wL P ops Q (o :: rest) a w := by
 subst ha; exact lsU h hw
theorem lsC {f : Nat} {args : Array Value} (h : Calls P f args w fun e w' => ∃ u, e = .returned u ∧ wL P ops Q rest (a.put o.dst u) w') (hw : Region.wanted o (yielded ops a.tmps) = true := by rfl)
  (hy : (execOp a.eval o).run P w = .ok (.enter f args) w := by (go_simp; (try with_reducible rfl); (try exact ⟨rfl, rfl⟩))) : wL P ops Q (o :: rest) a w :=
 wL_of <| wpList_step fun K hK => by
  rw [if_pos hw]; unfold Oper.wp; rw [hy]
  show Calls P f args w _
  refine Calls.mono h fun e w'' he => ?_
  obtain ⟨u, rfl, hu⟩ := he; exact hK _ _ (wL_to hu)
end
end

section
open Go.RowKit
set_option linter.unusedVariables false

structure TkR (B0 k B : Nat) (W : World) (l : List Ch) (rs : List Ro) (w : World) : Prop where
 st : ∃ w0, St B w0 l rs w ∧ W.grownBy w0 (some k)
 tape : TapeB B0 w k
 kB : k < B
 WB : W.heap.size = B
 new : ∀ r ∈ rs, NewR B r
section
variable {B0 k B : Nat} {W w w' : World} {l l' : List Ch} {rs rs' : List Ro}
theorem TkR.map (h : TkR B0 k B W l rs w) (f : ∀ w0, St B w0 l rs w → St B w0 l' rs' w') (ht : TapeB B0 w' k) (hn : ∀ r ∈ rs', NewR B r) : TkR B0 k B W l' rs' w' := by
 obtain ⟨w0, hs, hg⟩ := h.st; exact ⟨⟨w0, f w0 hs, hg⟩, ht, h.kB, h.WB, hn⟩
theorem TkR.init (ht : TapeB B0 W k) (hB : W.heap.size = B) : TkR B0 k B W [] [] W := ⟨⟨W, St.init hB, ⟨rfl, rfl, rfl, Nat.le_refl _, fun _ _ _ => rfl⟩⟩, ht, by have := ht.lt; omega, hB, fun r hr => by simp at hr⟩
theorem TkR.o {α : Prop} (h : TkR B0 k B W l rs w) (f : ∀ w0, St B w0 l rs w → α) : α := by
 obtain ⟨w0, hs, _⟩ := h.st; exact f w0 hs
theorem TkR.size (h : TkR B0 k B W l rs w) : B ≤ w.heap.size := h.o fun _ hs => hs.size
theorem TkR.call (h : TkR B0 k B W l rs w) (hb : Below w.heap.size w w') : TkR B0 k B W l rs w' := h.map (fun _ hs => hs.call hb) (h.tape.below hb) h.new
theorem TkR.grown (h : TkR B0 k B W l rs w) : W.grownBy w (some k) := by
 obtain ⟨w0, hs, hg⟩ := h.st; have hb := hs.below; have h0 := hs.hB; have h1 := h.WB; refine ⟨by rw [← hg.os]; exact hb.os, by rw [← hg.tape]; exact hb.tape, by rw [← hg.output]; exact hb.output, Nat.le_trans hg.size hb.size, fun b hb' hk => ?_⟩; rw [hb.block b (by omega)]; exact hg.block b hb' hk
theorem TkR.setTape (h : TkR B0 k B W l rs w) {b : Nat} (hb : B ≤ b) (o : Nat) (u : Value) : TapeB B0 (w.setCell ⟨b, o, none⟩ u) k := by
 have h1 := h.tape.1; have h2 := h.kB; exact h.tape.keep (Below.heap_setCell _ _ _ _ (by simp; omega)) (fun j hj => Below.heap_setCell _ _ _ _ (by simp; omega))
theorem TkR.storeTap (h : TkR B0 k B W l rs w) (i : Nat) {e : TypeId} {sz g n c : Nat} {vs : List Value} (hi : l[i]? = some (.arr e sz (.slice (some ⟨g, 0, none⟩) n c) n vs)) (j : Nat) (u : Value) :
  TkR B0 k B W (l.set i (.arr e sz (.slice (some ⟨g, 0, none⟩) n c) n (vs.set j u))) rs (w.setCell ⟨g, j, none⟩ u) :=
 h.map (fun _ hs => hs.storeTap i hi j u) (h.setTape (h.o fun _ hs => (hs.lt i hi rfl).1) _ _) h.new
theorem TkR.pick (h : TkR B0 k B W l rs w) (ix : List Nat) (hl : ix.map (fun i => l[i]?) = l'.map some) (hnd : ix.Nodup := by decide) : TkR B0 k B W l' rs w := h.map (fun _ hs => hs.pick ix hl hnd) h.tape h.new
theorem TkR.lay (h : TkR B0 k B W l rs w) (i : Nat) {a : Option Addr} {n c : Nat} {zs : List Int} (hi : l[i]? = some (.own (.slice a n c) zs)) : NewR B ⟨a, n, c, zs⟩ := h.o fun _ hs => hs.lay i hi
theorem TkR.freeze (h : TkR B0 k B W l rs w) (i : Nat) {a : Option Addr} {n c : Nat} {zs : List Int} (hi : l[i]? = some (.own (.slice a n c) zs)) : TkR B0 k B W (l.eraseIdx i) (⟨a, n, c, zs⟩ :: rs) w := h.map (fun _ hs => hs.freeze i hi) h.tape fun r hr => by
  rcases List.mem_cons.1 hr with rfl | hr
  ·
   exact h.lay i hi
  exact h.new r hr
theorem TkR.arrOfT (h : TkR B0 k B W l rs w) (i : Nat) {e : TypeId} {sz : Nat} {v : Value} {n : Nat} {vs : List Value} (hi : l[i]? = some (.arr e sz v n vs)) : w.ownsRow B e sz v n vs := h.o fun _ hs => hs.all i _ hi
theorem TkR.outT (h : TkR B0 k B W l rs w) (i : Nat) {v : Value} {n : Nat} {tp : List (Int × Ro)} (hi : l[i]? = some (.arr 59 2 v n (tapV tp))) (hq : TQ B rs tp) : OwnT B w v (tapD tp) := h.o fun _ hs => hs.outT i hi hq
theorem TkR.tapCell (h : TkR B0 k B W l rs w) (i : Nat) {e : TypeId} {g n c : Nat} {tp : List (Int × Ro)} (hi : l[i]? = some (.arr e 2 (.slice (some ⟨g, 0, none⟩) n c) n (tapV tp))) {j : Nat} (hj : j < tp.length) :
  ∃ u u', w.cell? ⟨g, j * 2, none⟩ = some u ∧ w.frozen? ⟨g, j * 2, none⟩ = false ∧ w.cell? ⟨g, j * 2 + 1, none⟩ = some u' ∧ w.frozen? ⟨g, j * 2 + 1, none⟩ = false := h.o fun _ hs => hs.tapCell i hi hj
theorem TkR.addT' (h : TkR B0 k B W l rs w) (hb : Below w.heap.size w w') {v : Value} {ts : List (Int × List Int)} (ho : OwnT w.heap.size w' v ts) :
  ∃ tp R a c, v = .slice a ts.length c ∧ tapD tp = ts ∧ TQ B R tp ∧ (∀ tp', TQ B rs tp' → TQ B R tp') ∧ TkR B0 k B W (.arr 59 2 (.slice a ts.length c) ts.length (tapV tp) :: l) R w' := by
 obtain ⟨a, c, rfl, _⟩ := ho.read; obtain ⟨w0, hs, hg⟩ := h.st; obtain ⟨tp, h1, h2, h3⟩ := hs.addT hb ho; have e : tp.length = ts.length := by rw [← h1, tapD_len]
 rw [e] at h3; refine ⟨tp, _, a, c, rfl, h1, h2, fun tp' h => h.more _, ⟨⟨w0, h3, hg⟩, h.tape.below hb, h.kB, h.WB, fun r hr => ?_⟩⟩
 rcases List.mem_append.1 hr with hr | hr
 ·
  obtain ⟨p, hp, rfl⟩ := List.mem_map.1 hr; exact (h2 p hp).2
 exact h.new r hr
theorem TkR.next (h : TkR B0 k B W l rs w) (ht : TapeB B0 w' k) (hg : w.grownBy w' (some k)) (hn : l.all Ch.notTape = true := by rfl) : TkR B0 k B W l rs w' := by
 obtain ⟨w0, hs, hW⟩ := h.st; have hkB := h.kB; obtain ⟨o, ho⟩ : ∃ o, w'.heap[k]? = some o := ⟨_, Array.getElem?_eq_getElem ht.lt⟩; have h0 : w0.heap.size = B := hs.hB
 let w1 : World := { w0 with heap := w0.heap.setIfInBounds k o }
 have e1 : ∀ j, j ≠ k → w1.heap[j]? = w0.heap[j]? := fun j hj => by
  show (w0.heap.setIfInBounds k o)[j]? = _
  rw [Array.getElem?_setIfInBounds, if_neg (by omega)]
 have e2 : w1.heap[k]? = some o := by
  show (w0.heap.setIfInBounds k o)[k]? = _
  rw [Array.getElem?_setIfInBounds, if_pos rfl, if_pos (by omega)]
 have s1 : w1.heap.size = B := by show (w0.heap.setIfInBounds k o).size = B; rw [Array.size_setIfInBounds]; exact h0
 have hoth : ∀ (i : Nat) (c : Ch) (b : Nat), l[i]? = some c → c.block = some b → w'.heap[b]? = w.heap[b]? := fun i c b hi hb => by
  have := hs.lt i hi hb; exact hg.block b this.2 (by simp; omega)
 refine ⟨⟨w1, ⟨s1, ⟨⟨hg.os.trans hs.since.below.os, hg.tape.trans hs.since.below.tape, hg.output.trans hs.since.below.output, ?_, fun j hj => ?_⟩, Nat.le_trans hs.size hg.size⟩, fun i c hi => ?_, hs.sep, fun i r hr => ⟨(hs.ro i r hr).1.grown hg ((h.new r (List.mem_of_getElem? hr)).far hkB), (hs.ro i r hr).2⟩⟩, ⟨hW.os, hW.tape, hW.output, by rw [s1, ← h0]; exact hW.size, fun j hj hr => ?_⟩⟩, ht, hkB, h.WB, h.new⟩
 ·
  rw [s1]; exact Nat.le_trans hs.size hg.size
 ·
  by_cases hjk : j = k
  ·
   subst hjk; rw [e2, ho]
  rw [e1 j hjk, ← hs.since.below.block j hj]; exact hg.block j (by have := hs.size; omega) (by simpa using hjk)
 ·
  have hc := hs.all i c hi; cases c with
  | cells b cs t => exact ⟨hc.1, by rw [hoth i _ b hi rfl]; exact hc.2⟩
  | own v zs => exact ownsRow_keep (show w.ownsRow B _ _ _ _ _ from hc) (fun b hb => hoth i _ b hi hb)
  | arr e sz v n vs => exact ownsRow_keep (show w.ownsRow B _ _ _ _ _ from hc) (fun b hb => hoth i _ b hi hb)
  | tape k' =>
   have := List.all_eq_true.1 hn _ (List.mem_of_getElem? hi); simp [Ch.notTape] at this
  | blk b o => exact ⟨hc.1, by rw [hoth i _ b hi rfl]; exact hc.2⟩
 rw [e1 j (by simpa using hr)]; exact hW.block j hj hr
theorem TkR.add (h : TkR B0 k B W l rs w) (ht : TapeB B0 w' k) (hg : w.grownBy w' (some k)) {v : Value} {zs : List Int} (ho : Own w.heap.size w' v zs) (hn : l.all Ch.notTape = true := by rfl) : TkR B0 k B W (.own v zs :: l) rs w' := by
 obtain ⟨w1, hs', hW⟩ := (h.next ht hg hn).st; obtain ⟨w0, hs, _⟩ := h.st; have hsz := hs.size; have hb := fun b (hv : v.ownBlock = some b) => (World.ownsRow.lt (show w'.ownsRow _ _ _ _ _ _ from ho) b hv).1
 refine ⟨⟨w1, ?_, hW⟩, ht, h.kB, h.WB, h.new⟩; refine ⟨hs'.hB, hs'.since, fun i c hi => ?_, fun i j c d b hi hj hne hbc hbd => ?_, fun i r hr => ⟨(hs'.ro i r hr).1, fun j c b hj hbk => ?_⟩⟩
 ·
  cases i with
  | zero => simp at hi; subst hi; exact ho.base hsz
  | succ i => exact hs'.all i c (by simpa using hi)
 ·
  cases i with
  | zero =>
   simp at hi; subst hi
   cases j with
   | zero => exact hne rfl
   | succ j =>
    have h1 := hb b hbc; have h2 := (hs.lt j (by simpa using hj) hbd).2
    omega
  | succ i =>
   cases j with
   | zero =>
    simp at hj; subst hj
    have h1 := hb b hbd; have h2 := (hs.lt i (by simpa using hi) hbc).2
    omega
   | succ j => exact hs'.sep i j c d b (by simpa using hi) (by simpa using hj) (by omega) hbc hbd
 cases j with
 | zero => simp at hj; subst hj; exact (hs.ro i r hr).1.far (hb b hbk)
 | succ j => exact (hs'.ro i r hr).2 j c b (by simpa using hj) hbk
theorem gen_vcode {P : Program} {c : Code} {Q : Exit → Act → World → Prop} {a : Act} (h : TkR B0 k B W l rs w) (q : ∀ w', TkR B0 k B W l rs w' → c.wp P Q a w') : c.wp P Q a w := q w h
theorem gen_vlist {P : Program} {ops : Array Oper} {Q : Exit → Act → World → Prop} {o : List Oper} {a : Act} (h : TkR B0 k B W l rs w) (q : ∀ w', TkR B0 k B W l rs w' → wpList P ops Q o a w') : wpList P ops Q o a w := q w h
theorem gen_vcalls {P : Program} {f : Nat} {args : Array Value} {post : Ending → World → Prop} (h : TkR B0 k B W l rs w) (q : ∀ w', TkR B0 k B W l rs w' → Calls P f args w' post) : Calls P f args w post := q w h
end
end

section
open Go.RowKit
set_option linter.unusedVariables false
section
variable {B : Nat} {W w w' : World} {l : List Ch} {rs : List Ro}
theorem St.loadStg (h : St B W l rs w) (i : Nat) {b : Nat} {A : Array Value} (hi : l[i]? = some (.cells b A 34)) (hA : A.size = 18) : (Instr.loadAt 34 (.pointer (some ⟨b, 0, none⟩))).run Tryz.prog w = .ok (.agg A) w := by
 simp only [Instr.loadAt, Instr.sureAddr, Sem.run_bind, Sem.run_pure, Result.andThen]
 exact run_loadVar_row _ _ 34 34 _ (0, 0) _ (h.all i _ hi).2 Tryz.underlying34 rfl (by
  have : (Tryz.prog.info? 34).map (·.size) = some 18 := by kernel_rfl
  rw [this, hA])
end
theorem loadExec {P : Program} {ρ : Operand → Value} {w : World} {d : Option Nat} {T ty : TypeId} {x : Operand} {pos : String} {af : _} {gd : _} {b : Nat} {A : Array Value}
  (hf : (Instr.loadAt T (.pointer (some ⟨b, 0, none⟩))).run P w = .ok (.agg A) w) (hx : ρ x = .pointer (some ⟨b, 0, none⟩)) :
  (execOp ρ { dst := d, op := .load T x, type := ty, pos := pos, after := af, guard := gd }).run P w = .ok (.value (.agg A)) w := by
 unfold execOp; simp only [hx]; rw [Sem.run_bind, hf]; rfl
theorem loadArm {P : Program} {ops : Array Oper} {Q : Exit → Act → World → Prop} {rest : List Oper} {a : Act} {w : World} {d : Option Nat} {T ty : TypeId} {x : Operand} {pos : String} {af : _} {gd : _} {b : Nat} {A : Array Value}
  (hf : (Instr.loadAt T (.pointer (some ⟨b, 0, none⟩))).run P w = .ok (.agg A) w) (hx : a.eval x = .pointer (some ⟨b, 0, none⟩))
  (hw : Region.wanted { dst := d, op := .load T x, type := ty, pos := pos, after := af, guard := gd } (yielded ops a.tmps) = true) (h : wpList P ops Q rest (a.put d (.agg A)) w) :
  wpList P ops Q ({ dst := d, op := .load T x, type := ty, pos := pos, after := af, guard := gd } :: rest) a w :=
 wpList_step fun K hK => by
  rw [if_pos hw]; unfold Oper.wp execOp; simp only [hx]; rw [Sem.run_bind, hf]; exact hK _ _ h
end
end Go.Proofs.YteejjnhlfgjlaaaGreat
