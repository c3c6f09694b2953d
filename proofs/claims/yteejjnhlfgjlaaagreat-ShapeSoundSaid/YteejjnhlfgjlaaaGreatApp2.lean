/-
 append of a whole slice that a call owns, nil or not.
-/
import Derived.Test.YteejjnhlfgjlaaaGreatKH
namespace Go.Proofs.YteejjnhlfgjlaaaGreat
open Go.RowKit
set_option linter.unusedVariables false
section
variable {P : Program}
theorem append_any {ops : Array Oper} {rest : List Oper} {o : Oper} {a : Act} {Q : Exit → Act → World → Prop} {w : World} (hgd : o.guard = none) (s x : Operand) (t e : TypeId) (size bytes : Nat) (z : Value)
  (hu : P.underlying t = some (.slice e)) (hinf : (P.info? e).map (fun i => (i.zero, i.size, i.bytes)) = some (some z, size, bytes)) (hzs : z.cells.size = size) (hsz : 0 < size) (hby : bytes ≤ 64)
  (ho : o.op = .call { callee := .builtin .append, args := #[s, x], argTypes := #[t, t] })
  (base : Nat) (v : Value) (n : Nat) (vs : List Value) (B2 : Nat) (e2 : TypeId) (ao : Option Addr) (m c : Nat) (news : List Value) (hs : a.eval s = v) (hx : a.eval x = .slice ao m c) (hown : w.ownsRow base e size v n vs)
  (hsrc : w.ownsRow B2 e2 size (.slice ao m c) m news) (h1 : ∀ u ∈ news, u.oneCell' = true) (hlen : n + m ≤ 1000000000) (hbase : base ≤ w.heap.size)
  (h : ∀ v' w', w'.ownsRow base e size v' (n + m) (vs ++ news) → w.grownBy w' v.ownBlock → (v'.ownBlock = v.ownBlock ∨ v'.ownBlock = some w.heap.size) → wpList P ops Q rest (a.put o.dst v') w') :
  wpList P ops Q (o :: rest) a w := by
 rcases ownsRow_form hsrc with ⟨e0, hm⟩ | ⟨g, c', e0, _, _, _, hcell⟩
 ·
  cases e0
  have hnews : news = [] := List.eq_nil_of_length_eq_zero (by have := hsrc.1; simpa using this); subst hnews; obtain ⟨i0, hi, hz0, hz1, hz2⟩ := info_parts hinf; refine wpList_plain hgd fun K hK' => ?_
  have hrun := run_append_owned_none (P := P) w base t o.type e i0 size hu hi v n vs hown
  unfold Oper.wp
  simp [execOp, ho, resolve, invoke, builtin, hs, hx, hrun, Result.andThen]
  exact hK' _ _ (h v w (by simpa using hown) (World.grownBy.refl _ _) (.inl rfl))
 cases e0
 exact append_vals hgd s x t e size bytes z hu hinf hzs hsz hby ho base v n vs g m c news hs hx hsrc.1 hown hcell h1 hlen hbase h
end
theorem tapV_one (tp : List (Int × Ro)) : ∀ u ∈ tapV tp, u.oneCell' = true := by
 intro u hu; unfold tapV at hu; obtain ⟨p, _, hp⟩ := List.mem_flatMap.1 hu; simp at hp; rcases hp with rfl | rfl <;> rfl
theorem intV_one (l : List Int) : ∀ u ∈ l.map (Value.int .i64), u.oneCell' = true := by
 intro u hu; obtain ⟨p, _, rfl⟩ := List.mem_map.1 hu; rfl
theorem arr_slc {B : Nat} {w : World} {e : TypeId} {sz n : Nat} {v : Value} {vs : List Value} (h : w.ownsRow B e sz v n vs) : ∃ a c, v = .slice a n c := by
 rcases ownsRow_form h with ⟨e0, h0⟩ | ⟨g, c, e0, _⟩
 ·
  exact ⟨none, 0, by rw [e0, h0]⟩
 exact ⟨_, c, e0⟩
theorem St.arrToOwn {B : Nat} {W w : World} {l : List Ch} {rs : List Ro} (h : St B W l rs w) (i : Nat) {v : Value} {n : Nat} {zs : List Int} (hi : l[i]? = some (.arr 3 1 v n (zs.map (Value.int .i64)))) (hn : n = zs.length) : St B W (l.set i (.own v zs)) rs w := by
 subst hn; exact h.upd i hi h.since (c' := .own v zs) (show Own B w v zs from h.all i _ hi) (fun _ e => .inl e) (fun _ _ _ => rfl)
end Go.Proofs.YteejjnhlfgjlaaaGreat
