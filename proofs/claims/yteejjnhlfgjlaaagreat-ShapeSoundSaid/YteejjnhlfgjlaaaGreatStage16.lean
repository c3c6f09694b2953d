/-
 Contract: the law's stage: a stage of the tape's, spoiled in some cases, in the caller's memory.
-/
import Derived.Test.YteejjnhlfgjlaaaGreatSpSt
import Derived.Test.YteejjnhlfgjlaaaGreatKE
namespace Go.Proofs.YteejjnhlfgjlaaaGreat
open Go.RowKit
attribute [local go_sem ↓] Go.wp_at_zero Go.wp_at_succ
set_option linter.unusedVariables false
set_option linter.unusedSimpArgs false

theorem spoilstage_A {B : Nat} {W w0 : World} {l : List Ch} {rs : List Ro} {A : Array Value} {s : Sg} (hA : A = s.val) (k : Nat) (hlen : s.len 40) (hqx : TQ B rs s.xp) (hqy : TQ B rs s.yp) (hst0 : St B W (s.parts ++ .tape k :: l) rs w0) :
  Calls Tryz.prog 10 #[.pointer (some ⟨k, 0, none⟩), .agg A] w0 (SgPost B W k 60 l) := by
 subst hA; exact spoilstage_any k s hlen hqx hqy hst0
end Go.Proofs.YteejjnhlfgjlaaaGreat
