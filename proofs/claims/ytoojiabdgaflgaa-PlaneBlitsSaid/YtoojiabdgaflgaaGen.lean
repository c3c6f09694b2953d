/-
  A world behind a name: at each kind of goal of a walk.
-/
import Derived.Test.YtoojiabdgaflgaaTk2
import Derived.Test.YtoojiabdgaflgaaMake2
import Derived.Test.YtoojiabdgaflgaaAppend
import Derived.Deep.DeepCutAuto
import Derived.Deep.CutBlock
import Derived.Deep.DrawnRows
import Derived.Deep.RegionHeld3
namespace Go.Proofs.Ytoojiabdgaflgaa
open Go.RowKit
section
variable {B : Nat} {W w : World} {l : List Ch} {rs : List Ro}
theorem gen_code {P : Program} {c : Code} {Q : Exit → Act → World → Prop} {a : Act} (h : St B W l rs w) (k : ∀ w', St B W l rs w' → c.wp P Q a w') : c.wp P Q a w := k w h
theorem gen_list {P : Program} {ops : Array Oper} {Q : Exit → Act → World → Prop} {o : List Oper} {a : Act} (h : St B W l rs w) (k : ∀ w', St B W l rs w' → wpList P ops Q o a w') : wpList P ops Q o a w := k w h
theorem gen_calls {P : Program} {f : Nat} {args : Array Value} {post : Ending → World → Prop} (h : St B W l rs w) (k : ∀ w', St B W l rs w' → Calls P f args w' post) : Calls P f args w post := k w h
end
end Go.Proofs.Ytoojiabdgaflgaa
