/-
 Plain law: tiles of programs for pixels: the error, the pixels.
-/
import Derived.Test.YteejjnhlfgjlaaaKI
import Derived.Test.YteejjnhlfgjlaaaKN
namespace Go.Proofs.Yteejjnhlfgjlaaa
def pwS (two : Bool) (qmx : Int) : Int := if two = true then qmx else 1
end Go.Proofs.Yteejjnhlfgjlaaa
