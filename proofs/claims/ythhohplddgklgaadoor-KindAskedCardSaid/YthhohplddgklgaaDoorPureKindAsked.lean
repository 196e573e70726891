/- How often a table was asked is counted, call by call; and it tells, all along, what is told without one. For every input. -/
import Derived.Test.YthhohplddgklgaaDoorAsk
namespace Go.Proofs.YthhohplddgklgaaDoor.Pure
open Go.Proofs.YthhohplddgklgaaDoor.Q
theorem KindAsked : shuttlecocklaw03_KindAsked.Pure := trivial
end Go.Proofs.YthhohplddgklgaaDoor.Pure
