/- Regions that make memory while they read. -/
import Derived.Test.YtpdoplkiaejpiaaQuietK
import Derived.Deep.RegionHeld3
namespace Go.Proofs.Ytpdoplkiaejpiaa.HeldK
theorem held_ : True := trivial
end Go.Proofs.Ytpdoplkiaejpiaa.HeldK
