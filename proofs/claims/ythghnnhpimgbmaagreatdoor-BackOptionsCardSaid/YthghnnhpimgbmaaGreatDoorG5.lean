/- Closed facts. -/
import Derived.Test.YthghnnhpimgbmaaGreatDoorCards
import Derived.JoinedOf
namespace Go.Proofs.YthghnnhpimgbmaaGreatDoor
open Go
set_option maxRecDepth 100000
theorem f_heard : Tryz.prog.stopsHeard = true := by kernel_rfl
theorem f_mapsRowed : mapsRowed Tryz.prog = true := by kernel_rfl
end Go.Proofs.YthghnnhpimgbmaaGreatDoor
