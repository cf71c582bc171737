/- Runs. -/
import Derived.Test.YthghnnhpimgbmaaGreatDoorKBase
namespace Go.Proofs.YthghnnhpimgbmaaGreatDoor
open Sx
set_option maxRecDepth 100000
theorem runChoose : entRun Tryz.prog O2 6000 entChoose = true := by kernel_rfl
theorem runSim : entRun Tryz.prog O2 6000 entSim = true := by kernel_rfl
end Go.Proofs.YthghnnhpimgbmaaGreatDoor
