/- Runs. -/
import Derived.Test.YthghnnhpimgbmaaGreatDoorKBase
namespace Go.Proofs.YthghnnhpimgbmaaGreatDoor
open Sx
set_option maxRecDepth 100000
theorem runCov : entRun Tryz.prog O1 6000 entCov = true := by kernel_rfl
theorem runSh0 : entRun Tryz.prog O1 6000 entSh0 = true := by kernel_rfl
theorem runSh1 : entRun Tryz.prog O1 6000 entSh1 = true := by kernel_rfl
theorem runSh2 : entRun Tryz.prog O1 6000 entSh2 = true := by kernel_rfl
theorem runSh3 : entRun Tryz.prog O1 6000 entSh3 = true := by kernel_rfl
end Go.Proofs.YthghnnhpimgbmaaGreatDoor
