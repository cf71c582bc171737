/- Runs. -/
import Derived.Test.YthghnnhpimgbmaaGreatDoorKBase
namespace Go.Proofs.YthghnnhpimgbmaaGreatDoor
open Sx
set_option maxRecDepth 100000
theorem runAll : entRun Tryz.prog O0 6000 entAll = true := by kernel_rfl
theorem runRight : entRun Tryz.prog O0 6000 entRight = true := by kernel_rfl
theorem runPat0 : entRun Tryz.prog O0 6000 entPat0 = true := by kernel_rfl
theorem runPat2 : entRun Tryz.prog O0 6000 entPat2 = true := by kernel_rfl
theorem runSplit : entRun Tryz.prog O0 6000 entSplit = true := by kernel_rfl
end Go.Proofs.YthghnnhpimgbmaaGreatDoor
