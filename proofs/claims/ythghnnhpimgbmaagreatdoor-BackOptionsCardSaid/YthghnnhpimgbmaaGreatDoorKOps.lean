/- A run. -/
import Derived.Test.YthghnnhpimgbmaaGreatDoorKBase
namespace Go.Proofs.YthghnnhpimgbmaaGreatDoor
open Sx
set_option maxRecDepth 100000
theorem runOps : entRun Tryz.prog O0 6000 entOps = true := by kernel_rfl
end Go.Proofs.YthghnnhpimgbmaaGreatDoor
