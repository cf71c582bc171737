/- A run. -/
import Derived.Test.YthghnnhpimgbmaaGreatDoorKBase
namespace Go.Proofs.YthghnnhpimgbmaaGreatDoor
open Sx
set_option maxRecDepth 100000
theorem runAsm : entRun Tryz.prog O2 6000 entAsm = true := by kernel_rfl
end Go.Proofs.YthghnnhpimgbmaaGreatDoor
