/- The run of awake. -/
import Derived.Test.YthghnnhpimgbmaaGreatDoorKBase
namespace Go.Proofs.YthghnnhpimgbmaaGreatDoor
open Sx
set_option maxRecDepth 100000
theorem runMain : isTrue (exec Tryz.prog O3 6000 (.call 4 [] H0)) = true := by kernel_rfl
end Go.Proofs.YthghnnhpimgbmaaGreatDoor
