/- Runs. -/
import Derived.Test.YtkapnepkkeaiaaaGreatDoorDBase
namespace Go.Proofs.YtkapnepkkeaiaaaGreatDoor
open Sx
set_option maxRecDepth 100000
theorem runMain : isTrue (exec Tryz.prog O6 8000 (.call 4 [] H0)) = true := by kernel_rfl
end Go.Proofs.YtkapnepkkeaiaaaGreatDoor
