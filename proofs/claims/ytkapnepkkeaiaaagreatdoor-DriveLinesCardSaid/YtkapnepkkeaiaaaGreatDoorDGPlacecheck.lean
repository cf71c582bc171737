/- Runs. -/
import Derived.Test.YtkapnepkkeaiaaaGreatDoorDBase
namespace Go.Proofs.YtkapnepkkeaiaaaGreatDoor
open Sx
set_option maxRecDepth 100000
theorem run_ent240 : entRun Tryz.prog O2 8000 ent240 = true := by kernel_rfl
end Go.Proofs.YtkapnepkkeaiaaaGreatDoor
