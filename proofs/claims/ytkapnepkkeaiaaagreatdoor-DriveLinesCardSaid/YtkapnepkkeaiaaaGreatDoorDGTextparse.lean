/- Runs. -/
import Derived.Test.YtkapnepkkeaiaaaGreatDoorDBase
namespace Go.Proofs.YtkapnepkkeaiaaaGreatDoor
open Sx
set_option maxRecDepth 100000
theorem run_ent3 : entRun Tryz.prog O1 8000 ent3 = true := by kernel_rfl
end Go.Proofs.YtkapnepkkeaiaaaGreatDoor
