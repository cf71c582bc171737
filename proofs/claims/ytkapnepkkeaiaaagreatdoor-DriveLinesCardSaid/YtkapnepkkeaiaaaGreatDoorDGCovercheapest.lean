/- Runs. -/
import Derived.Test.YtkapnepkkeaiaaaGreatDoorDBase
namespace Go.Proofs.YtkapnepkkeaiaaaGreatDoor
open Sx
set_option maxRecDepth 100000
theorem run_ent239 : entRun Tryz.prog O4 8000 ent239 = true := by kernel_rfl
end Go.Proofs.YtkapnepkkeaiaaaGreatDoor
