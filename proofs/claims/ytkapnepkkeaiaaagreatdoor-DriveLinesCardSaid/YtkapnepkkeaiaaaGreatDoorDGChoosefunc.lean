/- Runs. -/
import Derived.Test.YtkapnepkkeaiaaaGreatDoorDBase
namespace Go.Proofs.YtkapnepkkeaiaaaGreatDoor
open Sx
set_option maxRecDepth 100000
theorem run_ent91 : entRun Tryz.prog O4 8000 ent91 = true := by kernel_rfl
end Go.Proofs.YtkapnepkkeaiaaaGreatDoor
