/- Runs. -/
import Derived.Test.YtkapnepkkeaiaaaGreatDoorDBase
namespace Go.Proofs.YtkapnepkkeaiaaaGreatDoor
open Sx
set_option maxRecDepth 100000
theorem run_ent48 : entRun Tryz.prog O3 8000 ent48 = true := by kernel_rfl
end Go.Proofs.YtkapnepkkeaiaaaGreatDoor
