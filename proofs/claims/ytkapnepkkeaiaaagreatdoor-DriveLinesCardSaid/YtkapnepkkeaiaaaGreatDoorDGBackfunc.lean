/- Runs. -/
import Derived.Test.YtkapnepkkeaiaaaGreatDoorDBase
namespace Go.Proofs.YtkapnepkkeaiaaaGreatDoor
open Sx
set_option maxRecDepth 100000
theorem run_ent118 : entRun Tryz.prog O5 8000 ent118 = true := by kernel_rfl
end Go.Proofs.YtkapnepkkeaiaaaGreatDoor
