/- Closed facts. -/
import Derived.Test.YtkapnepkkeaiaaaGreatDoorDT0
namespace Go.Proofs.YtkapnepkkeaiaaaGreatDoor
open Go
set_option maxRecDepth 100000
theorem t_ps : ∀ os tape, DataW.laidRun Tryz.prog (varsWorld Tryz.prog 400 (varsId Tryz.prog) os tape).memory 8 (L8.map (·.1)) = some (L8, PS) := fun _ _ => by kernel_rfl
end Go.Proofs.YtkapnepkkeaiaaaGreatDoor
