/- Closed facts. -/
import Derived.Test.YtkapnepkkeaiaaaGreatDoorDT0
namespace Go.Proofs.YtkapnepkkeaiaaaGreatDoor
open Go
set_option maxRecDepth 100000
theorem t_d : ∀ os tape, varsDone Tryz.prog 400 (varsId Tryz.prog) os tape = true := fun _ _ => by kernel_rfl
end Go.Proofs.YtkapnepkkeaiaaaGreatDoor
