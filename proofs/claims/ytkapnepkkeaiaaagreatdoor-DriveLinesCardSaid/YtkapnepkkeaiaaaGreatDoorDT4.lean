/- Closed facts. -/
import Derived.Test.YtkapnepkkeaiaaaGreatDoorDT0
namespace Go.Proofs.YtkapnepkkeaiaaaGreatDoor
open Go
set_option maxRecDepth 100000
theorem t_r1 : ∀ os tape, laidRowsB Tryz.prog (varsWorld Tryz.prog 400 (varsId Tryz.prog) os tape).memory PS1 = true := fun _ _ => by kernel_rfl
theorem t_r2 : ∀ os tape, laidRowsB Tryz.prog (varsWorld Tryz.prog 400 (varsId Tryz.prog) os tape).memory PS2 = true := fun _ _ => by kernel_rfl
theorem t_r3 : ∀ os tape, laidRowsB Tryz.prog (varsWorld Tryz.prog 400 (varsId Tryz.prog) os tape).memory PS3 = true := fun _ _ => by kernel_rfl
theorem t_r4 : ∀ os tape, laidRowsB Tryz.prog (varsWorld Tryz.prog 400 (varsId Tryz.prog) os tape).memory PS4 = true := fun _ _ => by kernel_rfl
end Go.Proofs.YtkapnepkkeaiaaaGreatDoor
