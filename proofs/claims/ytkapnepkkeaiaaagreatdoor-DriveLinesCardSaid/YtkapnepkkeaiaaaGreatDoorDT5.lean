/- Closed facts. -/
import Derived.Test.YtkapnepkkeaiaaaGreatDoorDT0
namespace Go.Proofs.YtkapnepkkeaiaaaGreatDoor
open Go
set_option maxRecDepth 100000
theorem t_r5 : ∀ os tape, laidRowsB Tryz.prog (varsWorld Tryz.prog 400 (varsId Tryz.prog) os tape).memory PS5 = true := fun _ _ => by kernel_rfl
theorem t_r6 : ∀ os tape, laidRowsB Tryz.prog (varsWorld Tryz.prog 400 (varsId Tryz.prog) os tape).memory PS6 = true := fun _ _ => by kernel_rfl
theorem t_r7 : ∀ os tape, laidRowsB Tryz.prog (varsWorld Tryz.prog 400 (varsId Tryz.prog) os tape).memory PS7 = true := fun _ _ => by kernel_rfl
theorem t_r8 : ∀ os tape, laidRowsB Tryz.prog (varsWorld Tryz.prog 400 (varsId Tryz.prog) os tape).memory PS8 = true := fun _ _ => by kernel_rfl
end Go.Proofs.YtkapnepkkeaiaaaGreatDoor
