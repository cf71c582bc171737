/- Closed facts. -/
import Derived.Test.YtkapnepkkeaiaaaGreatDoorProg
import Derived.KernelRfl
import GoSem.ClaimDataLaid
namespace Go.Proofs.YtkapnepkkeaiaaaGreatDoor
open Go
set_option maxRecDepth 100000
theorem rf3 : ((List.range 100).all fun k => rowFine Tryz.prog (300 + k)) = true := by kernel_rfl
theorem rf4 : ((List.range 100).all fun k => rowFine Tryz.prog (400 + k)) = true := by kernel_rfl
theorem rf5 : ((List.range 100).all fun k => rowFine Tryz.prog (500 + k)) = true := by kernel_rfl
end Go.Proofs.YtkapnepkkeaiaaaGreatDoor
