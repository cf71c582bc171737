/- Closed facts. -/
import Derived.Test.YtkapnepkkeaiaaaGreatDoorProg
import Derived.KernelRfl
import GoSem.ClaimDataLaid
namespace Go.Proofs.YtkapnepkkeaiaaaGreatDoor
open Go
set_option maxRecDepth 100000
theorem rf0 : ((List.range 100).all fun k => rowFine Tryz.prog (0 + k)) = true := by kernel_rfl
theorem rf1 : ((List.range 100).all fun k => rowFine Tryz.prog (100 + k)) = true := by kernel_rfl
theorem rf2 : ((List.range 100).all fun k => rowFine Tryz.prog (200 + k)) = true := by kernel_rfl
end Go.Proofs.YtkapnepkkeaiaaaGreatDoor
