/- Closed facts. -/
import Derived.Test.YtkapnepkkeaiaaaGreatDoorProg
import Derived.KernelRfl
import GoSem.ClaimDataLaid
namespace Go.Proofs.YtkapnepkkeaiaaaGreatDoor
open Go
set_option maxRecDepth 100000
theorem rf6 : ((List.range 100).all fun k => rowFine Tryz.prog (600 + k)) = true := by kernel_rfl
theorem rf7 : ((List.range 67).all fun k => rowFine Tryz.prog (700 + k)) = true := by kernel_rfl
theorem rfG : (Tryz.prog.globals.all fun g => decide (g.type < Tryz.prog.types.size)) = true := by kernel_rfl
end Go.Proofs.YtkapnepkkeaiaaaGreatDoor
