/- Closed facts. -/
import Derived.Test.YtkapnepkkeaiaaaGreatDoorProg
import Derived.KernelRfl
import GoSem.ClaimSeven
import Derived.JoinedOf
namespace Go.Proofs.YtkapnepkkeaiaaaGreatDoor
open Go
set_option maxRecDepth 100000
theorem noGoes : (Tryz.prog.funcs.toList.all fun fn => fn.goes == false) = true := by kernel_rfl
theorem f_heard : Tryz.prog.stopsHeard = true := by kernel_rfl
theorem f_mapsRowed : mapsRowed Tryz.prog = true := by kernel_rfl
end Go.Proofs.YtkapnepkkeaiaaaGreatDoor
