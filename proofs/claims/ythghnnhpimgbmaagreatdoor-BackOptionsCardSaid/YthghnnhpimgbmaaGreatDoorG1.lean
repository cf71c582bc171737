/- Closed facts. -/
import Derived.Test.YthghnnhpimgbmaaGreatDoorCards
import Derived.JoinedOf
namespace Go.Proofs.YthghnnhpimgbmaaGreatDoor
open Go
set_option maxRecDepth 100000
theorem f_inPlace : (Rows.backOptionsRow.inPlace == Tryz.prog.inPlace 3) = true := by kernel_rfl
theorem noGoes : (Tryz.prog.funcs.toList.all fun fn => fn.goes == false) = true := by kernel_rfl
end Go.Proofs.YthghnnhpimgbmaaGreatDoor
