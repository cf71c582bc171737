/- Closed facts. -/
import Derived.Test.YthghnnhpimgbmaaGreatDoorCards
import Derived.JoinedOf
namespace Go.Proofs.YthghnnhpimgbmaaGreatDoor
open Go
set_option maxRecDepth 100000
theorem f_named : (Rows.backOptionsRow.named == Tryz.prog.varsNamed 3) = true := by kernel_rfl
end Go.Proofs.YthghnnhpimgbmaaGreatDoor
