/- Closed facts. -/
import Derived.Test.YthghnnhpimgbmaaGreatDoorCards
import Derived.JoinedOf
namespace Go.Proofs.YthghnnhpimgbmaaGreatDoor
open Go
set_option maxRecDepth 100000
theorem f_rec : (Rows.backOptionsRow.recurses == Tryz.prog.recurses 3) = true := by kernel_rfl
end Go.Proofs.YthghnnhpimgbmaaGreatDoor
