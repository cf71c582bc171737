/- A closed fact of the witness. -/
import Derived.Test.YtkapnepkkeaiaaaGreatDoorDP1
namespace Go.Proofs.YtkapnepkkeaiaaaGreatDoor
open Go
set_option maxRecDepth 100000
theorem wit_if (os : Os) : (World.holding Tryz.prog os ⟨#[], #[], []⟩).layIfaces Tryz.prog laidL (World.laidAll Tryz.prog os laidL) = true := by kernel_rfl
end Go.Proofs.YtkapnepkkeaiaaaGreatDoor
