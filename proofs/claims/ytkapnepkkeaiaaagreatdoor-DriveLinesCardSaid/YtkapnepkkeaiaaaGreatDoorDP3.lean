/- A closed fact of the witness. -/
import Derived.Test.YtkapnepkkeaiaaaGreatDoorDP1
namespace Go.Proofs.YtkapnepkkeaiaaaGreatDoor
open Go
set_option maxRecDepth 100000
theorem wit_v (os : Os) : ((World.laidAll Tryz.prog os laidL).forCall (fun _ _ => 0) ⟨#[], #[.string ⟨#[]⟩, .string ⟨#[]⟩], []⟩).variablesZipB Tryz.prog = true := by kernel_rfl
end Go.Proofs.YtkapnepkkeaiaaaGreatDoor
