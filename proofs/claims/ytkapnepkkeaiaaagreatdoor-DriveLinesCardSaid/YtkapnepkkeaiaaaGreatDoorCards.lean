/-
  DERIVED. GIVEN WITH THE SEED: THE CARDS: each row of YtkapnepkkeaiaaaGreatDoorRows.lean that lists a variable, with what it lists TIED to the program's text (the seventh form; the later family's looks); each row that meets fmt, with fmt's text TOLD by the authors' own Lean function (tested against real Go, not proved from fmt's source: count such statements apart). THE CARD IS WHAT COUNTS. Prove the row's statement (the work); the ties are given (YtkapnepkkeaiaaaGreatDoorTie.lean); close each card by the builder's one call (the guide's Derived/Test/ToyasCard.lean, 'card_holds'). Laid BY PROGRAM, IN A SANDBOX (cutbox-door.mjs). By AI agents, Wed Nov 11 2026. No macro, syntax, notation, axiom, sorry.
-/
import Derived.Test.YtkapnepkkeaiaaaGreatDoorRows
import GoSem.ClaimSeven
namespace Go.Proofs.YtkapnepkkeaiaaaGreatDoor
namespace Rows

/-- THE TIED CARD OF 'jacquardlaw26.DriveLines'. -/
def driveLinesCard : Claim7 := { stood := { row := driveLinesRow, standIns := [], harness := (true, "3e546be3193d975ca81c5619f68697d7b99dca96acc25063a2c85f0f2b84c975"), looks := true }, kinds := [], alts := [], laidByText := true, laidKinds := [.pinned, .data, .data, .listed, .sentinel, .sentinel, .data, .data, .data], laidTests := true, laidLooks := .later }
def DriveLinesCardSaid : Prop := Claim7.holds Tryz.pinned (.plain (OpenSpec.ofChange driveLinesSpec)) driveLinesCard

/-- THE SECOND FORM's CARD OF 'jacquardlaw26.DriveLines'. -/
def driveLinesUptoCard : Claim7 := { stood := { row := driveLinesUptoRow, standIns := [], harness := (true, "3e546be3193d975ca81c5619f68697d7b99dca96acc25063a2c85f0f2b84c975"), looks := true }, kinds := [], alts := [], laidByText := true, laidKinds := [.pinned, .data, .data, .listed, .sentinel, .sentinel, .data, .data, .data], laidTests := true, laidLooks := .later }
def DriveLinesUptoCardSaid : Prop := Claim7.holds Tryz.pinned (.plain (OpenSpec.upto driveLinesSpec)) driveLinesUptoCard
end Rows
end Go.Proofs.YtkapnepkkeaiaaaGreatDoor
