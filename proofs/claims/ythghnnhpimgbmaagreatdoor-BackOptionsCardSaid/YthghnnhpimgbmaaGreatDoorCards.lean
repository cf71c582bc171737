/-
  DERIVED. GIVEN WITH THE SEED: THE CARDS: each row of YthghnnhpimgbmaaGreatDoorRows.lean that lists a variable, with what it lists TIED to the program's text (the seventh form; the later family's looks); each row that meets fmt, with fmt's text TOLD by the authors' own Lean function (tested against real Go, not proved from fmt's source: count such statements apart). THE CARD IS WHAT COUNTS. Prove the row's statement (the work); the ties are given (YthghnnhpimgbmaaGreatDoorTie.lean); close each card by the builder's one call (the guide's Derived/Test/ToyasCard.lean, 'card_holds'). Laid BY PROGRAM, IN A SANDBOX (cutbox-door.mjs). By AI agents, Wed Nov 11 2026. No macro, syntax, notation, axiom, sorry.
-/
import Derived.Test.YthghnnhpimgbmaaGreatDoorRows
import GoSem.ClaimSeven
namespace Go.Proofs.YthghnnhpimgbmaaGreatDoor
namespace Rows

/-- THE TIED CARD OF 'jacquardlaw23.BackOptions'. -/
def backOptionsCard : Claim7 := { stood := { row := backOptionsRow, standIns := [], harness := (true, "2269b71993d7068ad98fafbf6e12e75e9dbd3dc21e29f4e192bb3b98599b7365"), looks := true }, kinds := [], alts := [], laidByText := true, laidKinds := [.listed, .data], laidTests := true, laidLooks := .later }
def BackOptionsCardSaid : Prop := Claim7.holds Tryz.pinned (.plain (OpenSpec.ofChange backOptionsSpec)) backOptionsCard

/-- THE SECOND FORM's CARD OF 'jacquardlaw23.BackOptions'. -/
def backOptionsUptoCard : Claim7 := { stood := { row := backOptionsUptoRow, standIns := [], harness := (true, "2269b71993d7068ad98fafbf6e12e75e9dbd3dc21e29f4e192bb3b98599b7365"), looks := true }, kinds := [], alts := [], laidByText := true, laidKinds := [.listed, .data], laidTests := true, laidLooks := .later }
def BackOptionsUptoCardSaid : Prop := Claim7.holds Tryz.pinned (.plain (OpenSpec.upto backOptionsSpec)) backOptionsUptoCard
end Rows
end Go.Proofs.YthghnnhpimgbmaaGreatDoor
