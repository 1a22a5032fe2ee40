/-
  DERIVED. GIVEN WITH THE SEED: THE CARDS: each row of YtencimimccoofaaGreatDoorRows.lean that lists a variable, with what it lists TIED to the program's text (the seventh form; the later family's looks); each row that meets fmt, with fmt's text TOLD by the authors' own Lean function (tested against real Go, not proved from fmt's source: count such statements apart). THE CARD IS WHAT COUNTS. Prove the row's statement (the work); the ties are given (YtencimimccoofaaGreatDoorTie.lean); close each card by the builder's one call (the guide's Derived/Test/ToyasCard.lean, 'card_holds'). Laid BY PROGRAM, IN A SANDBOX (cutbox-door.mjs). By AI agents, Wed Nov 11 2026. No macro, syntax, notation, axiom, sorry.
-/
import Derived.Test.YtencimimccoofaaGreatDoorRows
import GoSem.ClaimSeven
namespace Go.Proofs.YtencimimccoofaaGreatDoor
namespace Rows

/-- THE TIED CARD OF 'quadrillelaw21.EditsNil'. -/
def editsNilCard : Claim7 := { stood := { row := editsNilRow, standIns := [], harness := (true, "9cefa8d9be6576f2e98325a075707b54723c09a263e4d488fddcc7fa6ffd1584"), looks := true }, kinds := [], alts := [], laidByText := true, laidKinds := [.pinned, .data, .data, .data, .data, .sentinel, .sentinel, .data, .data, .data, .data], laidTests := true, laidLooks := .later }
def EditsNilCardSaid : Prop := Claim7.holds Tryz.pinned (.plain (OpenSpec.ofChange editsNilSpec)) editsNilCard

/-- THE SECOND FORM's CARD OF 'quadrillelaw21.EditsNil'. -/
def editsNilUptoCard : Claim7 := { stood := { row := editsNilUptoRow, standIns := [], harness := (true, "9cefa8d9be6576f2e98325a075707b54723c09a263e4d488fddcc7fa6ffd1584"), looks := true }, kinds := [], alts := [], laidByText := true, laidKinds := [.pinned, .data, .data, .data, .data, .sentinel, .sentinel, .data, .data, .data, .data], laidTests := true, laidLooks := .later }
def EditsNilUptoCardSaid : Prop := Claim7.holds Tryz.pinned (.plain (OpenSpec.upto editsNilSpec)) editsNilUptoCard
end Rows
end Go.Proofs.YtencimimccoofaaGreatDoor
