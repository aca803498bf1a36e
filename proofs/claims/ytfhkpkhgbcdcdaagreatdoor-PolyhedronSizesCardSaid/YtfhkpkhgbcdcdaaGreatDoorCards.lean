/-
  DERIVED. GIVEN WITH THE SEED: THE CARDS: each row of YtfhkpkhgbcdcdaaGreatDoorRows.lean that lists a variable, with what it lists TIED to the program's text (the seventh form; the later family's looks); each row that meets fmt, with fmt's text TOLD by the authors' own Lean function (tested against real Go, not proved from fmt's source: count such statements apart). THE CARD IS WHAT COUNTS. Prove the row's statement (the work); the ties are given (YtfhkpkhgbcdcdaaGreatDoorTie.lean); close each card by the builder's one call (the guide's Derived/Test/ToyasCard.lean, 'card_holds'). Laid BY PROGRAM, IN A SANDBOX (cutbox-door.mjs). By AI agents, Wed Nov 11 2026. No macro, syntax, notation, axiom, sorry.
-/
import Derived.Test.YtfhkpkhgbcdcdaaGreatDoorRows
import GoSem.ClaimSeven
namespace Go.Proofs.YtfhkpkhgbcdcdaaGreatDoor
namespace Rows

/-- THE TIED CARD OF 'surveyorlaw28.PolyhedronSizes'. -/
def polyhedronSizesCard : Claim7 := { stood := { row := polyhedronSizesRow, standIns := [], harness := (true, "0b5718eb7f5c152f8796dfa5b4db9dc38c88314f1ce39aa9319ec8fde2c7f9ef"), looks := true }, kinds := [], alts := [], laidByText := true, laidKinds := [.data, .data, .data, .data, .sentinel, .sentinel, .pinned], laidTests := true, laidLooks := .later }
def PolyhedronSizesCardSaid : Prop := Claim7.holds Tryz.pinned (.plain (OpenSpec.ofChange polyhedronSizesSpec)) polyhedronSizesCard

/-- THE SECOND FORM's CARD OF 'surveyorlaw28.PolyhedronSizes'. -/
def polyhedronSizesUptoCard : Claim7 := { stood := { row := polyhedronSizesUptoRow, standIns := [], harness := (true, "0b5718eb7f5c152f8796dfa5b4db9dc38c88314f1ce39aa9319ec8fde2c7f9ef"), looks := true }, kinds := [], alts := [], laidByText := true, laidKinds := [.data, .data, .data, .data, .sentinel, .sentinel, .pinned], laidTests := true, laidLooks := .later }
def PolyhedronSizesUptoCardSaid : Prop := Claim7.holds Tryz.pinned (.plain (OpenSpec.upto polyhedronSizesSpec)) polyhedronSizesUptoCard
end Rows
end Go.Proofs.YtfhkpkhgbcdcdaaGreatDoor
