/-
  DERIVED. GIVEN WITH THE SEED: THE CARDS: each row of YtphliffdmedfbaaGreatDoorRows.lean that lists a variable, with what it lists TIED to the program's text (the seventh form; the later family's looks); each row that meets fmt, with fmt's text TOLD by the authors' own Lean function (tested against real Go, not proved from fmt's source: count such statements apart). THE CARD IS WHAT COUNTS. Prove the row's statement (the work); the ties are given (YtphliffdmedfbaaGreatDoorTie.lean); close each card by the builder's one call (the guide's Derived/Test/ToyasCard.lean, 'card_holds'). Laid BY PROGRAM, IN A SANDBOX (cutbox-door.mjs). By AI agents, Wed Nov 11 2026. No macro, syntax, notation, axiom, sorry.
-/
import Derived.Test.YtphliffdmedfbaaGreatDoorRows
import GoSem.ClaimSeven
namespace Go.Proofs.YtphliffdmedfbaaGreatDoor
namespace Rows

/-- THE TIED CARD OF 'surveyortop.TopDuality'. -/
def topDualityCard : Claim7 := { stood := { row := topDualityRow, standIns := [], harness := (true, "208bbdabc4d7d2a5cec9c10e88ddb7162987cd2cc70acc2767478753efa3211c"), looks := true }, kinds := [], alts := [], laidByText := true, laidKinds := [.data, .data, .data, .data, .sentinel, .sentinel, .pinned], laidTests := true, laidLooks := .later }
def TopDualityCardSaid : Prop := Claim7.holds Tryz.pinned (.plain (OpenSpec.ofChange topDualitySpec)) topDualityCard

/-- THE SECOND FORM's CARD OF 'surveyortop.TopDuality'. -/
def topDualityUptoCard : Claim7 := { stood := { row := topDualityUptoRow, standIns := [], harness := (true, "208bbdabc4d7d2a5cec9c10e88ddb7162987cd2cc70acc2767478753efa3211c"), looks := true }, kinds := [], alts := [], laidByText := true, laidKinds := [.data, .data, .data, .data, .sentinel, .sentinel, .pinned], laidTests := true, laidLooks := .later }
def TopDualityUptoCardSaid : Prop := Claim7.holds Tryz.pinned (.plain (OpenSpec.upto topDualitySpec)) topDualityUptoCard
end Rows
end Go.Proofs.YtphliffdmedfbaaGreatDoor
