/-
  DERIVED. GIVEN WITH THE SEED: THE CARDS: each row of YtallcnidacopjaaGreatDoorRows.lean that lists a variable, with what it lists TIED to the program's text (the seventh form; the later family's looks); each row that meets fmt, with fmt's text TOLD by the authors' own Lean function (tested against real Go, not proved from fmt's source: count such statements apart). THE CARD IS WHAT COUNTS. Prove the row's statement (the work); the ties are given (YtallcnidacopjaaGreatDoorTie.lean); close each card by the builder's one call (the guide's Derived/Test/ToyasCard.lean, 'card_holds'). Laid BY PROGRAM, IN A SANDBOX (cutbox-door.mjs). By AI agents, Wed Nov 11 2026. No macro, syntax, notation, axiom, sorry.
-/
import Derived.Test.YtallcnidacopjaaGreatDoorRows
import GoSem.ClaimSeven
namespace Go.Proofs.YtallcnidacopjaaGreatDoor
namespace Rows

/-- THE TIED CARD OF 'hibernaclelaw57.RehearseTexts'. -/
def rehearseTextsCard : Claim7 := { stood := { row := rehearseTextsRow, standIns := [], harness := (true, "6797a1898475d285115a1729d9299c887787eb63c1d43709f2f795eafeb75343"), looks := true }, kinds := [], alts := [], laidByText := true, laidKinds := [.data, .data, .data, .data, .data, .sentinel, .sentinel, .data], laidTests := true, laidLooks := .later }
def RehearseTextsCardSaid : Prop := Claim7.holds Tryz.pinned (.plain (OpenSpec.ofChange rehearseTextsSpec)) rehearseTextsCard

/-- THE SECOND FORM's CARD OF 'hibernaclelaw57.RehearseTexts'. -/
def rehearseTextsUptoCard : Claim7 := { stood := { row := rehearseTextsUptoRow, standIns := [], harness := (true, "6797a1898475d285115a1729d9299c887787eb63c1d43709f2f795eafeb75343"), looks := true }, kinds := [], alts := [], laidByText := true, laidKinds := [.data, .data, .data, .data, .data, .sentinel, .sentinel, .data], laidTests := true, laidLooks := .later }
def RehearseTextsUptoCardSaid : Prop := Claim7.holds Tryz.pinned (.plain (OpenSpec.upto rehearseTextsSpec)) rehearseTextsUptoCard
end Rows
end Go.Proofs.YtallcnidacopjaaGreatDoor
