/-
  DERIVED. GIVEN WITH THE SEED: THE CARDS: each row of YteafmggidjjdgaaGreatDoorRows.lean that lists a variable, with what it lists TIED to the program's text (the seventh form; the later family's looks); each row that meets fmt, with fmt's text TOLD by the authors' own Lean function (tested against real Go, not proved from fmt's source: count such statements apart). THE CARD IS WHAT COUNTS. Prove the row's statement (the work); the ties are given (YteafmggidjjdgaaGreatDoorTie.lean); close each card by the builder's one call (the guide's Derived/Test/ToyasCard.lean, 'card_holds'). Laid BY PROGRAM, IN A SANDBOX (cutbox-door.mjs). By AI agents, Wed Nov 11 2026. No macro, syntax, notation, axiom, sorry.
-/
import Derived.Test.YteafmggidjjdgaaGreatDoorRows
import GoSem.ClaimSeven
namespace Go.Proofs.YteafmggidjjdgaaGreatDoor
namespace Rows

/-- THE TIED CARD OF 'bodegalaw23.HashSteps'. -/
def hashStepsCard : Claim7 := { stood := { row := hashStepsRow, standIns := [], harness := (true, "917af43c3b6bc0577de3c3d20ffa6ef518b776126ec95e524e20f1bef8290f42"), looks := false }, kinds := [], alts := [], laidByText := true, laidKinds := [.data], laidTests := true, laidLooks := .later }
def HashStepsCardSaid : Prop := Claim7.holds Tryz.pinned (.plain (OpenSpec.ofChange hashStepsSpec)) hashStepsCard

/-- THE SECOND FORM's CARD OF 'bodegalaw23.HashSteps'. -/
def hashStepsUptoCard : Claim7 := { stood := { row := hashStepsUptoRow, standIns := [], harness := (true, "917af43c3b6bc0577de3c3d20ffa6ef518b776126ec95e524e20f1bef8290f42"), looks := false }, kinds := [], alts := [], laidByText := true, laidKinds := [.data], laidTests := true, laidLooks := .later }
def HashStepsUptoCardSaid : Prop := Claim7.holds Tryz.pinned (.plain (OpenSpec.upto hashStepsSpec)) hashStepsUptoCard
end Rows
end Go.Proofs.YteafmggidjjdgaaGreatDoor
