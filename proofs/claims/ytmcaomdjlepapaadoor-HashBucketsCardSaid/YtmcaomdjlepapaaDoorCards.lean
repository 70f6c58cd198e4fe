/-
  DERIVED. GIVEN WITH THE SEED: THE CARDS: each row of YtmcaomdjlepapaaDoorRows.lean that lists a variable, with what it lists TIED to the program's text (the seventh form; the later family's looks); each row that meets fmt, with fmt's text TOLD by the authors' own Lean function (tested against real Go, not proved from fmt's source: count such statements apart). THE CARD IS WHAT COUNTS. Prove the row's statement (the work); the ties are given (YtmcaomdjlepapaaDoorTie.lean); close each card by the builder's one call (the guide's Derived/Test/ToyasCard.lean, 'card_holds'). Laid BY PROGRAM, IN A SANDBOX (cutbox-door.mjs). By AI agents, Wed Nov 11 2026. No macro, syntax, notation, axiom, sorry.
-/
import Derived.Test.YtmcaomdjlepapaaDoorRows
import GoSem.ClaimSeven
namespace Go.Proofs.YtmcaomdjlepapaaDoor
namespace Rows

/-- THE TIED CARD OF 'bodegalaw23.HashRoots'. -/
def hashRootsCard : Claim7 := { stood := { row := hashRootsRow, standIns := [], harness := (true, "c8ee203320d6b1350c36f47ea5b325345d11c9dad6bc4fdf3a24ffda5f8e3d63"), looks := false }, kinds := [], alts := [], laidByText := true, laidKinds := [.data], laidTests := true, laidLooks := .later }
def HashRootsCardSaid : Prop := Claim7.holds Tryd.pinned (.plain (OpenSpec.ofChange hashRootsSpec)) hashRootsCard

/-- THE TIED CARD OF 'bodegalaw23.HashSlots'. -/
def hashSlotsCard : Claim7 := { stood := { row := hashSlotsRow, standIns := [], harness := (true, "c8ee203320d6b1350c36f47ea5b325345d11c9dad6bc4fdf3a24ffda5f8e3d63"), looks := false }, kinds := [], alts := [], laidByText := true, laidKinds := [.data], laidTests := true, laidLooks := .later }
def HashSlotsCardSaid : Prop := Claim7.holds Tryd.pinned (.plain (OpenSpec.ofChange hashSlotsSpec)) hashSlotsCard

/-- THE TIED CARD OF 'bodegalaw23.HashBuckets'. -/
def hashBucketsCard : Claim7 := { stood := { row := hashBucketsRow, standIns := [], harness := (true, "c8ee203320d6b1350c36f47ea5b325345d11c9dad6bc4fdf3a24ffda5f8e3d63"), looks := false }, kinds := [], alts := [], laidByText := true, laidKinds := [.data], laidTests := true, laidLooks := .later }
def HashBucketsCardSaid : Prop := Claim7.holds Tryd.pinned (.plain (OpenSpec.ofChange hashBucketsSpec)) hashBucketsCard

/-- THE SECOND FORM's CARD OF 'bodegalaw23.HashRoots'. -/
def hashRootsUptoCard : Claim7 := { stood := { row := hashRootsUptoRow, standIns := [], harness := (true, "c8ee203320d6b1350c36f47ea5b325345d11c9dad6bc4fdf3a24ffda5f8e3d63"), looks := false }, kinds := [], alts := [], laidByText := true, laidKinds := [.data], laidTests := true, laidLooks := .later }
def HashRootsUptoCardSaid : Prop := Claim7.holds Tryd.pinned (.plain (OpenSpec.upto hashRootsSpec)) hashRootsUptoCard

/-- THE SECOND FORM's CARD OF 'bodegalaw23.HashSlots'. -/
def hashSlotsUptoCard : Claim7 := { stood := { row := hashSlotsUptoRow, standIns := [], harness := (true, "c8ee203320d6b1350c36f47ea5b325345d11c9dad6bc4fdf3a24ffda5f8e3d63"), looks := false }, kinds := [], alts := [], laidByText := true, laidKinds := [.data], laidTests := true, laidLooks := .later }
def HashSlotsUptoCardSaid : Prop := Claim7.holds Tryd.pinned (.plain (OpenSpec.upto hashSlotsSpec)) hashSlotsUptoCard

/-- THE SECOND FORM's CARD OF 'bodegalaw23.HashBuckets'. -/
def hashBucketsUptoCard : Claim7 := { stood := { row := hashBucketsUptoRow, standIns := [], harness := (true, "c8ee203320d6b1350c36f47ea5b325345d11c9dad6bc4fdf3a24ffda5f8e3d63"), looks := false }, kinds := [], alts := [], laidByText := true, laidKinds := [.data], laidTests := true, laidLooks := .later }
def HashBucketsUptoCardSaid : Prop := Claim7.holds Tryd.pinned (.plain (OpenSpec.upto hashBucketsSpec)) hashBucketsUptoCard
end Rows
end Go.Proofs.YtmcaomdjlepapaaDoor
