/-
  DERIVED. GIVEN WITH THE SEED: THE CARDS: each row of YtaoanbebgeeicaaGreatDoorRows.lean that lists a variable, with what it lists TIED to the program's text (the seventh form; the later family's looks); each row that meets fmt, with fmt's text TOLD by the authors' own Lean function (tested against real Go, not proved from fmt's source: count such statements apart). THE CARD IS WHAT COUNTS. Prove the row's statement (the work); the ties are given (YtaoanbebgeeicaaGreatDoorTie.lean); close each card by the builder's one call (the guide's Derived/Test/ToyasCard.lean, 'card_holds'). Laid BY PROGRAM, IN A SANDBOX (cutbox-door.mjs). By AI agents, Wed Nov 11 2026. No macro, syntax, notation, axiom, sorry.
-/
import Derived.Test.YtaoanbebgeeicaaGreatDoorRows
import GoSem.ClaimSeven
namespace Go.Proofs.YtaoanbebgeeicaaGreatDoor
namespace Rows

/-- THE TIED CARD OF 'furrowlaw13.NestAny'. -/
def nestAnyCard : Claim7 := { stood := { row := nestAnyRow, standIns := [], harness := (true, "bfc1ddde3b62da4bca4efe98fe49411234800e67790db7a96fde4636f12f72ed"), looks := true }, kinds := [], alts := [], laidByText := true, laidKinds := [.handle], laidTests := true, laidLooks := .later }
def NestAnyCardSaid : Prop := Claim7.holds Tryz.pinned (.plain (OpenSpec.ofChange nestAnySpec)) nestAnyCard

/-- THE TIED CARD OF 'furrowlaw13.NestIndex'. -/
def nestIndexCard : Claim7 := { stood := { row := nestIndexRow, standIns := [], harness := (true, "bfc1ddde3b62da4bca4efe98fe49411234800e67790db7a96fde4636f12f72ed"), looks := true }, kinds := [], alts := [], laidByText := true, laidKinds := [.handle], laidTests := true, laidLooks := .later }
def NestIndexCardSaid : Prop := Claim7.holds Tryz.pinned (.plain (OpenSpec.ofChange nestIndexSpec)) nestIndexCard

/-- THE TIED CARD OF 'furrowlaw13.NestDepth'. -/
def nestDepthCard : Claim7 := { stood := { row := nestDepthRow, standIns := [], harness := (true, "bfc1ddde3b62da4bca4efe98fe49411234800e67790db7a96fde4636f12f72ed"), looks := true }, kinds := [], alts := [], laidByText := true, laidKinds := [.handle], laidTests := true, laidLooks := .later }
def NestDepthCardSaid : Prop := Claim7.holds Tryz.pinned (.plain (OpenSpec.ofChange nestDepthSpec)) nestDepthCard

/-- THE SECOND FORM's CARD OF 'furrowlaw13.NestAny'. -/
def nestAnyUptoCard : Claim7 := { stood := { row := nestAnyUptoRow, standIns := [], harness := (true, "bfc1ddde3b62da4bca4efe98fe49411234800e67790db7a96fde4636f12f72ed"), looks := true }, kinds := [], alts := [], laidByText := true, laidKinds := [.handle], laidTests := true, laidLooks := .later }
def NestAnyUptoCardSaid : Prop := Claim7.holds Tryz.pinned (.plain (OpenSpec.upto nestAnySpec)) nestAnyUptoCard

/-- THE SECOND FORM's CARD OF 'furrowlaw13.NestIndex'. -/
def nestIndexUptoCard : Claim7 := { stood := { row := nestIndexUptoRow, standIns := [], harness := (true, "bfc1ddde3b62da4bca4efe98fe49411234800e67790db7a96fde4636f12f72ed"), looks := true }, kinds := [], alts := [], laidByText := true, laidKinds := [.handle], laidTests := true, laidLooks := .later }
def NestIndexUptoCardSaid : Prop := Claim7.holds Tryz.pinned (.plain (OpenSpec.upto nestIndexSpec)) nestIndexUptoCard

/-- THE SECOND FORM's CARD OF 'furrowlaw13.NestDepth'. -/
def nestDepthUptoCard : Claim7 := { stood := { row := nestDepthUptoRow, standIns := [], harness := (true, "bfc1ddde3b62da4bca4efe98fe49411234800e67790db7a96fde4636f12f72ed"), looks := true }, kinds := [], alts := [], laidByText := true, laidKinds := [.handle], laidTests := true, laidLooks := .later }
def NestDepthUptoCardSaid : Prop := Claim7.holds Tryz.pinned (.plain (OpenSpec.upto nestDepthSpec)) nestDepthUptoCard
end Rows
end Go.Proofs.YtaoanbebgeeicaaGreatDoor
