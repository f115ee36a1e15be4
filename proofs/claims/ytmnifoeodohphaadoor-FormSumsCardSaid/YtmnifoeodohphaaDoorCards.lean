/-
  DERIVED. GIVEN WITH THE SEED: THE CARDS: each row of YtmnifoeodohphaaDoorRows.lean that lists a variable, with what it lists TIED to the program's text (the seventh form; the later family's looks); each row that meets fmt, with fmt's text TOLD by the authors' own Lean function (tested against real Go, not proved from fmt's source: count such statements apart). THE CARD IS WHAT COUNTS. Prove the row's statement (the work); the ties are given (YtmnifoeodohphaaDoorTie.lean); close each card by the builder's one call (the guide's Derived/Test/ToyasCard.lean, 'card_holds'). Laid BY PROGRAM, IN A SANDBOX (cutbox-door.mjs). By AI agents, Wed Nov 11 2026. No macro, syntax, notation, axiom, sorry.
-/
import Derived.Test.YtmnifoeodohphaaDoorRows
import GoSem.ClaimSeven
namespace Go.Proofs.YtmnifoeodohphaaDoor
namespace Rows

/-- THE TIED CARD OF 'furrowlaw11.FormSums'. -/
def formSumsCard : Claim7 := { stood := { row := formSumsRow, standIns := [], harness := (true, "8e852f5d8bbd56c412beeac4dd251d990d268ce7f4b8075656ae0a6cd3230e86"), looks := true }, kinds := [], alts := [], laidByText := true, laidKinds := [.data, .data, .data, .handle], laidTests := true, laidLooks := .later }
def FormSumsCardSaid : Prop := Claim7.holds Tryd.pinned (.plain (OpenSpec.ofChange formSumsSpec)) formSumsCard

/-- THE TIED CARD OF 'furrowlaw11.FormAt'. -/
def formAtCard : Claim7 := { stood := { row := formAtRow, standIns := [], harness := (true, "8e852f5d8bbd56c412beeac4dd251d990d268ce7f4b8075656ae0a6cd3230e86"), looks := true }, kinds := [], alts := [], laidByText := true, laidKinds := [.data, .data, .data, .handle], laidTests := true, laidLooks := .later }
def FormAtCardSaid : Prop := Claim7.holds Tryd.pinned (.plain (OpenSpec.ofChange formAtSpec)) formAtCard

/-- THE TIED CARD OF 'furrowlaw11.FormText'. -/
def formTextCard : Claim7 := { stood := { row := formTextRow, standIns := [], harness := (true, "8e852f5d8bbd56c412beeac4dd251d990d268ce7f4b8075656ae0a6cd3230e86"), looks := true }, kinds := [], alts := [], laidByText := true, laidKinds := [.data, .data, .data, .handle], laidTests := true, laidLooks := .later }
def FormTextCardSaid : Prop := Claim7.holds Tryd.pinned (.plain (OpenSpec.ofChange formTextSpec)) formTextCard

/-- THE TIED CARD OF 'furrowlaw11.FormBox'. -/
def formBoxCard : Claim7 := { stood := { row := formBoxRow, standIns := [], harness := (true, "8e852f5d8bbd56c412beeac4dd251d990d268ce7f4b8075656ae0a6cd3230e86"), looks := true }, kinds := [], alts := [], laidByText := true, laidKinds := [.data, .data, .data, .handle], laidTests := true, laidLooks := .later }
def FormBoxCardSaid : Prop := Claim7.holds Tryd.pinned (.plain (OpenSpec.ofChange formBoxSpec)) formBoxCard

/-- THE TIED CARD OF 'furrowlaw11.FormRing'. -/
def formRingCard : Claim7 := { stood := { row := formRingRow, standIns := [], harness := (true, "8e852f5d8bbd56c412beeac4dd251d990d268ce7f4b8075656ae0a6cd3230e86"), looks := true }, kinds := [], alts := [], laidByText := true, laidKinds := [.data, .data, .data, .handle], laidTests := true, laidLooks := .later }
def FormRingCardSaid : Prop := Claim7.holds Tryd.pinned (.plain (OpenSpec.ofChange formRingSpec)) formRingCard

/-- THE TIED CARD OF 'furrowlaw11.FormEnds'. -/
def formEndsCard : Claim7 := { stood := { row := formEndsRow, standIns := [], harness := (true, "8e852f5d8bbd56c412beeac4dd251d990d268ce7f4b8075656ae0a6cd3230e86"), looks := true }, kinds := [], alts := [], laidByText := true, laidKinds := [.data, .data, .data, .handle], laidTests := true, laidLooks := .later }
def FormEndsCardSaid : Prop := Claim7.holds Tryd.pinned (.plain (OpenSpec.ofChange formEndsSpec)) formEndsCard

/-- THE SECOND FORM's CARD OF 'furrowlaw11.FormSums'. -/
def formSumsUptoCard : Claim7 := { stood := { row := formSumsUptoRow, standIns := [], harness := (true, "8e852f5d8bbd56c412beeac4dd251d990d268ce7f4b8075656ae0a6cd3230e86"), looks := true }, kinds := [], alts := [], laidByText := true, laidKinds := [.data, .data, .data, .handle], laidTests := true, laidLooks := .later }
def FormSumsUptoCardSaid : Prop := Claim7.holds Tryd.pinned (.plain (OpenSpec.upto formSumsSpec)) formSumsUptoCard

/-- THE SECOND FORM's CARD OF 'furrowlaw11.FormAt'. -/
def formAtUptoCard : Claim7 := { stood := { row := formAtUptoRow, standIns := [], harness := (true, "8e852f5d8bbd56c412beeac4dd251d990d268ce7f4b8075656ae0a6cd3230e86"), looks := true }, kinds := [], alts := [], laidByText := true, laidKinds := [.data, .data, .data, .handle], laidTests := true, laidLooks := .later }
def FormAtUptoCardSaid : Prop := Claim7.holds Tryd.pinned (.plain (OpenSpec.upto formAtSpec)) formAtUptoCard

/-- THE SECOND FORM's CARD OF 'furrowlaw11.FormText'. -/
def formTextUptoCard : Claim7 := { stood := { row := formTextUptoRow, standIns := [], harness := (true, "8e852f5d8bbd56c412beeac4dd251d990d268ce7f4b8075656ae0a6cd3230e86"), looks := true }, kinds := [], alts := [], laidByText := true, laidKinds := [.data, .data, .data, .handle], laidTests := true, laidLooks := .later }
def FormTextUptoCardSaid : Prop := Claim7.holds Tryd.pinned (.plain (OpenSpec.upto formTextSpec)) formTextUptoCard

/-- THE SECOND FORM's CARD OF 'furrowlaw11.FormBox'. -/
def formBoxUptoCard : Claim7 := { stood := { row := formBoxUptoRow, standIns := [], harness := (true, "8e852f5d8bbd56c412beeac4dd251d990d268ce7f4b8075656ae0a6cd3230e86"), looks := true }, kinds := [], alts := [], laidByText := true, laidKinds := [.data, .data, .data, .handle], laidTests := true, laidLooks := .later }
def FormBoxUptoCardSaid : Prop := Claim7.holds Tryd.pinned (.plain (OpenSpec.upto formBoxSpec)) formBoxUptoCard

/-- THE SECOND FORM's CARD OF 'furrowlaw11.FormRing'. -/
def formRingUptoCard : Claim7 := { stood := { row := formRingUptoRow, standIns := [], harness := (true, "8e852f5d8bbd56c412beeac4dd251d990d268ce7f4b8075656ae0a6cd3230e86"), looks := true }, kinds := [], alts := [], laidByText := true, laidKinds := [.data, .data, .data, .handle], laidTests := true, laidLooks := .later }
def FormRingUptoCardSaid : Prop := Claim7.holds Tryd.pinned (.plain (OpenSpec.upto formRingSpec)) formRingUptoCard

/-- THE SECOND FORM's CARD OF 'furrowlaw11.FormEnds'. -/
def formEndsUptoCard : Claim7 := { stood := { row := formEndsUptoRow, standIns := [], harness := (true, "8e852f5d8bbd56c412beeac4dd251d990d268ce7f4b8075656ae0a6cd3230e86"), looks := true }, kinds := [], alts := [], laidByText := true, laidKinds := [.data, .data, .data, .handle], laidTests := true, laidLooks := .later }
def FormEndsUptoCardSaid : Prop := Claim7.holds Tryd.pinned (.plain (OpenSpec.upto formEndsSpec)) formEndsUptoCard
end Rows
end Go.Proofs.YtmnifoeodohphaaDoor
