/-
  DERIVED. GIVEN WITH THE SEED: THE CARDS: each row of YtnecoebdmjkblaaDoorRows.lean that lists a variable, with what it lists TIED to the program's text (the seventh form; the later family's looks); each row that meets fmt, with fmt's text TOLD by the authors' own Lean function (tested against real Go, not proved from fmt's source: count such statements apart). THE CARD IS WHAT COUNTS. Prove the row's statement (the work); the ties are given (YtnecoebdmjkblaaDoorTie.lean); close each card by the builder's one call (the guide's Derived/Test/ToyasCard.lean, 'card_holds'). Laid BY PROGRAM, IN A SANDBOX (cutbox-door.mjs). By AI agents, Wed Nov 11 2026. No macro, syntax, notation, axiom, sorry.
-/
import Derived.Test.YtnecoebdmjkblaaDoorRows
import GoSem.ClaimSeven
namespace Go.Proofs.YtnecoebdmjkblaaDoor
namespace Rows

/-- THE TIED CARD OF 'furrowlaw2.LineParts'. -/
def linePartsCard : Claim7 := { stood := { row := linePartsRow, standIns := [], harness := (true, "8c8a87f680b90be2bade25d8a44f4d7546c51c346d7307ee8777c53ccef1603e"), looks := true }, kinds := [], alts := [], laidByText := true, laidKinds := [.data, .pinned], laidTests := true, laidLooks := .later }
def LinePartsCardSaid : Prop := Claim7.holds Tryd.pinned (.plain (OpenSpec.ofChange linePartsSpec)) linePartsCard

/-- THE TIED CARD OF 'furrowlaw2.LineJoins'. -/
def lineJoinsCard : Claim7 := { stood := { row := lineJoinsRow, standIns := [], harness := (true, "8c8a87f680b90be2bade25d8a44f4d7546c51c346d7307ee8777c53ccef1603e"), looks := true }, kinds := [], alts := [], laidByText := true, laidKinds := [.data, .pinned], laidTests := true, laidLooks := .later }
def LineJoinsCardSaid : Prop := Claim7.holds Tryd.pinned (.plain (OpenSpec.ofChange lineJoinsSpec)) lineJoinsCard

/-- THE TIED CARD OF 'furrowlaw2.LineSplit'. -/
def lineSplitCard : Claim7 := { stood := { row := lineSplitRow, standIns := [], harness := (true, "8c8a87f680b90be2bade25d8a44f4d7546c51c346d7307ee8777c53ccef1603e"), looks := true }, kinds := [], alts := [], laidByText := true, laidKinds := [.data, .handle, .pinned], laidTests := true, laidLooks := .later }
def LineSplitCardSaid : Prop := Claim7.holds Tryd.pinned (.plain (OpenSpec.ofChange lineSplitSpec)) lineSplitCard

/-- THE TIED CARD OF 'furrowlaw2.LineLong'. -/
def lineLongCard : Claim7 := { stood := { row := lineLongRow, standIns := [], harness := (true, "8c8a87f680b90be2bade25d8a44f4d7546c51c346d7307ee8777c53ccef1603e"), looks := true }, kinds := [], alts := [], laidByText := true, laidKinds := [.data, .handle, .pinned], laidTests := true, laidLooks := .later }
def LineLongCardSaid : Prop := Claim7.holds Tryd.pinned (.plain (OpenSpec.ofChange lineLongSpec)) lineLongCard

/-- THE TIED CARD OF 'furrowlaw2.LineBytes'. -/
def lineBytesCard : Claim7 := { stood := { row := lineBytesRow, standIns := [], harness := (true, "8c8a87f680b90be2bade25d8a44f4d7546c51c346d7307ee8777c53ccef1603e"), looks := true }, kinds := [], alts := [], laidByText := true, laidKinds := [.data, .handle, .pinned], laidTests := true, laidLooks := .later }
def LineBytesCardSaid : Prop := Claim7.holds Tryd.pinned (.plain (OpenSpec.ofChange lineBytesSpec)) lineBytesCard

/-- THE SECOND FORM's CARD OF 'furrowlaw2.LineParts'. -/
def linePartsUptoCard : Claim7 := { stood := { row := linePartsUptoRow, standIns := [], harness := (true, "8c8a87f680b90be2bade25d8a44f4d7546c51c346d7307ee8777c53ccef1603e"), looks := true }, kinds := [], alts := [], laidByText := true, laidKinds := [.data, .pinned], laidTests := true, laidLooks := .later }
def LinePartsUptoCardSaid : Prop := Claim7.holds Tryd.pinned (.plain (OpenSpec.upto linePartsSpec)) linePartsUptoCard

/-- THE SECOND FORM's CARD OF 'furrowlaw2.LineJoins'. -/
def lineJoinsUptoCard : Claim7 := { stood := { row := lineJoinsUptoRow, standIns := [], harness := (true, "8c8a87f680b90be2bade25d8a44f4d7546c51c346d7307ee8777c53ccef1603e"), looks := true }, kinds := [], alts := [], laidByText := true, laidKinds := [.data, .pinned], laidTests := true, laidLooks := .later }
def LineJoinsUptoCardSaid : Prop := Claim7.holds Tryd.pinned (.plain (OpenSpec.upto lineJoinsSpec)) lineJoinsUptoCard

/-- THE SECOND FORM's CARD OF 'furrowlaw2.LineSplit'. -/
def lineSplitUptoCard : Claim7 := { stood := { row := lineSplitUptoRow, standIns := [], harness := (true, "8c8a87f680b90be2bade25d8a44f4d7546c51c346d7307ee8777c53ccef1603e"), looks := true }, kinds := [], alts := [], laidByText := true, laidKinds := [.data, .handle, .pinned], laidTests := true, laidLooks := .later }
def LineSplitUptoCardSaid : Prop := Claim7.holds Tryd.pinned (.plain (OpenSpec.upto lineSplitSpec)) lineSplitUptoCard

/-- THE SECOND FORM's CARD OF 'furrowlaw2.LineLong'. -/
def lineLongUptoCard : Claim7 := { stood := { row := lineLongUptoRow, standIns := [], harness := (true, "8c8a87f680b90be2bade25d8a44f4d7546c51c346d7307ee8777c53ccef1603e"), looks := true }, kinds := [], alts := [], laidByText := true, laidKinds := [.data, .handle, .pinned], laidTests := true, laidLooks := .later }
def LineLongUptoCardSaid : Prop := Claim7.holds Tryd.pinned (.plain (OpenSpec.upto lineLongSpec)) lineLongUptoCard

/-- THE SECOND FORM's CARD OF 'furrowlaw2.LineBytes'. -/
def lineBytesUptoCard : Claim7 := { stood := { row := lineBytesUptoRow, standIns := [], harness := (true, "8c8a87f680b90be2bade25d8a44f4d7546c51c346d7307ee8777c53ccef1603e"), looks := true }, kinds := [], alts := [], laidByText := true, laidKinds := [.data, .handle, .pinned], laidTests := true, laidLooks := .later }
def LineBytesUptoCardSaid : Prop := Claim7.holds Tryd.pinned (.plain (OpenSpec.upto lineBytesSpec)) lineBytesUptoCard
end Rows
end Go.Proofs.YtnecoebdmjkblaaDoor
