/-
  DERIVED. GIVEN WITH THE SEED: THE CARDS: each row of YteeeoblpfepepaaDoorRows.lean that lists a variable, with what it lists TIED to the program's text (the seventh form; the later family's looks); each row that meets fmt, with fmt's text TOLD by the authors' own Lean function (tested against real Go, not proved from fmt's source: count such statements apart). THE CARD IS WHAT COUNTS. Prove the row's statement (the work); the ties are given (YteeeoblpfepepaaDoorTie.lean); close each card by the builder's one call (the guide's Derived/Test/ToyasCard.lean, 'card_holds'). Laid BY PROGRAM, IN A SANDBOX (cutbox-door.mjs). By AI agents, Wed Nov 11 2026. No macro, syntax, notation, axiom, sorry.
-/
import Derived.Test.YteeeoblpfepepaaDoorRows
import GoSem.ClaimSeven
namespace Go.Proofs.YteeeoblpfepepaaDoor
namespace Rows

/-- THE TIED CARD OF 'furrowlaw3.EditBack'. -/
def editBackCard : Claim7 := { stood := { row := editBackRow, standIns := [], harness := (true, "4dec7a35168f2f4512741e16883af9a8961fd1ca59407d96ae9d475fb358fc5e"), looks := true }, kinds := [], alts := [], laidByText := true, laidKinds := [.handle], laidTests := true, laidLooks := .later }
def EditBackCardSaid : Prop := Claim7.holds Tryd.pinned (.plain (OpenSpec.ofChange editBackSpec)) editBackCard

/-- THE TIED CARD OF 'furrowlaw3.EditDiff'. -/
def editDiffCard : Claim7 := { stood := { row := editDiffRow, standIns := [], harness := (true, "4dec7a35168f2f4512741e16883af9a8961fd1ca59407d96ae9d475fb358fc5e"), looks := true }, kinds := [], alts := [], laidByText := true, laidKinds := [.handle], laidTests := true, laidLooks := .later }
def EditDiffCardSaid : Prop := Claim7.holds Tryd.pinned (.plain (OpenSpec.ofChange editDiffSpec)) editDiffCard

/-- THE TIED CARD OF 'furrowlaw3.EditPlain'. -/
def editPlainCard : Claim7 := { stood := { row := editPlainRow, standIns := [], harness := (true, "4dec7a35168f2f4512741e16883af9a8961fd1ca59407d96ae9d475fb358fc5e"), looks := true }, kinds := [], alts := [], laidByText := true, laidKinds := [.handle], laidTests := true, laidLooks := .later }
def EditPlainCardSaid : Prop := Claim7.holds Tryd.pinned (.plain (OpenSpec.ofChange editPlainSpec)) editPlainCard

/-- THE TIED CARD OF 'furrowlaw3.EditMany'. -/
def editManyCard : Claim7 := { stood := { row := editManyRow, standIns := [], harness := (true, "4dec7a35168f2f4512741e16883af9a8961fd1ca59407d96ae9d475fb358fc5e"), looks := true }, kinds := [], alts := [], laidByText := true, laidKinds := [.handle], laidTests := true, laidLooks := .later }
def EditManyCardSaid : Prop := Claim7.holds Tryd.pinned (.plain (OpenSpec.ofChange editManySpec)) editManyCard

/-- THE TIED CARD OF 'furrowlaw3.EditAny'. -/
def editAnyCard : Claim7 := { stood := { row := editAnyRow, standIns := [], harness := (true, "4dec7a35168f2f4512741e16883af9a8961fd1ca59407d96ae9d475fb358fc5e"), looks := true }, kinds := [], alts := [], laidByText := true, laidKinds := [.handle], laidTests := true, laidLooks := .later }
def EditAnyCardSaid : Prop := Claim7.holds Tryd.pinned (.plain (OpenSpec.ofChange editAnySpec)) editAnyCard

/-- THE TIED CARD OF 'furrowlaw3.EditCount'. -/
def editCountCard : Claim7 := { stood := { row := editCountRow, standIns := [], harness := (true, "4dec7a35168f2f4512741e16883af9a8961fd1ca59407d96ae9d475fb358fc5e"), looks := true }, kinds := [], alts := [], laidByText := true, laidKinds := [.handle], laidTests := true, laidLooks := .later }
def EditCountCardSaid : Prop := Claim7.holds Tryd.pinned (.plain (OpenSpec.ofChange editCountSpec)) editCountCard

/-- THE TIED CARD OF 'furrowlaw3.EditTouch'. -/
def editTouchCard : Claim7 := { stood := { row := editTouchRow, standIns := [], harness := (true, "4dec7a35168f2f4512741e16883af9a8961fd1ca59407d96ae9d475fb358fc5e"), looks := true }, kinds := [], alts := [], laidByText := true, laidKinds := [.handle], laidTests := true, laidLooks := .later }
def EditTouchCardSaid : Prop := Claim7.holds Tryd.pinned (.plain (OpenSpec.ofChange editTouchSpec)) editTouchCard

/-- THE SECOND FORM's CARD OF 'furrowlaw3.EditBack'. -/
def editBackUptoCard : Claim7 := { stood := { row := editBackUptoRow, standIns := [], harness := (true, "4dec7a35168f2f4512741e16883af9a8961fd1ca59407d96ae9d475fb358fc5e"), looks := true }, kinds := [], alts := [], laidByText := true, laidKinds := [.handle], laidTests := true, laidLooks := .later }
def EditBackUptoCardSaid : Prop := Claim7.holds Tryd.pinned (.plain (OpenSpec.upto editBackSpec)) editBackUptoCard

/-- THE SECOND FORM's CARD OF 'furrowlaw3.EditDiff'. -/
def editDiffUptoCard : Claim7 := { stood := { row := editDiffUptoRow, standIns := [], harness := (true, "4dec7a35168f2f4512741e16883af9a8961fd1ca59407d96ae9d475fb358fc5e"), looks := true }, kinds := [], alts := [], laidByText := true, laidKinds := [.handle], laidTests := true, laidLooks := .later }
def EditDiffUptoCardSaid : Prop := Claim7.holds Tryd.pinned (.plain (OpenSpec.upto editDiffSpec)) editDiffUptoCard

/-- THE SECOND FORM's CARD OF 'furrowlaw3.EditPlain'. -/
def editPlainUptoCard : Claim7 := { stood := { row := editPlainUptoRow, standIns := [], harness := (true, "4dec7a35168f2f4512741e16883af9a8961fd1ca59407d96ae9d475fb358fc5e"), looks := true }, kinds := [], alts := [], laidByText := true, laidKinds := [.handle], laidTests := true, laidLooks := .later }
def EditPlainUptoCardSaid : Prop := Claim7.holds Tryd.pinned (.plain (OpenSpec.upto editPlainSpec)) editPlainUptoCard

/-- THE SECOND FORM's CARD OF 'furrowlaw3.EditMany'. -/
def editManyUptoCard : Claim7 := { stood := { row := editManyUptoRow, standIns := [], harness := (true, "4dec7a35168f2f4512741e16883af9a8961fd1ca59407d96ae9d475fb358fc5e"), looks := true }, kinds := [], alts := [], laidByText := true, laidKinds := [.handle], laidTests := true, laidLooks := .later }
def EditManyUptoCardSaid : Prop := Claim7.holds Tryd.pinned (.plain (OpenSpec.upto editManySpec)) editManyUptoCard

/-- THE SECOND FORM's CARD OF 'furrowlaw3.EditAny'. -/
def editAnyUptoCard : Claim7 := { stood := { row := editAnyUptoRow, standIns := [], harness := (true, "4dec7a35168f2f4512741e16883af9a8961fd1ca59407d96ae9d475fb358fc5e"), looks := true }, kinds := [], alts := [], laidByText := true, laidKinds := [.handle], laidTests := true, laidLooks := .later }
def EditAnyUptoCardSaid : Prop := Claim7.holds Tryd.pinned (.plain (OpenSpec.upto editAnySpec)) editAnyUptoCard

/-- THE SECOND FORM's CARD OF 'furrowlaw3.EditCount'. -/
def editCountUptoCard : Claim7 := { stood := { row := editCountUptoRow, standIns := [], harness := (true, "4dec7a35168f2f4512741e16883af9a8961fd1ca59407d96ae9d475fb358fc5e"), looks := true }, kinds := [], alts := [], laidByText := true, laidKinds := [.handle], laidTests := true, laidLooks := .later }
def EditCountUptoCardSaid : Prop := Claim7.holds Tryd.pinned (.plain (OpenSpec.upto editCountSpec)) editCountUptoCard

/-- THE SECOND FORM's CARD OF 'furrowlaw3.EditTouch'. -/
def editTouchUptoCard : Claim7 := { stood := { row := editTouchUptoRow, standIns := [], harness := (true, "4dec7a35168f2f4512741e16883af9a8961fd1ca59407d96ae9d475fb358fc5e"), looks := true }, kinds := [], alts := [], laidByText := true, laidKinds := [.handle], laidTests := true, laidLooks := .later }
def EditTouchUptoCardSaid : Prop := Claim7.holds Tryd.pinned (.plain (OpenSpec.upto editTouchSpec)) editTouchUptoCard
end Rows
end Go.Proofs.YteeeoblpfepepaaDoor
