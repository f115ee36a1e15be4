/-
  DERIVED. GIVEN WITH THE SEED: THE CARDS: each row of YtnkckdbjeemjeaaDoorRows.lean that lists a variable, with what it lists TIED to the program's text (the seventh form; the later family's looks); each row that meets fmt, with fmt's text TOLD by the authors' own Lean function (tested against real Go, not proved from fmt's source: count such statements apart). THE CARD IS WHAT COUNTS. Prove the row's statement (the work); the ties are given (YtnkckdbjeemjeaaDoorTie.lean); close each card by the builder's one call (the guide's Derived/Test/ToyasCard.lean, 'card_holds'). Laid BY PROGRAM, IN A SANDBOX (cutbox-door.mjs). By AI agents, Wed Nov 11 2026. No macro, syntax, notation, axiom, sorry.
-/
import Derived.Test.YtnkckdbjeemjeaaDoorRows
import GoSem.ClaimSeven
namespace Go.Proofs.YtnkckdbjeemjeaaDoor
namespace Rows

/-- THE TIED CARD OF 'furrowlaw12.LiftLinear'. -/
def liftLinearCard : Claim7 := { stood := { row := liftLinearRow, standIns := [], harness := (true, "b0258070236105b1d579a5f59aed9405b378c5b9acf2ff44a44afa95ea72579d"), looks := true }, kinds := [], alts := [], laidByText := true, laidKinds := [.data, .data, .data, .handle], laidTests := true, laidLooks := .later }
def LiftLinearCardSaid : Prop := Claim7.holds Tryd.pinned (.plain (OpenSpec.ofChange liftLinearSpec)) liftLinearCard

/-- THE TIED CARD OF 'furrowlaw12.LiftOver'. -/
def liftOverCard : Claim7 := { stood := { row := liftOverRow, standIns := [], harness := (true, "b0258070236105b1d579a5f59aed9405b378c5b9acf2ff44a44afa95ea72579d"), looks := true }, kinds := [], alts := [], laidByText := true, laidKinds := [.data, .data, .data, .handle], laidTests := true, laidLooks := .later }
def LiftOverCardSaid : Prop := Claim7.holds Tryd.pinned (.plain (OpenSpec.ofChange liftOverSpec)) liftOverCard

/-- THE SECOND FORM's CARD OF 'furrowlaw12.LiftLinear'. -/
def liftLinearUptoCard : Claim7 := { stood := { row := liftLinearUptoRow, standIns := [], harness := (true, "b0258070236105b1d579a5f59aed9405b378c5b9acf2ff44a44afa95ea72579d"), looks := true }, kinds := [], alts := [], laidByText := true, laidKinds := [.data, .data, .data, .handle], laidTests := true, laidLooks := .later }
def LiftLinearUptoCardSaid : Prop := Claim7.holds Tryd.pinned (.plain (OpenSpec.upto liftLinearSpec)) liftLinearUptoCard

/-- THE SECOND FORM's CARD OF 'furrowlaw12.LiftOver'. -/
def liftOverUptoCard : Claim7 := { stood := { row := liftOverUptoRow, standIns := [], harness := (true, "b0258070236105b1d579a5f59aed9405b378c5b9acf2ff44a44afa95ea72579d"), looks := true }, kinds := [], alts := [], laidByText := true, laidKinds := [.data, .data, .data, .handle], laidTests := true, laidLooks := .later }
def LiftOverUptoCardSaid : Prop := Claim7.holds Tryd.pinned (.plain (OpenSpec.upto liftOverSpec)) liftOverUptoCard
end Rows
end Go.Proofs.YtnkckdbjeemjeaaDoor
