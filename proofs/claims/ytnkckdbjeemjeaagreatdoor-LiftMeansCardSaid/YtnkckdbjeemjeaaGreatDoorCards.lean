/-
  DERIVED. GIVEN WITH THE SEED: THE CARDS: each row of YtnkckdbjeemjeaaGreatDoorRows.lean that lists a variable, with what it lists TIED to the program's text (the seventh form; the later family's looks); each row that meets fmt, with fmt's text TOLD by the authors' own Lean function (tested against real Go, not proved from fmt's source: count such statements apart). THE CARD IS WHAT COUNTS. Prove the row's statement (the work); the ties are given (YtnkckdbjeemjeaaGreatDoorTie.lean); close each card by the builder's one call (the guide's Derived/Test/ToyasCard.lean, 'card_holds'). Laid BY PROGRAM, IN A SANDBOX (cutbox-door.mjs). By AI agents, Wed Nov 11 2026. No macro, syntax, notation, axiom, sorry.
-/
import Derived.Test.YtnkckdbjeemjeaaGreatDoorRows
import GoSem.ClaimSeven
namespace Go.Proofs.YtnkckdbjeemjeaaGreatDoor
namespace Rows

/-- THE TIED CARD OF 'furrowlaw12.LiftSubst'. -/
def liftSubstCard : Claim7 := { stood := { row := liftSubstRow, standIns := [], harness := (true, "6dc8c4fa86468403c0b15be03cb0d4a203b6581c3cf19fe44993eff3ecf1d31e"), looks := true }, kinds := [], alts := [], laidByText := true, laidKinds := [.data, .data, .data, .handle], laidTests := true, laidLooks := .later }
def LiftSubstCardSaid : Prop := Claim7.holds Tryz.pinned (.plain (OpenSpec.ofChange liftSubstSpec)) liftSubstCard

/-- THE TIED CARD OF 'furrowlaw12.LiftMeans'. -/
def liftMeansCard : Claim7 := { stood := { row := liftMeansRow, standIns := [], harness := (true, "6dc8c4fa86468403c0b15be03cb0d4a203b6581c3cf19fe44993eff3ecf1d31e"), looks := true }, kinds := [], alts := [], laidByText := true, laidKinds := [.data, .data, .data, .handle], laidTests := true, laidLooks := .later }
def LiftMeansCardSaid : Prop := Claim7.holds Tryz.pinned (.plain (OpenSpec.ofChange liftMeansSpec)) liftMeansCard

/-- THE SECOND FORM's CARD OF 'furrowlaw12.LiftSubst'. -/
def liftSubstUptoCard : Claim7 := { stood := { row := liftSubstUptoRow, standIns := [], harness := (true, "6dc8c4fa86468403c0b15be03cb0d4a203b6581c3cf19fe44993eff3ecf1d31e"), looks := true }, kinds := [], alts := [], laidByText := true, laidKinds := [.data, .data, .data, .handle], laidTests := true, laidLooks := .later }
def LiftSubstUptoCardSaid : Prop := Claim7.holds Tryz.pinned (.plain (OpenSpec.upto liftSubstSpec)) liftSubstUptoCard

/-- THE SECOND FORM's CARD OF 'furrowlaw12.LiftMeans'. -/
def liftMeansUptoCard : Claim7 := { stood := { row := liftMeansUptoRow, standIns := [], harness := (true, "6dc8c4fa86468403c0b15be03cb0d4a203b6581c3cf19fe44993eff3ecf1d31e"), looks := true }, kinds := [], alts := [], laidByText := true, laidKinds := [.data, .data, .data, .handle], laidTests := true, laidLooks := .later }
def LiftMeansUptoCardSaid : Prop := Claim7.holds Tryz.pinned (.plain (OpenSpec.upto liftMeansSpec)) liftMeansUptoCard
end Rows
end Go.Proofs.YtnkckdbjeemjeaaGreatDoor
