/-
  DERIVED. GIVEN WITH THE SEED: THE CARDS: each row of YtkkpgjkjkcmcbaaDoorRows.lean that lists a variable, with what it lists TIED to the program's text (the seventh form; the later family's looks); each row that meets fmt, with fmt's text TOLD by the authors' own Lean function (tested against real Go, not proved from fmt's source: count such statements apart). THE CARD IS WHAT COUNTS. Prove the row's statement (the work); the ties are given (YtkkpgjkjkcmcbaaDoorTie.lean); close each card by the builder's one call (the guide's Derived/Test/ToyasCard.lean, 'card_holds'). Laid BY PROGRAM, IN A SANDBOX (cutbox-door.mjs). By AI agents, Wed Nov 11 2026. No macro, syntax, notation, axiom, sorry.
-/
import Derived.Test.YtkkpgjkjkcmcbaaDoorRows
import GoSem.ClaimSeven
namespace Go.Proofs.YtkkpgjkjkcmcbaaDoor
namespace Rows

/-- THE TIED CARD OF 'furrowlaw15.SysAny'. -/
def sysAnyCard : Claim7 := { stood := { row := sysAnyRow, standIns := [], harness := (true, "74d00ae616a03772ce0eda20cc7c4a90aed51ca219d2b2efc6ea0a4a579e4b0f"), looks := true }, kinds := [], alts := [], laidByText := true, laidKinds := [.handle], laidTests := true, laidLooks := .later }
def SysAnyCardSaid : Prop := Claim7.holds Tryd.pinned (.plain (OpenSpec.ofChange sysAnySpec)) sysAnyCard

/-- THE TIED CARD OF 'furrowlaw15.SysTight'. -/
def sysTightCard : Claim7 := { stood := { row := sysTightRow, standIns := [], harness := (true, "74d00ae616a03772ce0eda20cc7c4a90aed51ca219d2b2efc6ea0a4a579e4b0f"), looks := true }, kinds := [], alts := [], laidByText := true, laidKinds := [.handle], laidTests := true, laidLooks := .later }
def SysTightCardSaid : Prop := Claim7.holds Tryd.pinned (.plain (OpenSpec.ofChange sysTightSpec)) sysTightCard

/-- THE TIED CARD OF 'furrowlaw15.SysBox'. -/
def sysBoxCard : Claim7 := { stood := { row := sysBoxRow, standIns := [], harness := (true, "74d00ae616a03772ce0eda20cc7c4a90aed51ca219d2b2efc6ea0a4a579e4b0f"), looks := true }, kinds := [], alts := [], laidByText := true, laidKinds := [.handle], laidTests := true, laidLooks := .later }
def SysBoxCardSaid : Prop := Claim7.holds Tryd.pinned (.plain (OpenSpec.ofChange sysBoxSpec)) sysBoxCard

/-- THE SECOND FORM's CARD OF 'furrowlaw15.SysAny'. -/
def sysAnyUptoCard : Claim7 := { stood := { row := sysAnyUptoRow, standIns := [], harness := (true, "74d00ae616a03772ce0eda20cc7c4a90aed51ca219d2b2efc6ea0a4a579e4b0f"), looks := true }, kinds := [], alts := [], laidByText := true, laidKinds := [.handle], laidTests := true, laidLooks := .later }
def SysAnyUptoCardSaid : Prop := Claim7.holds Tryd.pinned (.plain (OpenSpec.upto sysAnySpec)) sysAnyUptoCard

/-- THE SECOND FORM's CARD OF 'furrowlaw15.SysTight'. -/
def sysTightUptoCard : Claim7 := { stood := { row := sysTightUptoRow, standIns := [], harness := (true, "74d00ae616a03772ce0eda20cc7c4a90aed51ca219d2b2efc6ea0a4a579e4b0f"), looks := true }, kinds := [], alts := [], laidByText := true, laidKinds := [.handle], laidTests := true, laidLooks := .later }
def SysTightUptoCardSaid : Prop := Claim7.holds Tryd.pinned (.plain (OpenSpec.upto sysTightSpec)) sysTightUptoCard

/-- THE SECOND FORM's CARD OF 'furrowlaw15.SysBox'. -/
def sysBoxUptoCard : Claim7 := { stood := { row := sysBoxUptoRow, standIns := [], harness := (true, "74d00ae616a03772ce0eda20cc7c4a90aed51ca219d2b2efc6ea0a4a579e4b0f"), looks := true }, kinds := [], alts := [], laidByText := true, laidKinds := [.handle], laidTests := true, laidLooks := .later }
def SysBoxUptoCardSaid : Prop := Claim7.holds Tryd.pinned (.plain (OpenSpec.upto sysBoxSpec)) sysBoxUptoCard
end Rows
end Go.Proofs.YtkkpgjkjkcmcbaaDoor
