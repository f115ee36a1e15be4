/-
  DERIVED. GIVEN WITH THE SEED: THE CARDS: each row of YtmhkijidnpihmaaDoorRows.lean that lists a variable, with what it lists TIED to the program's text (the seventh form; the later family's looks); each row that meets fmt, with fmt's text TOLD by the authors' own Lean function (tested against real Go, not proved from fmt's source: count such statements apart). THE CARD IS WHAT COUNTS. Prove the row's statement (the work); the ties are given (YtmhkijidnpihmaaDoorTie.lean); close each card by the builder's one call (the guide's Derived/Test/ToyasCard.lean, 'card_holds'). Laid BY PROGRAM, IN A SANDBOX (cutbox-door.mjs). By AI agents, Wed Nov 11 2026. No macro, syntax, notation, axiom, sorry.
-/
import Derived.Test.YtmhkijidnpihmaaDoorRows
import GoSem.ClaimSeven
namespace Go.Proofs.YtmhkijidnpihmaaDoor
namespace Rows

/-- THE TIED CARD OF 'furrowlaw9.EvalAny'. -/
def evalAnyCard : Claim7 := { stood := { row := evalAnyRow, standIns := [], harness := (true, "8b23136a6b5e1dd9b48d497a4268cefe844b6cfe9b3b7751611086c3cf40016b"), looks := true }, kinds := [], alts := [], laidByText := true, laidKinds := [.handle], laidTests := true, laidLooks := .later }
def EvalAnyCardSaid : Prop := Claim7.holds Tryd.pinned (.plain (OpenSpec.ofChange evalAnySpec)) evalAnyCard

/-- THE TIED CARD OF 'furrowlaw9.EvalConds'. -/
def evalCondsCard : Claim7 := { stood := { row := evalCondsRow, standIns := [], harness := (true, "8b23136a6b5e1dd9b48d497a4268cefe844b6cfe9b3b7751611086c3cf40016b"), looks := true }, kinds := [], alts := [], laidByText := true, laidKinds := [.handle], laidTests := true, laidLooks := .later }
def EvalCondsCardSaid : Prop := Claim7.holds Tryd.pinned (.plain (OpenSpec.ofChange evalCondsSpec)) evalCondsCard

/-- THE TIED CARD OF 'furrowlaw9.EvalCells'. -/
def evalCellsCard : Claim7 := { stood := { row := evalCellsRow, standIns := [], harness := (true, "8b23136a6b5e1dd9b48d497a4268cefe844b6cfe9b3b7751611086c3cf40016b"), looks := true }, kinds := [], alts := [], laidByText := true, laidKinds := [.handle], laidTests := true, laidLooks := .later }
def EvalCellsCardSaid : Prop := Claim7.holds Tryd.pinned (.plain (OpenSpec.ofChange evalCellsSpec)) evalCellsCard

/-- THE TIED CARD OF 'furrowlaw9.EvalNums'. -/
def evalNumsCard : Claim7 := { stood := { row := evalNumsRow, standIns := [], harness := (true, "8b23136a6b5e1dd9b48d497a4268cefe844b6cfe9b3b7751611086c3cf40016b"), looks := true }, kinds := [], alts := [], laidByText := true, laidKinds := [.handle], laidTests := true, laidLooks := .later }
def EvalNumsCardSaid : Prop := Claim7.holds Tryd.pinned (.plain (OpenSpec.ofChange evalNumsSpec)) evalNumsCard

/-- THE SECOND FORM's CARD OF 'furrowlaw9.EvalAny'. -/
def evalAnyUptoCard : Claim7 := { stood := { row := evalAnyUptoRow, standIns := [], harness := (true, "8b23136a6b5e1dd9b48d497a4268cefe844b6cfe9b3b7751611086c3cf40016b"), looks := true }, kinds := [], alts := [], laidByText := true, laidKinds := [.handle], laidTests := true, laidLooks := .later }
def EvalAnyUptoCardSaid : Prop := Claim7.holds Tryd.pinned (.plain (OpenSpec.upto evalAnySpec)) evalAnyUptoCard

/-- THE SECOND FORM's CARD OF 'furrowlaw9.EvalConds'. -/
def evalCondsUptoCard : Claim7 := { stood := { row := evalCondsUptoRow, standIns := [], harness := (true, "8b23136a6b5e1dd9b48d497a4268cefe844b6cfe9b3b7751611086c3cf40016b"), looks := true }, kinds := [], alts := [], laidByText := true, laidKinds := [.handle], laidTests := true, laidLooks := .later }
def EvalCondsUptoCardSaid : Prop := Claim7.holds Tryd.pinned (.plain (OpenSpec.upto evalCondsSpec)) evalCondsUptoCard

/-- THE SECOND FORM's CARD OF 'furrowlaw9.EvalCells'. -/
def evalCellsUptoCard : Claim7 := { stood := { row := evalCellsUptoRow, standIns := [], harness := (true, "8b23136a6b5e1dd9b48d497a4268cefe844b6cfe9b3b7751611086c3cf40016b"), looks := true }, kinds := [], alts := [], laidByText := true, laidKinds := [.handle], laidTests := true, laidLooks := .later }
def EvalCellsUptoCardSaid : Prop := Claim7.holds Tryd.pinned (.plain (OpenSpec.upto evalCellsSpec)) evalCellsUptoCard

/-- THE SECOND FORM's CARD OF 'furrowlaw9.EvalNums'. -/
def evalNumsUptoCard : Claim7 := { stood := { row := evalNumsUptoRow, standIns := [], harness := (true, "8b23136a6b5e1dd9b48d497a4268cefe844b6cfe9b3b7751611086c3cf40016b"), looks := true }, kinds := [], alts := [], laidByText := true, laidKinds := [.handle], laidTests := true, laidLooks := .later }
def EvalNumsUptoCardSaid : Prop := Claim7.holds Tryd.pinned (.plain (OpenSpec.upto evalNumsSpec)) evalNumsUptoCard
end Rows
end Go.Proofs.YtmhkijidnpihmaaDoor
