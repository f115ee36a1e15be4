/- The law's first look, known, as the printed walks name it; no conditions. -/
import Derived.Test.YtaoanbebgeeicaaGreatDoorG17
namespace Go.Proofs.YtaoanbebgeeicaaGreatDoor.H
open Go Go.RowKit
set_option linter.unusedVariables false
/-- What is known of the package-level variables. -/
structure Glob (w : World) : Prop where
  err : ErrTy w
theorem Glob.below {w W : World} (h : Glob w) (hb : Below w.heap.size w W) : Glob W := ⟨ErrTy.below h.err hb⟩
def furrowlaw13_known.f : Option Bool := some true
theorem furrowlaw13_known.calls (w : World) (hG : Glob w) (h : furrowlaw13_known.f = some true) : Calls Tryz.prog 6 #[] w fun e w' => e = .returned (.bool true) ∧ Below w.heap.size w w' :=
  Go.Proofs.YtaoanbebgeeicaaGreatDoor.G.known_true hG.err hG.err.lt
end Go.Proofs.YtaoanbebgeeicaaGreatDoor.H
