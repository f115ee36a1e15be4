/- What the rows' condition on the package-level variables gives a walk; the witness's world; no conditions. -/
import Derived.Test.YtnecoebdmjkblaaDoorRows
import Derived.Test.YtnecoebdmjkblaaDoorProg
import Derived.LaidLaws
import Derived.LaidHandle
import Derived.LaidMore
import Derived.Stop.LaidErr
import Derived.Lib.LaidTab
import Derived.ProofKit
namespace Go.Proofs.YtnecoebdmjkblaaDoor.DoorP
open Go.ChangeShapes Go.WideShapes Go.ChangeAt Go.RowKit
abbrev laidL : List (String × DataW Unit) := [("unicode/utf8.acceptRanges", Rows.laid_unicode_utf8_acceptRanges), ("unicode/utf8.first", Rows.laid_unicode_utf8_first)]
/-- The heap that the program's own start leaves, Go's own table laid as the form pins it. -/
noncomputable def pinW (os : Os) : World := { World.doorLaid Tryd.prog 600 os with heap := (World.doorLaid Tryd.prog 600 os).heap.modify 2 fun o => match o with
  | .cells _ e fr => .cells ((Go.Pinned.utf8FirstZ : List Nat).map fun (n : Nat) => Value.int .u8 (Int.ofNat n)).toArray e fr
  | o => o }
theorem met (os : Os) (args : Array Value) : laidMetH Tryd.prog laidL ((pinW os).forCall (fun _ _ => 0) ⟨#[], args, []⟩).memory :=
  laidMetH_of_parts3 (fuel := 8) (laidMet_of_run' 8 (by kernel_rfl) (by kernel_rfl)) (by kernel_rfl) (by kernel_rfl)
end Go.Proofs.YtnecoebdmjkblaaDoor.DoorP
