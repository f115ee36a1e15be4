/- The memo of the document answers true; no conditions. -/
import Derived.Test.YtnkckdbjeemjeaaGreatDoorPureEv1
import Derived.Test.YtnkckdbjeemjeaaGreatDoorXx28
import Derived.Laws.Bits64
namespace Go.Proofs.YtnkckdbjeemjeaaGreatDoor.Pure
open Go.RowKit Go.Proofs.YtnkckdbjeemjeaaGreatDoor.X Go.Proofs.YtnkckdbjeemjeaaGreatDoor.Flt Go.Proofs.YtnkckdbjeemjeaaGreatDoor.H Go.Proofs.YtnkckdbjeemjeaaGreatDoorW.PrintWords Go.Proofs.YtnkckdbjeemjeaaGreatDoorW.PrintLast Go.Proofs.YtnkckdbjeemjeaaGreatDoorW.PrintMore
set_option linter.unusedVariables false
set_option linter.unusedSimpArgs false
theorem known12 : Says (fun k => furrowlaw12_known.f k) true := Says.more furrowlaw12_known.mono (K := 40) (by decide +kernel)

end Go.Proofs.YtnkckdbjeemjeaaGreatDoor.Pure
