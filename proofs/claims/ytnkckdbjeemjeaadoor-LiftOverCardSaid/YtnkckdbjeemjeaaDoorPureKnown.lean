/- The memo of the document answers true; no conditions. -/
import Derived.Test.YtnkckdbjeemjeaaDoorPureLo1
import Derived.Test.YtnkckdbjeemjeaaDoorXx12
import Derived.Laws.Bits64
namespace Go.Proofs.YtnkckdbjeemjeaaDoor.Pure
open Go.RowKit Go.Proofs.YtnkckdbjeemjeaaDoor.X Go.Proofs.YtnkckdbjeemjeaaDoor.Flt Go.Proofs.YtnkckdbjeemjeaaDoor.H Go.Proofs.YtnkckdbjeemjeaaDoorW.PrintWords Go.Proofs.YtnkckdbjeemjeaaDoorW.PrintLast Go.Proofs.YtnkckdbjeemjeaaDoorW.PrintMore
set_option linter.unusedVariables false
set_option linter.unusedSimpArgs false
theorem known12 : Says (fun k => furrowlaw12_known.f k) true := Says.more furrowlaw12_known.mono (K := 40) (by decide +kernel)

end Go.Proofs.YtnkckdbjeemjeaaDoor.Pure
