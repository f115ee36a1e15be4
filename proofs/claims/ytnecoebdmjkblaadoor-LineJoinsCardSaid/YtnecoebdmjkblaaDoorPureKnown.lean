/- What the chapter has known answers true. -/
import Derived.Test.YtnecoebdmjkblaaDoorXx5
import Derived.Laws.Bits64
namespace Go.Proofs.YtnecoebdmjkblaaDoor.Pure
open Go.RowKit Go.Proofs.YtnecoebdmjkblaaDoor.X Go.Proofs.YtnecoebdmjkblaaDoor.Flt Go.Proofs.YtnecoebdmjkblaaDoor.H Go.Proofs.YtnecoebdmjkblaaDoorW.PrintWords Go.Proofs.YtnecoebdmjkblaaDoorW.PrintLast Go.Proofs.YtnecoebdmjkblaaDoorW.PrintMore
set_option linter.unusedVariables false
set_option linter.unusedSimpArgs false
theorem known_yes : furrowlaw2_known.f = some true := by decide +kernel

end Go.Proofs.YtnecoebdmjkblaaDoor.Pure
