/- What the chapter has known answers true. -/
import Derived.Test.YtkkpgjkjkcmcbaaDoorXx20
import Derived.Laws.Bits64
namespace Go.Proofs.YtkkpgjkjkcmcbaaDoor.Pure
open Go.RowKit Go.Proofs.YtkkpgjkjkcmcbaaDoor.X Go.Proofs.YtkkpgjkjkcmcbaaDoor.Flt Go.Proofs.YtkkpgjkjkcmcbaaDoor.H Go.Proofs.YtkkpgjkjkcmcbaaDoorW.PrintWords Go.Proofs.YtkkpgjkjkcmcbaaDoorW.PrintLast Go.Proofs.YtkkpgjkjkcmcbaaDoorW.PrintMore
set_option linter.unusedVariables false
set_option linter.unusedSimpArgs false
theorem known15_yes : furrowlaw15_known.f 100 = some true := by decide +kernel
theorem known15_more {k : Nat} (h : 100 ≤ k) : furrowlaw15_known.f k = some true := by
  obtain ⟨d, rfl⟩ : ∃ d, k = 100 + d := ⟨k - 100, by omega⟩
  clear h
  induction d with
  | zero => exact known15_yes
  | succ d ih => exact furrowlaw15_known.mono (100 + d) _ ih

end Go.Proofs.YtkkpgjkjkcmcbaaDoor.Pure
