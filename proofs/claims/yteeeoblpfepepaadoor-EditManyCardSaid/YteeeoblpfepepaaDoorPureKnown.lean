/- What the chapter has known answers true. -/
import Derived.Test.YteeeoblpfepepaaDoorXx14
import Derived.Laws.Bits64
namespace Go.Proofs.YteeeoblpfepepaaDoor.Pure
open Go.RowKit Go.Proofs.YteeeoblpfepepaaDoor.X Go.Proofs.YteeeoblpfepepaaDoor.Flt Go.Proofs.YteeeoblpfepepaaDoor.H Go.Proofs.YteeeoblpfepepaaDoorW.PrintWords Go.Proofs.YteeeoblpfepepaaDoorW.PrintLast Go.Proofs.YteeeoblpfepepaaDoorW.PrintMore
set_option linter.unusedVariables false
set_option linter.unusedSimpArgs false
theorem known_yes : furrowlaw3_known.f 40 = some true := by decide +kernel
theorem known_more {k : Nat} (h : 40 ≤ k) : furrowlaw3_known.f k = some true := by
  obtain ⟨d, rfl⟩ : ∃ d, k = 40 + d := ⟨k - 40, by omega⟩
  clear h
  induction d with
  | zero => exact known_yes
  | succ d ih => exact furrowlaw3_known.mono (40 + d) _ ih

end Go.Proofs.YteeeoblpfepepaaDoor.Pure
