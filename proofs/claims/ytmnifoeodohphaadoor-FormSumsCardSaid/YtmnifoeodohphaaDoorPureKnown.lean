/- What the chapter has known answers true. -/
import Derived.Test.YtmnifoeodohphaaDoorPureLin
import Derived.Test.YtmnifoeodohphaaDoorXx9
import Derived.Laws.Bits64
namespace Go.Proofs.YtmnifoeodohphaaDoor.Pure
open Go.RowKit Go.Proofs.YtmnifoeodohphaaDoor.X Go.Proofs.YtmnifoeodohphaaDoor.Flt Go.Proofs.YtmnifoeodohphaaDoor.H Go.Proofs.YtmnifoeodohphaaDoorW.PrintWords Go.Proofs.YtmnifoeodohphaaDoorW.PrintLast Go.Proofs.YtmnifoeodohphaaDoorW.PrintMore
set_option linter.unusedVariables false
set_option linter.unusedSimpArgs false
theorem known_yes : furrowlaw11_known.f 40 = some true := by decide +kernel
theorem known_more {k : Nat} (h : 40 ≤ k) : furrowlaw11_known.f k = some true := by
  obtain ⟨d, rfl⟩ : ∃ d, k = 40 + d := ⟨k - 40, by omega⟩
  clear h
  induction d with
  | zero => exact known_yes
  | succ d ih => exact furrowlaw11_known.mono (40 + d) _ ih

end Go.Proofs.YtmnifoeodohphaaDoor.Pure
