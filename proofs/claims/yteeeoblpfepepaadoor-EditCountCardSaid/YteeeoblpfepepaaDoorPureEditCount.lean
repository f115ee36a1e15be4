/- EditCount over numbers and lists. -/
import Derived.Test.YteeeoblpfepepaaDoorPureEd
import Derived.Test.YteeeoblpfepepaaDoorPureKnown
import Derived.Test.YteeeoblpfepepaaDoorXx18
import Derived.Laws.Bits64
namespace Go.Proofs.YteeeoblpfepepaaDoor.Pure
open Go.RowKit Go.Proofs.YteeeoblpfepepaaDoor.X Go.Proofs.YteeeoblpfepepaaDoor.Flt Go.Proofs.YteeeoblpfepepaaDoor.H Go.Proofs.YteeeoblpfepepaaDoorW.PrintWords Go.Proofs.YteeeoblpfepepaaDoorW.PrintLast Go.Proofs.YteeeoblpfepepaaDoorW.PrintMore
set_option linter.unusedVariables false
set_option linter.unusedSimpArgs false
theorem editcount_true {n : Int} {l : List S38} : furrowlaw3_EditCount.f 100 n l = some true := by
  unfold furrowlaw3_EditCount.f
  rw [known_more (by omega)]
  simp only [Option.bind_some, if_true]
  by_cases c : (l.length : Int) > 20
  · rw [if_pos c]
  · rw [if_neg c, check_spec (by omega) (by omega), of_spec (by omega) (by omega)]
    simp only [Option.bind_some]
    rw [rcheck_spec (by omega) (by omega)]
    simp only [Option.bind_some]
    rw [tells_O]
    · rfl
    · intro y hy
      split at hy
      · exact .inl (by rw [← Option.some.inj hy])
      · exact chkS_code n l _ _ y hy

end Go.Proofs.YteeeoblpfepepaaDoor.Pure
