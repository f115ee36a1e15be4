/- EditTouch over numbers. -/
import Derived.Test.YteeeoblpfepepaaDoorPureEd
import Derived.Test.YteeeoblpfepepaaDoorPureKnown
import Derived.Test.YteeeoblpfepepaaDoorXx18
import Derived.Laws.Bits64
namespace Go.Proofs.YteeeoblpfepepaaDoor.Pure
open Go.RowKit Go.Proofs.YteeeoblpfepepaaDoor.X Go.Proofs.YteeeoblpfepepaaDoor.Flt Go.Proofs.YteeeoblpfepepaaDoor.H Go.Proofs.YteeeoblpfepepaaDoorW.PrintWords Go.Proofs.YteeeoblpfepepaaDoorW.PrintLast Go.Proofs.YteeeoblpfepepaaDoorW.PrintMore
set_option linter.unusedVariables false
set_option linter.unusedSimpArgs false
theorem u8_of {a : Int} (h : (Lit.int .u8 a).wf = true) : 0 ≤ a ∧ a ≤ 255 := by
  simp only [Lit.wf, IntKind.min, IntKind.max, IntKind.signed, IntKind.bits, Bool.and_eq_true, decide_eq_true_eq] at h
  simp at h
  omega
theorem EditTouch : furrowlaw3_EditTouch.Pure := by
  intro a b c d ha hb hc hd
  replace ha := u8_of ha
  replace hb := u8_of hb
  replace hc := u8_of hc
  replace hd := u8_of hd
  refine ⟨100, ?_⟩
  unfold furrowlaw3_EditTouch.f
  rw [known_more (by omega)]
  simp only [Option.bind_some, if_true]
  rw [Int.tmod_eq_emod_of_nonneg (a := a) ha.1, Int.tmod_eq_emod_of_nonneg (a := b) hb.1, Int.tmod_eq_emod_of_nonneg (a := c) hc.1, Int.tmod_eq_emod_of_nonneg (a := d) hd.1]
  rw [w64 (a := a % 8) (by omega), w64 (a := b % 4) (by omega), w64 (a := c % 14) (by omega), w64 (a := d % 4) (by omega), w64 (a := a % 8 + b % 4) (by omega), w64 (a := c % 14 + d % 4) (by omega)]
  rw [check_spec (by simp) (by simp)]
  have e1 : badE 20 ⟨a % 8, a % 8 + b % 4, []⟩ = false := by
    simp only [badE, Bool.or_eq_false_iff, decide_eq_false_iff_not]; omega
  have e2 : badE 20 ⟨c % 14, c % 14 + d % 4, []⟩ = false := by
    simp only [badE, Bool.or_eq_false_iff, decide_eq_false_iff_not]; omega
  by_cases h : c % 14 > a % 8 + b % 4
  · have e3 : chkS 20 0 none [⟨a % 8, a % 8 + b % 4, []⟩, ⟨c % 14, c % 14 + d % 4, []⟩] = none := by
      simp only [chkS, e1, e2, overE]; simp; omega
    rw [e3]
    simp only [Option.bind_some]
    rw [if_pos h]
    rfl
  · have e3 : chkS 20 0 none [⟨a % 8, a % 8 + b % 4, []⟩, ⟨c % 14, c % 14 + d % 4, []⟩] = some (1, 7) := by
      simp only [chkS, e1, e2, overE]; simp; omega
    rw [e3]
    simp only [Option.bind_some]
    rw [if_neg h]
    unfold furrowlaw3_tells.f
    rw [rat_eq]
    simp only [Option.bind_some]
    rw [show furrowlaw2_Tells.f (fltO (if (20 : Int) < 0 then some (0, 1) else some (1, 7))) (rfE 1 7).1 (rfE 1 7).2 = some true from tells_O (some (1, 7)) (fun y hy => by rw [← Option.some.inj hy]; exact .inr rfl)]
    rfl

end Go.Proofs.YteeeoblpfepepaaDoor.Pure
