/- Another tree in place of a name: the law's answer. -/
import Derived.Test.YtnkckdbjeemjeaaGreatDoorPureLsub
import Derived.Test.YtnkckdbjeemjeaaGreatDoorPureKnown
import Derived.Test.YtnkckdbjeemjeaaGreatDoorXx30
import Derived.Laws.Bits64
namespace Go.Proofs.YtnkckdbjeemjeaaGreatDoor.Pure
open Go.RowKit Go.Proofs.YtnkckdbjeemjeaaGreatDoor.X Go.Proofs.YtnkckdbjeemjeaaGreatDoor.Flt Go.Proofs.YtnkckdbjeemjeaaGreatDoor.H Go.Proofs.YtnkckdbjeemjeaaGreatDoorW.PrintWords Go.Proofs.YtnkckdbjeemjeaaGreatDoorW.PrintLast Go.Proofs.YtnkckdbjeemjeaaGreatDoorW.PrintMore
set_option linter.unusedVariables false
set_option linter.unusedSimpArgs false
theorem liftsubst_true {a0 a1 b0 b1 : Int} {a2 b2 : ByteArray} {a3 b3 : List S24} (ha : GE ⟨a0, a1, a2, a3⟩) (hb : GE ⟨b0, b1, b2, b3⟩) (s : ByteArray) : ∃ k, furrowlaw12_LiftSubst.f k a0 a1 a2 a3 b0 b1 b2 b3 s = some true := by
  suffices h : Says (fun k => furrowlaw12_LiftSubst.f k a0 a1 a2 a3 b0 b1 b2 b3 s) true from h.elim fun K hK => ⟨K, hK K (Nat.le_refl _)⟩
  obtain ⟨y, hr, sy⟩ := of_spec _ ha
  obtain ⟨v, hv, sv⟩ := of_spec _ hb
  obtain ⟨f1, hf1, few1⟩ := few_spec _ ha
  obtain ⟨f2, hf2, few2⟩ := few_spec _ hb
  simp only at sy sv hf1 hf2
  obtain ⟨z, w, q1, q2, q3⟩ := subst_spec hv s hr
  simp only at q1
  have j0 : ∀ c : Bool, Says (fun k => furrowlaw12_LiftSubst.j0 k s c a0 a1 a2 a3 b0 b1 b2 b3) true := by
    intro c
    cases c with
    | true => exact .step (fun k => furrowlaw12_LiftSubst.j0.eq_2 ..) (.pos rfl .now)
    | false => exact .step (fun k => furrowlaw12_LiftSubst.j0.eq_2 ..) (.neg (by simp) (.bind q1 (.bind (of_rel q3) (.bind sy (.bind sv (.bind q2 (.bind (same_refl q3) .now)))))))
  refine .eq (fun k => furrowlaw12_LiftSubst.f.eq_1 ..) (.bind (v := true) known12 (.pos rfl (.bind hf1 ?_)))
  cases f1 with
  | false => exact .neg (by simp) (j0 true)
  | true =>
  refine .pos rfl (.bind hf2 ?_)
  cases f2 with
  | false => exact .neg (by simp) (j0 true)
  | true =>
  obtain ⟨r1, hr1, _⟩ := right_spec hr (few1 rfl)
  obtain ⟨r2, hr2, _⟩ := right_spec hv (few2 rfl)
  refine .pos rfl (.bind sy (.bind hr1 ?_))
  cases r1 with
  | false => exact .neg (by simp) (j0 true)
  | true =>
  refine .pos rfl (.bind sv (.bind hr2 ?_))
  cases r2 with
  | false => exact .neg (by simp) (j0 true)
  | true => exact .pos rfl (j0 _)

end Go.Proofs.YtnkckdbjeemjeaaGreatDoor.Pure
