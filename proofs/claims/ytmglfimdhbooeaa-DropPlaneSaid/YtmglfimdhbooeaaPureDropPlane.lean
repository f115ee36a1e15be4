/- DropPlane over numbers alone. -/
import Derived.Test.YtmglfimdhbooeaaPureFm2
import Derived.Test.YtmglfimdhbooeaaXx29
import Derived.Laws.Bits64
namespace Go.Proofs.Ytmglfimdhbooeaa.Pure
open Go.RowKit Go.Proofs.Ytmglfimdhbooeaa.X Go.Proofs.Ytmglfimdhbooeaa.Flt Go.Proofs.Ytmglfimdhbooeaa.H Go.Proofs.YtmglfimdhbooeaaW.PrintWords Go.Proofs.YtmglfimdhbooeaaW.PrintLast Go.Proofs.YtmglfimdhbooeaaW.PrintMore
set_option linter.unusedVariables false
set_option linter.unusedSimpArgs false
theorem i8_of' {a : Int} (h : (Lit.int .i8 a).wf = true) : -128 ≤ a ∧ a ≤ 127 := by
  simp only [Lit.wf, IntKind.min, IntKind.max, IntKind.signed, IntKind.bits, Bool.and_eq_true, decide_eq_true_eq, if_true] at h
  omega
theorem all_two {P : Int → Prop} {a b : Int} (ha : P a) (hb : P b) : ∀ z ∈ [a, b], P z := by
  intro z hz
  rcases List.mem_cons.1 hz with rfl | h
  · exact ha
  · rcases List.mem_cons.1 h with rfl | h
    · exact hb
    · cases h
theorem DropPlane : furrowlaw16_DropPlane.Pure := by
  intro a0 a1 a2 a3 w0 w1 w2 w3
  have h0 := i8_of' w0
  have h1 := i8_of' w1
  have h2 := i8_of' w2
  have h3 := i8_of' w3
  refine ⟨300, ?_⟩
  unfold furrowlaw16_DropPlane.f
  rw [known16_more (by omega), Option.bind_some, if_pos rfl]
  simp only [furrowlaw15_F.f, Option.bind_some]
  rw [w64 (a := a0) (by omega), w64 (a := a1) (by omega), w64 (a := a2) (by omega), w64 (a := a3) (by omega), w64 (a := -a0) (by omega), w64 (a := -a1) (by omega)]
  have hr : fm_row.f (280 + 13) (⟨[1, -a0], -a1⟩ : S45).f0 (⟨[1, -a0], -a1⟩ : S45).f1 (⟨[-1, a2], a3⟩ : S45).f0 (⟨[-1, a2], a3⟩ : S45).f1 0 = some ([0, -a0 + a2], -a1 + a3, true) :=
    row_one (l := [1, -a0]) (m := [-1, a2]) (a := -a1) (b := a3) (by omega) rfl (by omega) (by simp) (by simp) rfl rfl (all_two (by unfold inC; omega) (by unfold inC; omega)) (all_two (by unfold inC; omega) (by unfold inC; omega)) (by unfold inC; omega) (by unfold inC; omega)
  have hd := drop_two (k := 280) (n := 2) (i := 0) (p := ⟨[1, -a0], -a1⟩) (q := ⟨[-1, a2], a3⟩) (by omega) (by omega) (by simp) (by simp) (show (0 : Int) < 1 by omega) (show (-1 : Int) < 0 by omega) hr
  rw [hd, Option.bind_some, if_pos rfl]
  dsimp only
  rw [if_pos (by simp), if_pos (by simp), if_pos (by simp), if_pos (by simp [rd_T45]), if_pos (by simp [rd_T45]), if_pos (by simp [rd_T45, rd]), if_pos (by simp [rd_T45])]
  rw [w64 (a := a2 - a0) (by omega), w64 (a := a3 - a1) (by omega)]
  have e1 : rd ((rd_T45 [⟨[0, -a0 + a2], -a1 + a3⟩] 0).f0) 1 = a2 - a0 := by show -a0 + a2 = a2 - a0; omega
  have e2 : (rd_T45 [⟨[0, -a0 + a2], -a1 + a3⟩] 0).f1 = a3 - a1 := by show -a1 + a3 = a3 - a1; omega
  rw [e1, if_pos rfl, e2]
  simp

end Go.Proofs.Ytmglfimdhbooeaa.Pure
