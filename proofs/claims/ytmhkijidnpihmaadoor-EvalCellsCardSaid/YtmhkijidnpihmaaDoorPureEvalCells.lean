/- EvalCells over numbers alone. -/
import Derived.Test.YtmhkijidnpihmaaDoorXx8
import Derived.Laws.Bits64
namespace Go.Proofs.YtmhkijidnpihmaaDoor.Pure
open Go.RowKit Go.Proofs.YtmhkijidnpihmaaDoor.X Go.Proofs.YtmhkijidnpihmaaDoor.Flt Go.Proofs.YtmhkijidnpihmaaDoor.H Go.Proofs.YtmhkijidnpihmaaDoorW.PrintWords Go.Proofs.YtmhkijidnpihmaaDoorW.PrintLast Go.Proofs.YtmhkijidnpihmaaDoorW.PrintMore
set_option linter.unusedVariables false
set_option linter.unusedSimpArgs false
theorem u8_of {a : Int} (h : (Lit.int .u8 a).wf = true) : 0 ≤ a ∧ a ≤ 255 := by
  simp only [Lit.wf, IntKind.min, IntKind.max, IntKind.signed, IntKind.bits, Bool.and_eq_true, decide_eq_true_eq] at h
  simp at h
  omega

theorem cells_all : ∀ r s : Fin 8, furrowlaw9_EvalCells.f 200 (r.val : Int) (s.val : Int) = some true := by decide +kernel
theorem tm8 {a : Int} (h : 0 ≤ a) : ∃ r : Fin 8, Int.tmod a 8 = (r.val : Int) ∧ Int.tmod (r.val : Int) 8 = (r.val : Int) := by
  refine ⟨⟨(a % 8).toNat, by omega⟩, ?_, ?_⟩
  · rw [Int.tmod_eq_emod_of_nonneg h]; simp; omega
  · rw [Int.tmod_eq_emod_of_nonneg (by omega)]; simp; omega
theorem evalcells_true {a b : Int} (ha : 0 ≤ a) (hb : 0 ≤ b) : furrowlaw9_EvalCells.f 200 a b = some true := by
  obtain ⟨r, hr, hr'⟩ := tm8 ha
  obtain ⟨s, hs, hs'⟩ := tm8 hb
  have h := cells_all r s
  unfold furrowlaw9_EvalCells.f at h ⊢
  rw [hr', hs'] at h
  rw [hr, hs]; exact h
theorem EvalCells : furrowlaw9_EvalCells.Pure := fun a b h h' => ⟨200, evalcells_true (u8_of h).1 (u8_of h').1⟩

end Go.Proofs.YtmhkijidnpihmaaDoor.Pure
