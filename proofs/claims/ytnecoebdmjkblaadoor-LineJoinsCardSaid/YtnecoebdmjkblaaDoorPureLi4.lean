/- Texts put together. -/
import Derived.Test.YtnecoebdmjkblaaDoorPureLi3
import Derived.Laws.Bits64
namespace Go.Proofs.YtnecoebdmjkblaaDoor.Pure
open Go.RowKit Go.Proofs.YtnecoebdmjkblaaDoor.X Go.Proofs.YtnecoebdmjkblaaDoor.Flt Go.Proofs.YtnecoebdmjkblaaDoor.H Go.Proofs.YtnecoebdmjkblaaDoorW.PrintWords Go.Proofs.YtnecoebdmjkblaaDoorW.PrintLast Go.Proofs.YtnecoebdmjkblaaDoorW.PrintMore
set_option linter.unusedVariables false
set_option linter.unusedSimpArgs false
/-! texts put together -/
theorem BA_app (a b : List UInt8) : BA a ++ BA b = BA (a ++ b) := by
  apply ByteArray.ext; apply Array.ext'; simp [ByteArray.data_append]
def rowX : List UInt8 := [120, 32, 61, 32, 49, 10]
theorem lns_rows (t : List UInt8) : ∀ m : Nat, lns ((List.replicate m rowX).flatten ++ t) = List.replicate m rowX ++ lns t
  | 0 => rfl
  | m + 1 => by
    have h : (List.replicate (m + 1) rowX).flatten ++ t = [120, 32, 61, 32, 49] ++ 10 :: ((List.replicate m rowX).flatten ++ t) := by
      rw [List.replicate_succ]; rfl
    rw [h, lns_cut _ _ (by decide), lns_rows t m, List.replicate_succ]; rfl
theorem fb_rows (ls : List (List UInt8)) : ∀ (m i : Nat), fb i (List.replicate m rowX ++ ls) = fb (i + m) ls
  | 0, i => rfl
  | m + 1, i => by
    rw [List.replicate_succ, List.cons_append]
    conv => lhs; unfold fb
    have h : chk rowX = none := by decide +kernel
    rw [h]
    show fb (i + 1) _ = _
    rw [fb_rows ls m (i + 1)]; congr 1; omega
theorem u8_of {a : Int} (h : (Lit.int .u8 a).wf = true) : 0 ≤ a ∧ a ≤ 255 := by
  simp only [Lit.wf, IntKind.min, IntKind.max, IntKind.signed, IntKind.bits, Bool.and_eq_true, decide_eq_true_eq] at h
  simp at h
  omega

end Go.Proofs.YtnecoebdmjkblaaDoor.Pure
