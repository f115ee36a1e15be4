/- LineSplit over bytes alone. -/
import Derived.Test.YtnecoebdmjkblaaDoorPureLi3
import Derived.Test.YtnecoebdmjkblaaDoorPureKnown
import Derived.Test.YtnecoebdmjkblaaDoorXx7
import Derived.Laws.Bits64
namespace Go.Proofs.YtnecoebdmjkblaaDoor.Pure
open Go.RowKit Go.Proofs.YtnecoebdmjkblaaDoor.X Go.Proofs.YtnecoebdmjkblaaDoor.Flt Go.Proofs.YtnecoebdmjkblaaDoor.H Go.Proofs.YtnecoebdmjkblaaDoorW.PrintWords Go.Proofs.YtnecoebdmjkblaaDoorW.PrintLast Go.Proofs.YtnecoebdmjkblaaDoorW.PrintMore
set_option linter.unusedVariables false
set_option linter.unusedSimpArgs false
theorem text_tells : furrowlaw2_Tells.f [⟨⟨#[116, 101, 120, 116]⟩, 0, some 4⟩] [⟨⟨#[116, 101, 120, 116]⟩, 0⟩] 4 = some true := by decide +kernel
theorem linesplit_true (l : List UInt8) : ∃ k, furrowlaw2_LineSplit.f k (BA l) = some true := by
  by_cases h7 : 70000 < l.length
  · refine ⟨0, ?_⟩
    unfold furrowlaw2_LineSplit.f
    rw [known_yes, Option.bind_some, if_pos rfl, BA_size, if_pos (by omega)]
  · by_cases h6 : 65536 < l.length
    · refine ⟨1, ?_⟩
      unfold furrowlaw2_LineSplit.f
      rw [known_yes, Option.bind_some, if_pos rfl, BA_size, if_neg (by omega), split_long l h6, Option.bind_some, rsplit_long l h6, Option.bind_some, show furrowlaw2_Tells.f _ _ _ = some true from text_tells, Option.bind_some, if_pos rfl, show furrowref4_SameLines.f 1 _ _ = some true from rfl, Option.bind_some, if_pos rfl, if_neg (by decide)]
    · have hc := lns_count l
      obtain ⟨K, hK⟩ := rsplit_spec l (by omega) (by omega)
      refine ⟨K + (lns l).length + 2, ?_⟩
      unfold furrowlaw2_LineSplit.f
      rw [known_yes, Option.bind_some, if_pos rfl, BA_size, if_neg (by omega), split_spec l (by omega), Option.bind_some, hK _ (by omega), Option.bind_some, tells_fb, Option.bind_some, if_pos rfl]
      cases h : fb 0 (lns l) with
      | none =>
        simp only [splitE, refE]
        rw [same_self _ (by rw [List.length_map]; omega) _ (by rw [List.length_map]; omega), Option.bind_some, if_pos rfl, if_pos True.intro, join_spec _ (by omega) (by rw [lns_flat]; omega), lns_flat, Option.bind_some]
        simp
      | some y =>
        obtain ⟨i, c⟩ := y
        have hcd := fb_code _ _ _ h
        have h0 : ¬ ((refE (lns l) (some (i, c))).2.2 = 0) := by
          show ¬ (c = 0)
          rcases hcd with e | e <;> (simp only at e; omega)
        rw [show furrowref4_SameLines.f _ (splitE (lns l) (some (i, c))).1 (refE (lns l) (some (i, c))).1 = some true from same_self [] (by simp) _ (by simp), Option.bind_some, if_pos rfl, if_neg h0]
theorem LineSplit : furrowlaw2_LineSplit.Pure := fun s _ => linesplit_true s.data.toList

end Go.Proofs.YtnecoebdmjkblaaDoor.Pure
