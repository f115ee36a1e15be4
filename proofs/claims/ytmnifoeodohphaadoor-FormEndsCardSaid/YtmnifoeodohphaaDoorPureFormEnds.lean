/- FormEnds over numbers alone. -/
import Derived.Test.YtmnifoeodohphaaDoorPureKnown
import Derived.Test.YtmnifoeodohphaaDoorXx19
import Derived.Laws.Bits64
namespace Go.Proofs.YtmnifoeodohphaaDoor.Pure
open Go.RowKit Go.Proofs.YtmnifoeodohphaaDoor.X Go.Proofs.YtmnifoeodohphaaDoor.Flt Go.Proofs.YtmnifoeodohphaaDoor.H Go.Proofs.YtmnifoeodohphaaDoorW.PrintWords Go.Proofs.YtmnifoeodohphaaDoorW.PrintLast Go.Proofs.YtmnifoeodohphaaDoorW.PrintMore
set_option linter.unusedVariables false
set_option linter.unusedSimpArgs false
theorem i16_of {a : Int} (h : (Lit.int .i16 a).wf = true) : -32768 ≤ a ∧ a ≤ 32767 := by
  simp only [Lit.wf, IntKind.min, IntKind.max, IntKind.signed, IntKind.bits, Bool.and_eq_true, decide_eq_true_eq, if_true] at h
  omega
theorem i32_of {a : Int} (h : (Lit.int .i32 a).wf = true) : -2147483648 ≤ a ∧ a ≤ 2147483647 := by
  simp only [Lit.wf, IntKind.min, IntKind.max, IntKind.signed, IntKind.bits, Bool.and_eq_true, decide_eq_true_eq, if_true] at h
  omega
theorem u16_of {a : Int} (h : (Lit.int .u16 a).wf = true) : 0 ≤ a ∧ a ≤ 65535 := by
  simp only [Lit.wf, IntKind.min, IntKind.max, IntKind.signed, IntKind.bits, Bool.and_eq_true, decide_eq_true_eq] at h
  simp at h
  omega
theorem at_one {c x K : Int} (hc : -32768 ≤ c ∧ c ≤ 32767) (hx : -32769 ≤ x ∧ x ≤ 98304) (hK : -2147483648 ≤ K ∧ K ≤ 2147483647) : atS [c] [x] 0 K = (c * x + K, []) := by
  have h := @mul_bd c x 32768 98304 (by omega) (by omega)
  simp only [atS]
  rw [Int.zero_add, if_pos (by unfold inR; omega), if_pos (by unfold inR; omega), if_pos (by unfold inR; omega)]
theorem FormEnds : furrowlaw11_FormEnds.Pure := by
  intro c K lo n hc hK hlo hn
  replace hc := i16_of hc
  replace hK := i32_of hK
  replace hlo := i16_of hlo
  replace hn := u16_of hn
  refine ⟨40, ?_⟩
  unfold furrowlaw11_FormEnds.f
  rw [known_yes]
  simp only [Option.bind_some, if_true]
  rw [w64 (a := c) (by omega), w64 (a := K) (by omega), w64 (a := lo) (by omega), w64 (a := n) (by omega), w64 (a := lo + n) (by omega), w64 (a := lo + n + 1) (by omega)]
  have rc : ∀ z ∈ [c], inR z := by intro z hz; simp at hz; subst hz; unfold inR; omega
  have ra : ∀ z ∈ [lo], inR z := by intro z hz; simp at hz; subst hz; unfold inR; omega
  have rb : ∀ z ∈ [lo + n], inR z := by intro z hz; simp at hz; subst hz; unfold inR; omega
  have rd' : ∀ z ∈ [lo + n + 1], inR z := by intro z hz; simp at hz; subst hz; unfold inR; omega
  have rK : inR K := by unfold inR; omega
  rw [range_spec (l := [c]) (lo := [lo]) (hi := [lo + n]) rfl rfl rc ra rb rK (by simp) (by simp), at_spec (l := [c]) (x := [lo]) rfl rc ra rK (by simp) (by simp), at_spec (l := [c]) (x := [lo + n]) rfl rc rb rK (by simp) (by simp), range_spec (l := [c]) (lo := [lo + n + 1]) (hi := [lo]) rfl rfl rc rd' ra rK (by simp) (by simp)]
  have b1 : badS [lo] [lo + n] = false := by simp only [badS]; rw [decide_eq_false (by omega)]; rfl
  have b2 : badS [lo + n + 1] [lo] = true := by simp only [badS]; rw [decide_eq_true (by omega)]; rfl
  rw [b1, b2]
  have ea := at_one hc (x := lo) (by omega) hK
  have eb := at_one hc (x := lo + n) (by omega) hK
  have m1 := @mul_bd c lo 32768 98304 (by omega) (by omega)
  have m2 := @mul_bd c (lo + n) 32768 98304 (by omega) (by omega)
  have hm : c * (lo + n) = c * lo + c * n := Int.mul_add _ _ _
  have hs : (0 ≤ c → 0 ≤ c * n) ∧ (c ≤ 0 → c * n ≤ 0) := ⟨fun h => Int.mul_nonneg h hn.1, fun h => Int.mul_nonpos_of_nonpos_of_nonneg h hn.1⟩
  simp only [Option.bind_some, if_true, Bool.false_eq_true, if_false, ea, eb]
  rw [w64 (a := c * lo) (by omega), w64 (a := c * lo + K) (by omega)]
  by_cases h : c < 0
  · have e : endS [c] K (lows [c] [lo] [lo + n]) (highs [c] [lo] [lo + n]) = (c * (lo + n) + K, c * lo + K, []) := by
      simp only [lows, highs, if_pos h, endS, ea, eb]; rfl
    rw [e]
    have h1 : c * (lo + n) + K = mn (c * lo + K) (c * (lo + n) + K) := by unfold mn; split <;> omega
    have h2 : c * lo + K = mx (c * lo + K) (c * (lo + n) + K) := by unfold mx; split <;> omega
    simp [fltE, ← h1, ← h2]
  · have e : endS [c] K (lows [c] [lo] [lo + n]) (highs [c] [lo] [lo + n]) = (c * lo + K, c * (lo + n) + K, []) := by
      simp only [lows, highs, if_neg h, endS, ea, eb]; rfl
    rw [e]
    have h1 : c * lo + K = mn (c * lo + K) (c * (lo + n) + K) := by unfold mn; split <;> omega
    have h2 : c * (lo + n) + K = mx (c * lo + K) (c * (lo + n) + K) := by unfold mx; split <;> omega
    simp [fltE, ← h1, ← h2]

end Go.Proofs.YtmnifoeodohphaaDoor.Pure
