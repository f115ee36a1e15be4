/- Plain lemmas: known16, a variable dropped out of two bounds. -/
import Derived.Test.YtmglfimdhbooeaaPureFm1
import Derived.Test.YtmglfimdhbooeaaXx25
import Derived.Test.YtmglfimdhbooeaaXx26
import Derived.Laws.Bits64
namespace Go.Proofs.Ytmglfimdhbooeaa.Pure
open Go.RowKit Go.Proofs.Ytmglfimdhbooeaa.X Go.Proofs.Ytmglfimdhbooeaa.Flt Go.Proofs.Ytmglfimdhbooeaa.H Go.Proofs.YtmglfimdhbooeaaW.PrintWords Go.Proofs.YtmglfimdhbooeaaW.PrintLast Go.Proofs.YtmglfimdhbooeaaW.PrintMore
set_option linter.unusedVariables false
set_option linter.unusedSimpArgs false
/-! a variable dropped out of two bounds -/
theorem drop_two {k : Nat} {n i : Int} {p q : S45} {r : List Int} {s : Int} (h0 : 0 ≤ i) (hn : i < n) (lp : i < (p.f0.length : Int)) (lq : i < (q.f0.length : Int)) (h1 : 0 < rd p.f0 i) (h2 : rd q.f0 i < 0) (hr : fm_row.f (k + 13) p.f0 p.f1 q.f0 q.f1 i = some (r, s, true)) :
    fm_Drop.f (k + 20) n [] [p, q] i = some (n, [], [⟨r, s⟩], true) := by
  have e0 : rd_T45 [p, q] 0 = p := rfl
  have e1 : rd_T45 [p, q] 1 = q := rfl
  have w1 : wrap64 (0 + 1) = 1 := by unfold wrap64; omega
  have w2 : wrap64 (1 + 1) = 2 := by unfold wrap64; omega
  unfold fm_Drop.f
  rw [if_neg (by omega), decide_eq_false (by omega)]
  rw [fm_Drop.j0, if_neg (by simp)]
  rw [fm_Drop.l0, if_pos (by simp), if_pos (by omega), if_pos (by simp), if_pos h0, e0, if_pos lp, if_pos h1, if_pos (by simp), w1]
  rw [fm_Drop.l0, if_pos (by simp), if_pos (by omega), if_pos (by simp), if_pos h0, e1, if_pos lq, if_neg (by omega), if_pos h2, if_pos (by simp), w2]
  rw [fm_Drop.l0, if_neg (by simp)]
  rw [fm_Drop.l1, if_neg (by simp), if_neg (by show ¬ (wrap64 (((0 : Nat) : Int) + wrap64 (((1 : Nat) : Int) * ((1 : Nat) : Int))) > 512); unfold wrap64; omega)]
  have e2 : rd_T45 [p] 0 = p := rfl
  have e3 : rd_T45 [q] 0 = q := rfl
  simp only [List.nil_append]
  rw [fm_Drop.l2, if_pos (by simp), if_pos (by omega), if_pos (by simp), e2]
  rw [fm_Drop.l3, if_pos (by simp), if_pos (by omega), if_pos (by simp), e3, hr, Option.bind_some, if_pos rfl, if_pos (by simp), w1]
  rw [fm_Drop.l3, if_neg (by simp), w1]
  rw [fm_Drop.l2, if_neg (by simp)]
  rfl

theorem known16_yes : furrowlaw16_known.f 200 = some true := by decide +kernel
theorem known16_more {k : Nat} (h : 200 ≤ k) : furrowlaw16_known.f k = some true := by
  obtain ⟨d, rfl⟩ : ∃ d, k = 200 + d := ⟨k - 200, by omega⟩
  clear h
  induction d with
  | zero => exact known16_yes
  | succ d ih => exact furrowlaw16_known.mono (200 + d) _ ih

end Go.Proofs.Ytmglfimdhbooeaa.Pure
