/- EditDiff over lists. -/
import Derived.Test.YteeeoblpfepepaaDoorPureEd3
import Derived.Test.YteeeoblpfepepaaDoorPureKnown
import Derived.Test.YteeeoblpfepepaaDoorXx16
import Derived.Laws.Bits64
namespace Go.Proofs.YteeeoblpfepepaaDoor.Pure
open Go.RowKit Go.Proofs.YteeeoblpfepepaaDoor.X Go.Proofs.YteeeoblpfepepaaDoor.Flt Go.Proofs.YteeeoblpfepepaaDoor.H Go.Proofs.YteeeoblpfepepaaDoorW.PrintWords Go.Proofs.YteeeoblpfepepaaDoorW.PrintLast Go.Proofs.YteeeoblpfepepaaDoorW.PrintMore
set_option linter.unusedVariables false
set_option linter.unusedSimpArgs false
theorem editdiff_j {x y : List ByteArray} {k : Nat} (hk : 50000 ≤ k) (b : Bool) (hb : b = false → x.length ≤ 40 ∧ y.length ≤ 40) : furrowlaw3_EditDiff.j0 (k + 1) x y b = some true := by
  rw [furrowlaw3_EditDiff.j0]
  cases b with
  | true => rw [if_pos rfl]
  | false =>
    obtain ⟨h1, h2⟩ := hb rfl
    obtain ⟨b1, b2, b3⟩ := cs_le x y
    rw [if_neg (by simp), diff_spec (by omega) (by omega) (by omega)]
    simp only [Option.bind_some]
    rw [rdiff_spec (by omega) (by omega) (by omega)]
    by_cases c : x = y
    · subst c
      rw [if_pos rfl, if_pos rfl, apply_ok (x := x) (l := []) (k := k) ⟨by omega, by simp, by simp⟩ (by omega) trivial]
      simp only [Option.bind_some]
      rw [show furrowlaw3_Same.f k [] [] = some true from same_ok (l := []) (by simp) (by simp) (by omega)]
      simp only [Option.bind_some, if_true, ap, Int.toNat_zero, List.drop_zero, List.length_nil]
      rw [if_pos (by first | trivial | rfl), same_lines (by omega) (by omega)]
      rfl
    · have hp : ∀ e ∈ [dE x y], e.f2.length ≤ 1000 := fun e he => by
        rw [List.mem_singleton.1 he]; simp only [dE, List.length_drop, List.length_take]; omega
      rw [if_neg c, if_neg c, apply_ok ⟨by omega, by simp, hp⟩ (by omega) (dE_ok x y), dE_ap]
      simp only [Option.bind_some]
      rw [show furrowlaw3_Same.f k [dE x y] [toR (dE x y)] = some true from same_ok (l := [dE x y]) (by simp) (fun e he => by have := hp e he; omega) (by omega)]
      simp only [Option.bind_some, if_true, List.length_nil]
      rw [if_pos (by first | trivial | rfl), same_lines (by omega) (by omega)]
      rfl
theorem editdiff_true {x y : List ByteArray} {k : Nat} (hk : 50000 ≤ k) : furrowlaw3_EditDiff.f (k + 1) x y = some true := by
  unfold furrowlaw3_EditDiff.f
  rw [known_more (by omega)]
  simp only [Option.bind_some, if_true]
  by_cases c : (x.length : Int) > 40
  · rw [if_pos c, editdiff_j hk _ (fun h => absurd h (by simp))]
  · rw [if_neg c, editdiff_j hk _ (fun h => by have := of_decide_eq_false h; omega)]

end Go.Proofs.YteeeoblpfepepaaDoor.Pure
