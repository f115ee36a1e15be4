/- EditBack over lists. -/
import Derived.Test.YteeeoblpfepepaaDoorPureEd2
import Derived.Test.YteeeoblpfepepaaDoorPureKnown
import Derived.Test.YteeeoblpfepepaaDoorXx15
import Derived.Laws.Bits64
namespace Go.Proofs.YteeeoblpfepepaaDoor.Pure
open Go.RowKit Go.Proofs.YteeeoblpfepepaaDoor.X Go.Proofs.YteeeoblpfepepaaDoor.Flt Go.Proofs.YteeeoblpfepepaaDoor.H Go.Proofs.YteeeoblpfepepaaDoorW.PrintWords Go.Proofs.YteeeoblpfepepaaDoorW.PrintLast Go.Proofs.YteeeoblpfepepaaDoorW.PrintMore
set_option linter.unusedVariables false
set_option linter.unusedSimpArgs false
theorem editback_true {x : List ByteArray} {l : List S38} {k : Nat} (hk : 50000 ≤ k) : furrowlaw3_EditBack.f (k + 1) x l = some true := by
  unfold furrowlaw3_EditBack.f
  rw [known_more (by omega)]
  simp only [Option.bind_some, if_true]
  obtain ⟨b, hb, hb2⟩ := few_spec (x := x) (l := l) (k := k + 1) (by omega)
  rw [hb]
  simp only [Option.bind_some]
  cases b with
  | false => rw [if_neg (by simp)]
  | true =>
    rw [if_pos rfl]
    obtain ⟨h1, h2, h3⟩ := hb2 rfl
    have hF : Few x l := ⟨by omega, by omega, fun e he => by have := h3 e he; omega⟩
    cases hc : chkS x.length 0 none l with
    | none =>
      have ho := (chk_ok l 0 none).1 hc
      have h4 := ap_length l 0 (ok_none ho (by omega)) (by omega) (by omega)
      have h5 : tot l ≤ 400 := Nat.le_trans (tot_le (b := 20) h3) (by omega)
      obtain ⟨q1, q2⟩ := back_back ho
      have hF2 : Few (ap x 0 l) (bk x 0 l) := ⟨by omega, by rw [bk_length]; omega, fun e he => by have := bk_put l 0 e he; omega⟩
      obtain ⟨q3, q4⟩ := back_back q1
      rw [q2] at q3 q4
      have hF3 : Few x (bk (ap x 0 l) 0 (bk x 0 l)) := ⟨by omega, by rw [bk_length, bk_length]; omega, fun e he => by have := bk_put (bk x 0 l) 0 e he; omega⟩
      rw [apply_ok hF (by omega) ho]
      simp only [Option.bind_some, List.length_nil]
      rw [if_pos (by first | trivial | rfl), back_ok hF (by omega) ho]
      simp only [Option.bind_some, List.length_nil]
      rw [apply_ok hF2 (by omega) q1, back_ok hF2 (by omega) q1, q2]
      simp only [Option.bind_some, List.length_nil]
      rw [if_pos (by first | trivial | rfl), if_pos (by first | trivial | rfl), if_pos (by first | trivial | rfl), furrowlaw3_EditBack.j0, if_neg (by simp), apply_ok hF3 (by omega) q3, q4]
      simp only [Option.bind_some, List.length_nil]
      rw [if_pos (by first | trivial | rfl), same_lines (by omega) (by omega)]
      simp only [Option.bind_some, if_true]
      rw [same_lines (by omega) (by omega)]
      rfl
    | some y =>
      rw [apply_no h2 (by omega) hc]
      simp only [Option.bind_some]
      rw [if_neg (by simp [flE])]
      rfl

end Go.Proofs.YteeeoblpfepepaaDoor.Pure
