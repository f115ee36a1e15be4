/- EditAny over lists. -/
import Derived.Test.YteeeoblpfepepaaDoorPureEd2
import Derived.Test.YteeeoblpfepepaaDoorPureKnown
import Derived.Test.YteeeoblpfepepaaDoorXx17
import Derived.Laws.Bits64
namespace Go.Proofs.YteeeoblpfepepaaDoor.Pure
open Go.RowKit Go.Proofs.YteeeoblpfepepaaDoor.X Go.Proofs.YteeeoblpfepepaaDoor.Flt Go.Proofs.YteeeoblpfepepaaDoor.H Go.Proofs.YteeeoblpfepepaaDoorW.PrintWords Go.Proofs.YteeeoblpfepepaaDoorW.PrintLast Go.Proofs.YteeeoblpfepepaaDoorW.PrintMore
set_option linter.unusedVariables false
set_option linter.unusedSimpArgs false
theorem editany_true {x : List ByteArray} {l : List S38} : furrowlaw3_EditAny.f 100000 x l = some true := by
  unfold furrowlaw3_EditAny.f
  rw [known_more (by omega)]
  simp only [Option.bind_some, if_true]
  obtain ⟨b, hb, hb2⟩ := few_spec (x := x) (l := l) (k := 100000) (by omega)
  rw [hb]
  simp only [Option.bind_some]
  cases b with
  | false => rw [if_neg (by simp)]
  | true =>
    rw [if_pos rfl]
    obtain ⟨h1, h2, h3⟩ := hb2 rfl
    have hF : Few x l := ⟨by omega, by omega, fun e he => by have := h3 e he; omega⟩
    rw [of_spec (by omega) (by omega)]
    simp only [Option.bind_some]
    rw [rcheck_spec (by omega) (by omega), if_neg (by omega), check_spec (by omega) (by omega), if_neg (by omega)]
    have hT := tells_O (chkS x.length 0 none l) (chkS_code _ _ _ _)
    cases hc : chkS x.length 0 none l with
    | none =>
      have ho := (chk_ok l 0 none).1 hc
      rw [hc] at hT
      have hT2 : furrowlaw2_Tells.f [] (refO none).1 (refO none).2 = some true := hT
      rw [apply_ok hF (by omega) ho, rapply_ok hF (by omega) ho, back_ok hF (by omega) ho, rback_ok hF (by omega) ho]
      simp only [Option.bind_some, hT, hT2, if_true]
      have h4 := ap_length l 0 (ok_none ho (by omega)) (by omega) (by omega)
      have h5 : tot l ≤ 400 := Nat.le_trans (tot_le (b := 20) h3) (by omega)
      rw [same_lines (by omega) (by omega)]
      simp only [Option.bind_some, if_true]
      rw [same_ok (by rw [bk_length]; omega) (fun e he => by have := bk_put l 0 e he; omega) (by omega)]
      rfl
    | some y =>
      rw [hc] at hT
      have hT2 : furrowlaw2_Tells.f (flE y.1 y.2) (refO (some y)).1 (refO (some y)).2 = some true := hT
      obtain ⟨r1, e1⟩ := rapply_no (k := 100000) h2 (by omega) hc
      obtain ⟨r2, e2⟩ := rback_no (k := 100000) h2 (by omega) hc
      rw [apply_no h2 (by omega) hc, e1, back_no h2 (by omega) hc, e2]
      simp only [Option.bind_some, hT, hT2, if_true]
      rfl

end Go.Proofs.YteeeoblpfepepaaDoor.Pure
