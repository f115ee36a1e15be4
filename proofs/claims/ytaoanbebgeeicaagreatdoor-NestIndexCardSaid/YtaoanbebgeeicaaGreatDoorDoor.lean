/- What the rows' condition on the package-level variables gives a walk; the witness's world; no conditions. -/
import Derived.Test.YtaoanbebgeeicaaGreatDoorRows
import Derived.Test.YtaoanbebgeeicaaGreatDoorGA
import Derived.LaidLaws
import Derived.LaidHandle
import Derived.LaidMore
import Derived.Stop.LaidErr
import Derived.Lib.LaidTab
import Derived.ProofKit
namespace Go.Proofs.YtaoanbebgeeicaaGreatDoor.Door
open Go.ChangeShapes Go.WideShapes Go.ChangeAt Go.RowKit Go.Proofs.YtaoanbebgeeicaaGreatDoor.H
abbrev laidL : List (String × DataW Unit) := [("errors.errorType", Rows.laid_errors_errorType)]
theorem et : Tryz.prog.globalNamed "errors.errorType" = some 0 := by kernel_rfl
theorem rt : (Tryz.prog.cutTypes.find? (·.1 == "internal/reflectlite.rtype")).map (·.2) = some 168 := by kernel_rfl
theorem oneRow : ((List.range 289).filter fun t => Tryz.prog.rowNamed t [101, 114, 114, 111, 114]) = [34] := by kernel_rfl
theorem tsize : Tryz.prog.types.size = 289 := by kernel_rfl
theorem hErr : (laidL.filter fun x => x.2.handleName?.isSome) = [("errors.errorType", Rows.laid_errors_errorType)] := by kernel_rfl
theorem hDat : (laidL.filter fun x => x.2.handleName?.isNone) = [] := by kernel_rfl
theorem halves {W : World} (h : laidMetH Tryz.prog laidL W) : laidMet Tryz.prog [] W ∧ handlesMet Tryz.prog [("errors.errorType", Rows.laid_errors_errorType)] W := by
  unfold laidMetH at h
  rw [hErr, hDat] at h
  exact h
theorem errTy {W : World} (h : laidMetH Tryz.prog laidL W) : ErrTy W := by
  obtain ⟨name, u, ty, e1, e2, e3, e4, e5⟩ := (halves h).2 _ (List.mem_singleton.2 rfl)
  have en : name = [101, 114, 114, 111, 114] := (Option.some.inj e1).symm
  subst en
  obtain rfl := Option.some.inj (rt.symm.trans e2)
  have hm : ty ∈ (List.range 289).filter fun t => Tryz.prog.rowNamed t [101, 114, 114, 111, 114] := List.mem_filter.2 ⟨List.mem_range.2 (by rw [← tsize]; exact e3), e4⟩
  rw [oneRow] at hm
  obtain rfl := List.mem_singleton.1 hm
  have hh : typeHandle Tryz.prog 34 = .pointer (some ⟨1, 34, none⟩) := by kernel_rfl
  rw [hh] at e5
  unfold ErrTy
  simpa using World.var?_cell et e5 0
/-- The heap that the program's own start leaves meets the condition. -/
theorem met (os : Os) (args : Array Value) : laidMetH Tryz.prog laidL ((World.doorLaid Tryz.prog 16 os).forCall (fun _ _ => 0) ⟨#[], args, []⟩).memory :=
  laidMetH_of_parts3 (fuel := 8) (laidMet_of_run' 8 (by kernel_rfl) (by kernel_rfl)) (by kernel_rfl) (by kernel_rfl)
end Go.Proofs.YtaoanbebgeeicaaGreatDoor.Door
