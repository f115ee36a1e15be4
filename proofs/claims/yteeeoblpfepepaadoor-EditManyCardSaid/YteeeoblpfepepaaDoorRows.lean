/-
  NARROWER THAN 'FOR EVERY INPUT', by the rows' own cells (each row's printed sentence says how): EditBack: laid · EditDiff: laid · EditPlain: laid · EditMany: laid · EditAny: laid · EditCount: laid · EditTouch: laid.
  DERIVED. THE GIVEN ROWS OF THIS SEAT. 7 by the template 'for every input the law returns true; each argument reads behind the call as it read before'; 0 by the template 'total and deterministic' (their statements: YteeeoblpfepepaaDoorTotals.lean).
  GIVEN WITH THE SEED: the statements are not yours to turn. If you find one false, say at which input.
  Laid BY PROGRAM, IN A SANDBOX (cutbox-rows.mjs): the forced cells as the released guide's own fill.sh prints them over the translation 06cca640b8156a0e… (all of the seat's roots in one cut). By AI agents, Wed Nov 11 2026. No macro, syntax, notation, axiom, sorry.
-/
import Derived.Test.YteeeoblpfepepaaDoorChecked
import GoSem.Claim
import GoSem.ClaimJoined
import GoSem.ClaimMapViews
import Derived.JoinedTies
import Derived.KernelRfl
namespace Go.Proofs.YteeeoblpfepepaaDoor
/- THE CELL 'sum', in the pinned program and in every row, IS THE sha256 OF THE DUMP (.gsa) THAT YteeeoblpfepepaaDoorProg.lean LOADS. Nothing in Lean hashes anything: it is a label: what it is worth is what the hold of that sum in a sandbox is worth. -/
noncomputable def Tryd.pinned : Pinned := { name := "yteeeoblpfepepaadoor", sum := "06cca640b8156a0e215671cb57bddc41dbaed54ba2f76d143ea4315a51906c17", checked := Tryd.checked }
namespace Rows
def none {H : Type} : Left H := { results := [], args := [] }

/- WHAT THE LISTED PACKAGE-LEVEL VARIABLES READ AS WHEN THE CALL BEGINS. Each datum BY PROGRAM (the guide's laid-datum.mjs) off the statement by which the dump's own 'gosem.cut.vars' lays the variable. In a bare row this is a premise. The card (YteeeoblpfepepaaDoorCards.lean) ties it to the program's text. -/
def laid_errors_errorType {H : Type} : DataW H := .iface "internal/reflectlite.rtype" (.agg [.ptr (.lit (.string [101, 114, 114, 111, 114]))])

/-- 'furrowlaw3.EditBack': WHATEVER THE INPUT: true; the input reads as it did. -/
def editBackSpec : ChangeSpec := { name := "editBack", fn := fun _ => fun
  | [d1, d2] => { results := [.lit (.bool true)], args := [d1, d2] }
  | _ => none }
def editBackRow : OpenClaim := { program := "yteeeoblpfepepaadoor", sum := "06cca640b8156a0e215671cb57bddc41dbaed54ba2f76d143ea4315a51906c17", func := "furrow/furrowlaw3.EditBack", spec := "editBack", inPlace := ["internal/reflectlite.ValueOf", "(internal/reflectlite.Value).Type", "(internal/reflectlite.Value).IsNil", "internal/reflectlite.TypeOf", "(internal/reflectlite.Value).Elem", "(internal/reflectlite.Value).Set"], unfollowed := true, recurses := true, named := ["errors.errorType"], apart := false, laid := [("errors.errorType", laid_errors_errorType)] }
def EditBackSaid : Prop := editBackRow.holds Tryd.pinned (OpenSpec.ofChange editBackSpec)

/-- ITS FALSE NEIGHBOUR: 'it returns false'. Refute it at one input. -/
def editBackWrong : ChangeSpec := { name := "editBack", fn := fun _ => fun
  | [d1, d2] => { results := [.lit (.bool false)], args := [d1, d2] }
  | _ => none }
def EditBackWrongFalsely : Prop := editBackRow.holds Tryd.pinned (OpenSpec.ofChange editBackWrong)

/-- 'furrowlaw3.EditDiff': WHATEVER THE INPUT: true; the input reads as it did. -/
def editDiffSpec : ChangeSpec := { name := "editDiff", fn := fun _ => fun
  | [d1, d2] => { results := [.lit (.bool true)], args := [d1, d2] }
  | _ => none }
def editDiffRow : OpenClaim := { program := "yteeeoblpfepepaadoor", sum := "06cca640b8156a0e215671cb57bddc41dbaed54ba2f76d143ea4315a51906c17", func := "furrow/furrowlaw3.EditDiff", spec := "editDiff", inPlace := ["internal/reflectlite.ValueOf", "(internal/reflectlite.Value).Type", "(internal/reflectlite.Value).IsNil", "internal/reflectlite.TypeOf", "(internal/reflectlite.Value).Elem", "(internal/reflectlite.Value).Set"], unfollowed := true, recurses := true, named := ["errors.errorType"], apart := false, laid := [("errors.errorType", laid_errors_errorType)] }
def EditDiffSaid : Prop := editDiffRow.holds Tryd.pinned (OpenSpec.ofChange editDiffSpec)

/-- ITS FALSE NEIGHBOUR: 'it returns false'. Refute it at one input. -/
def editDiffWrong : ChangeSpec := { name := "editDiff", fn := fun _ => fun
  | [d1, d2] => { results := [.lit (.bool false)], args := [d1, d2] }
  | _ => none }
def EditDiffWrongFalsely : Prop := editDiffRow.holds Tryd.pinned (OpenSpec.ofChange editDiffWrong)

/-- 'furrowlaw3.EditPlain': WHATEVER THE INPUT: true; the input reads as it did. -/
def editPlainSpec : ChangeSpec := { name := "editPlain", fn := fun _ => fun
  | [d1, d2, d3, d4] => { results := [.lit (.bool true)], args := [d1, d2, d3, d4] }
  | _ => none }
def editPlainRow : OpenClaim := { program := "yteeeoblpfepepaadoor", sum := "06cca640b8156a0e215671cb57bddc41dbaed54ba2f76d143ea4315a51906c17", func := "furrow/furrowlaw3.EditPlain", spec := "editPlain", inPlace := ["internal/reflectlite.ValueOf", "(internal/reflectlite.Value).Type", "(internal/reflectlite.Value).IsNil", "internal/reflectlite.TypeOf", "(internal/reflectlite.Value).Elem", "(internal/reflectlite.Value).Set"], unfollowed := true, recurses := true, named := ["errors.errorType"], apart := false, laid := [("errors.errorType", laid_errors_errorType)] }
def EditPlainSaid : Prop := editPlainRow.holds Tryd.pinned (OpenSpec.ofChange editPlainSpec)

/-- ITS FALSE NEIGHBOUR: 'it returns false'. Refute it at one input. -/
def editPlainWrong : ChangeSpec := { name := "editPlain", fn := fun _ => fun
  | [d1, d2, d3, d4] => { results := [.lit (.bool false)], args := [d1, d2, d3, d4] }
  | _ => none }
def EditPlainWrongFalsely : Prop := editPlainRow.holds Tryd.pinned (OpenSpec.ofChange editPlainWrong)

/-- 'furrowlaw3.EditMany': WHATEVER THE INPUT: true; the input reads as it did. -/
def editManySpec : ChangeSpec := { name := "editMany", fn := fun _ => fun
  | [d1, d2] => { results := [.lit (.bool true)], args := [d1, d2] }
  | _ => none }
def editManyRow : OpenClaim := { program := "yteeeoblpfepepaadoor", sum := "06cca640b8156a0e215671cb57bddc41dbaed54ba2f76d143ea4315a51906c17", func := "furrow/furrowlaw3.EditMany", spec := "editMany", inPlace := ["internal/reflectlite.ValueOf", "(internal/reflectlite.Value).Type", "(internal/reflectlite.Value).IsNil", "internal/reflectlite.TypeOf", "(internal/reflectlite.Value).Elem", "(internal/reflectlite.Value).Set"], unfollowed := true, recurses := true, named := ["errors.errorType"], apart := false, laid := [("errors.errorType", laid_errors_errorType)] }
def EditManySaid : Prop := editManyRow.holds Tryd.pinned (OpenSpec.ofChange editManySpec)

/-- ITS FALSE NEIGHBOUR: 'it returns false'. Refute it at one input. -/
def editManyWrong : ChangeSpec := { name := "editMany", fn := fun _ => fun
  | [d1, d2] => { results := [.lit (.bool false)], args := [d1, d2] }
  | _ => none }
def EditManyWrongFalsely : Prop := editManyRow.holds Tryd.pinned (OpenSpec.ofChange editManyWrong)

/-- 'furrowlaw3.EditAny': WHATEVER THE INPUT: true; the input reads as it did. -/
def editAnySpec : ChangeSpec := { name := "editAny", fn := fun _ => fun
  | [d1, d2] => { results := [.lit (.bool true)], args := [d1, d2] }
  | _ => none }
def editAnyRow : OpenClaim := { program := "yteeeoblpfepepaadoor", sum := "06cca640b8156a0e215671cb57bddc41dbaed54ba2f76d143ea4315a51906c17", func := "furrow/furrowlaw3.EditAny", spec := "editAny", inPlace := ["internal/reflectlite.ValueOf", "(internal/reflectlite.Value).Type", "(internal/reflectlite.Value).IsNil", "internal/reflectlite.TypeOf", "(internal/reflectlite.Value).Elem", "(internal/reflectlite.Value).Set"], unfollowed := true, recurses := true, named := ["errors.errorType"], apart := false, laid := [("errors.errorType", laid_errors_errorType)] }
def EditAnySaid : Prop := editAnyRow.holds Tryd.pinned (OpenSpec.ofChange editAnySpec)

/-- ITS FALSE NEIGHBOUR: 'it returns false'. Refute it at one input. -/
def editAnyWrong : ChangeSpec := { name := "editAny", fn := fun _ => fun
  | [d1, d2] => { results := [.lit (.bool false)], args := [d1, d2] }
  | _ => none }
def EditAnyWrongFalsely : Prop := editAnyRow.holds Tryd.pinned (OpenSpec.ofChange editAnyWrong)

/-- 'furrowlaw3.EditCount': WHATEVER THE INPUT: true; the input reads as it did. -/
def editCountSpec : ChangeSpec := { name := "editCount", fn := fun _ => fun
  | [d1, d2] => { results := [.lit (.bool true)], args := [d1, d2] }
  | _ => none }
def editCountRow : OpenClaim := { program := "yteeeoblpfepepaadoor", sum := "06cca640b8156a0e215671cb57bddc41dbaed54ba2f76d143ea4315a51906c17", func := "furrow/furrowlaw3.EditCount", spec := "editCount", inPlace := ["internal/reflectlite.ValueOf", "(internal/reflectlite.Value).Type", "(internal/reflectlite.Value).IsNil", "internal/reflectlite.TypeOf", "(internal/reflectlite.Value).Elem", "(internal/reflectlite.Value).Set"], unfollowed := true, recurses := true, named := ["errors.errorType"], apart := false, laid := [("errors.errorType", laid_errors_errorType)] }
def EditCountSaid : Prop := editCountRow.holds Tryd.pinned (OpenSpec.ofChange editCountSpec)

/-- ITS FALSE NEIGHBOUR: 'it returns false'. Refute it at one input. -/
def editCountWrong : ChangeSpec := { name := "editCount", fn := fun _ => fun
  | [d1, d2] => { results := [.lit (.bool false)], args := [d1, d2] }
  | _ => none }
def EditCountWrongFalsely : Prop := editCountRow.holds Tryd.pinned (OpenSpec.ofChange editCountWrong)

/-- 'furrowlaw3.EditTouch': WHATEVER THE INPUT: true; the input reads as it did. -/
def editTouchSpec : ChangeSpec := { name := "editTouch", fn := fun _ => fun
  | [d1, d2, d3, d4] => { results := [.lit (.bool true)], args := [d1, d2, d3, d4] }
  | _ => none }
def editTouchRow : OpenClaim := { program := "yteeeoblpfepepaadoor", sum := "06cca640b8156a0e215671cb57bddc41dbaed54ba2f76d143ea4315a51906c17", func := "furrow/furrowlaw3.EditTouch", spec := "editTouch", inPlace := ["internal/reflectlite.ValueOf", "(internal/reflectlite.Value).Type", "(internal/reflectlite.Value).IsNil", "internal/reflectlite.TypeOf", "(internal/reflectlite.Value).Elem", "(internal/reflectlite.Value).Set"], unfollowed := true, recurses := true, named := ["errors.errorType"], apart := false, laid := [("errors.errorType", laid_errors_errorType)] }
def EditTouchSaid : Prop := editTouchRow.holds Tryd.pinned (OpenSpec.ofChange editTouchSpec)

/-- ITS FALSE NEIGHBOUR: 'it returns false'. Refute it at one input. -/
def editTouchWrong : ChangeSpec := { name := "editTouch", fn := fun _ => fun
  | [d1, d2, d3, d4] => { results := [.lit (.bool false)], args := [d1, d2, d3, d4] }
  | _ => none }
def EditTouchWrongFalsely : Prop := editTouchRow.holds Tryd.pinned (OpenSpec.ofChange editTouchWrong)

/- THE SECOND FORM. 'bulk': how many values and letters a reading holds, each counted each time it is reached (what is shared counts as often as it is met; a slice's spare places count too). A statement '..UptoSaid' is the law's where the arguments, and the package variables that the reading takes, are together of bulk at most 1048576: NARROWER than '..Said'. Prove '..Said' where nothing that the law and all that it calls make is longer than what came in: it says more and counts as full. Else prove '..UptoSaid'. A law counts once. -/
mutual
def uptoBulk {H : Type} : DataW H → Nat
  | .lit (.string bytes) => bytes.length + 1
  | .lit _ => 1
  | .nil => 1
  | .ptr d => uptoBulk d + 1
  | .slice elems spare => uptoBulkAll elems + uptoBulkAll spare + 1
  | .agg parts => uptoBulkAll parts + 1
  | .iface _ d => uptoBulk d + 1
  | .map entries => uptoBulkEntries entries + 1
  | .held _ => 1
def uptoBulkAll {H : Type} : List (DataW H) → Nat
  | [] => 0
  | d :: r => uptoBulk d + uptoBulkAll r
def uptoBulkEntries {H : Type} : List (Lit × DataW H) → Nat
  | [] => 0
  | x :: r => uptoBulkEntry x + uptoBulkEntries r
def uptoBulkEntry {H : Type} : Lit × DataW H → Nat
  | (.string bytes, d) => bytes.length + uptoBulk d + 1
  | (_, d) => uptoBulk d + 1
 end
def uptoSmall : (H : Type) → List (DataW H) → Bool := fun _ ds => decide (uptoBulkAll ds ≤ 1048576)
def OpenSpec.upto (s : _root_.Go.ChangeSpec) : _root_.Go.OpenSpec := { _root_.Go.OpenSpec.ofChange s with cond := some uptoSmall }

/-- 'furrowlaw3.EditBack', WHERE WHAT IT READS IS OF BULK AT MOST 1048576: true; the input reads as it did. -/
def editBackUptoRow : OpenClaim := { program := "yteeeoblpfepepaadoor", sum := "06cca640b8156a0e215671cb57bddc41dbaed54ba2f76d143ea4315a51906c17", func := "furrow/furrowlaw3.EditBack", spec := "editBack", inPlace := ["internal/reflectlite.ValueOf", "(internal/reflectlite.Value).Type", "(internal/reflectlite.Value).IsNil", "internal/reflectlite.TypeOf", "(internal/reflectlite.Value).Elem", "(internal/reflectlite.Value).Set"], unfollowed := true, recurses := true, named := ["errors.errorType"], apart := false, laid := [("errors.errorType", laid_errors_errorType)], narrowed := true }
def EditBackUptoSaid : Prop := editBackUptoRow.holds Tryd.pinned (OpenSpec.upto editBackSpec)

/-- 'furrowlaw3.EditDiff', WHERE WHAT IT READS IS OF BULK AT MOST 1048576: true; the input reads as it did. -/
def editDiffUptoRow : OpenClaim := { program := "yteeeoblpfepepaadoor", sum := "06cca640b8156a0e215671cb57bddc41dbaed54ba2f76d143ea4315a51906c17", func := "furrow/furrowlaw3.EditDiff", spec := "editDiff", inPlace := ["internal/reflectlite.ValueOf", "(internal/reflectlite.Value).Type", "(internal/reflectlite.Value).IsNil", "internal/reflectlite.TypeOf", "(internal/reflectlite.Value).Elem", "(internal/reflectlite.Value).Set"], unfollowed := true, recurses := true, named := ["errors.errorType"], apart := false, laid := [("errors.errorType", laid_errors_errorType)], narrowed := true }
def EditDiffUptoSaid : Prop := editDiffUptoRow.holds Tryd.pinned (OpenSpec.upto editDiffSpec)

/-- 'furrowlaw3.EditPlain', WHERE WHAT IT READS IS OF BULK AT MOST 1048576: true; the input reads as it did. -/
def editPlainUptoRow : OpenClaim := { program := "yteeeoblpfepepaadoor", sum := "06cca640b8156a0e215671cb57bddc41dbaed54ba2f76d143ea4315a51906c17", func := "furrow/furrowlaw3.EditPlain", spec := "editPlain", inPlace := ["internal/reflectlite.ValueOf", "(internal/reflectlite.Value).Type", "(internal/reflectlite.Value).IsNil", "internal/reflectlite.TypeOf", "(internal/reflectlite.Value).Elem", "(internal/reflectlite.Value).Set"], unfollowed := true, recurses := true, named := ["errors.errorType"], apart := false, laid := [("errors.errorType", laid_errors_errorType)], narrowed := true }
def EditPlainUptoSaid : Prop := editPlainUptoRow.holds Tryd.pinned (OpenSpec.upto editPlainSpec)

/-- 'furrowlaw3.EditMany', WHERE WHAT IT READS IS OF BULK AT MOST 1048576: true; the input reads as it did. -/
def editManyUptoRow : OpenClaim := { program := "yteeeoblpfepepaadoor", sum := "06cca640b8156a0e215671cb57bddc41dbaed54ba2f76d143ea4315a51906c17", func := "furrow/furrowlaw3.EditMany", spec := "editMany", inPlace := ["internal/reflectlite.ValueOf", "(internal/reflectlite.Value).Type", "(internal/reflectlite.Value).IsNil", "internal/reflectlite.TypeOf", "(internal/reflectlite.Value).Elem", "(internal/reflectlite.Value).Set"], unfollowed := true, recurses := true, named := ["errors.errorType"], apart := false, laid := [("errors.errorType", laid_errors_errorType)], narrowed := true }
def EditManyUptoSaid : Prop := editManyUptoRow.holds Tryd.pinned (OpenSpec.upto editManySpec)

/-- 'furrowlaw3.EditAny', WHERE WHAT IT READS IS OF BULK AT MOST 1048576: true; the input reads as it did. -/
def editAnyUptoRow : OpenClaim := { program := "yteeeoblpfepepaadoor", sum := "06cca640b8156a0e215671cb57bddc41dbaed54ba2f76d143ea4315a51906c17", func := "furrow/furrowlaw3.EditAny", spec := "editAny", inPlace := ["internal/reflectlite.ValueOf", "(internal/reflectlite.Value).Type", "(internal/reflectlite.Value).IsNil", "internal/reflectlite.TypeOf", "(internal/reflectlite.Value).Elem", "(internal/reflectlite.Value).Set"], unfollowed := true, recurses := true, named := ["errors.errorType"], apart := false, laid := [("errors.errorType", laid_errors_errorType)], narrowed := true }
def EditAnyUptoSaid : Prop := editAnyUptoRow.holds Tryd.pinned (OpenSpec.upto editAnySpec)

/-- 'furrowlaw3.EditCount', WHERE WHAT IT READS IS OF BULK AT MOST 1048576: true; the input reads as it did. -/
def editCountUptoRow : OpenClaim := { program := "yteeeoblpfepepaadoor", sum := "06cca640b8156a0e215671cb57bddc41dbaed54ba2f76d143ea4315a51906c17", func := "furrow/furrowlaw3.EditCount", spec := "editCount", inPlace := ["internal/reflectlite.ValueOf", "(internal/reflectlite.Value).Type", "(internal/reflectlite.Value).IsNil", "internal/reflectlite.TypeOf", "(internal/reflectlite.Value).Elem", "(internal/reflectlite.Value).Set"], unfollowed := true, recurses := true, named := ["errors.errorType"], apart := false, laid := [("errors.errorType", laid_errors_errorType)], narrowed := true }
def EditCountUptoSaid : Prop := editCountUptoRow.holds Tryd.pinned (OpenSpec.upto editCountSpec)

/-- 'furrowlaw3.EditTouch', WHERE WHAT IT READS IS OF BULK AT MOST 1048576: true; the input reads as it did. -/
def editTouchUptoRow : OpenClaim := { program := "yteeeoblpfepepaadoor", sum := "06cca640b8156a0e215671cb57bddc41dbaed54ba2f76d143ea4315a51906c17", func := "furrow/furrowlaw3.EditTouch", spec := "editTouch", inPlace := ["internal/reflectlite.ValueOf", "(internal/reflectlite.Value).Type", "(internal/reflectlite.Value).IsNil", "internal/reflectlite.TypeOf", "(internal/reflectlite.Value).Elem", "(internal/reflectlite.Value).Set"], unfollowed := true, recurses := true, named := ["errors.errorType"], apart := false, laid := [("errors.errorType", laid_errors_errorType)], narrowed := true }
def EditTouchUptoSaid : Prop := editTouchUptoRow.holds Tryd.pinned (OpenSpec.upto editTouchSpec)

end Rows
end Go.Proofs.YteeeoblpfepepaaDoor
