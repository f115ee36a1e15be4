/-
  NARROWER THAN 'FOR EVERY INPUT', by the rows' own cells (each row's printed sentence says how): EvalAny: loops, laid · EvalConds: laid · EvalCells: laid · EvalNums: laid.
  DERIVED. THE GIVEN ROWS OF THIS SEAT. 4 by the template 'for every input the law returns true; each argument reads behind the call as it read before'; 0 by the template 'total and deterministic' (their statements: YtmhkijidnpihmaaDoorTotals.lean).
  GIVEN WITH THE SEED: the statements are not yours to turn. If you find one false, say at which input.
  Laid BY PROGRAM, IN A SANDBOX (cutbox-rows.mjs): the forced cells as the released guide's own fill.sh prints them over the translation 44730116335979c1… (all of the seat's roots in one cut). By AI agents, Wed Nov 11 2026. No macro, syntax, notation, axiom, sorry.
-/
import Derived.Test.YtmhkijidnpihmaaDoorChecked
import GoSem.Claim
import GoSem.ClaimJoined
import GoSem.ClaimMapViews
import Derived.JoinedTies
import Derived.KernelRfl
namespace Go.Proofs.YtmhkijidnpihmaaDoor
/- THE CELL 'sum', in the pinned program and in every row, IS THE sha256 OF THE DUMP (.gsa) THAT YtmhkijidnpihmaaDoorProg.lean LOADS. Nothing in Lean hashes anything: it is a label: what it is worth is what the hold of that sum in a sandbox is worth. -/
noncomputable def Tryd.pinned : Pinned := { name := "ytmhkijidnpihmaadoor", sum := "44730116335979c19f7246b6bc438a752b751e4193ae372de08318d1b380ac00", checked := Tryd.checked }
namespace Rows
def none {H : Type} : Left H := { results := [], args := [] }

/- WHAT THE LISTED PACKAGE-LEVEL VARIABLES READ AS WHEN THE CALL BEGINS. Each datum BY PROGRAM (the guide's laid-datum.mjs) off the statement by which the dump's own 'gosem.cut.vars' lays the variable. In a bare row this is a premise. The card (YtmhkijidnpihmaaDoorCards.lean) ties it to the program's text. -/
def laid_errors_errorType {H : Type} : DataW H := .iface "internal/reflectlite.rtype" (.agg [.ptr (.lit (.string [101, 114, 114, 111, 114]))])

/-- 'furrowlaw9.EvalAny': WHATEVER THE INPUT: true; the input reads as it did. -/
def evalAnySpec : ChangeSpec := { name := "evalAny", fn := fun _ => fun
  | [d1, d2, d3] => { results := [.lit (.bool true)], args := [d1, d2, d3] }
  | _ => none }
def evalAnyRow : OpenClaim := { program := "ytmhkijidnpihmaadoor", sum := "44730116335979c19f7246b6bc438a752b751e4193ae372de08318d1b380ac00", func := "furrow/furrowlaw9.EvalAny", spec := "evalAny", inPlace := ["internal/reflectlite.TypeOf", "internal/reflectlite.ValueOf", "(internal/reflectlite.Value).Type", "(internal/reflectlite.Value).IsNil", "(internal/reflectlite.Value).Elem", "(internal/reflectlite.Value).Set"], unfollowed := true, recurses := true, named := ["errors.errorType"], loops := true, apart := false, laid := [("errors.errorType", laid_errors_errorType)] }
def EvalAnySaid : Prop := evalAnyRow.holds Tryd.pinned (OpenSpec.ofChange evalAnySpec)

/-- ITS FALSE NEIGHBOUR: 'it returns false'. Refute it at one input. -/
def evalAnyWrong : ChangeSpec := { name := "evalAny", fn := fun _ => fun
  | [d1, d2, d3] => { results := [.lit (.bool false)], args := [d1, d2, d3] }
  | _ => none }
def EvalAnyWrongFalsely : Prop := evalAnyRow.holds Tryd.pinned (OpenSpec.ofChange evalAnyWrong)

/-- 'furrowlaw9.EvalConds': WHATEVER THE INPUT: true; the input reads as it did. -/
def evalCondsSpec : ChangeSpec := { name := "evalConds", fn := fun _ => fun
  | [d1, d2, d3, d4] => { results := [.lit (.bool true)], args := [d1, d2, d3, d4] }
  | _ => none }
def evalCondsRow : OpenClaim := { program := "ytmhkijidnpihmaadoor", sum := "44730116335979c19f7246b6bc438a752b751e4193ae372de08318d1b380ac00", func := "furrow/furrowlaw9.EvalConds", spec := "evalConds", inPlace := ["internal/reflectlite.TypeOf", "internal/reflectlite.ValueOf", "(internal/reflectlite.Value).Type", "(internal/reflectlite.Value).IsNil", "(internal/reflectlite.Value).Elem", "(internal/reflectlite.Value).Set"], unfollowed := true, recurses := true, named := ["errors.errorType"], apart := false, laid := [("errors.errorType", laid_errors_errorType)] }
def EvalCondsSaid : Prop := evalCondsRow.holds Tryd.pinned (OpenSpec.ofChange evalCondsSpec)

/-- ITS FALSE NEIGHBOUR: 'it returns false'. Refute it at one input. -/
def evalCondsWrong : ChangeSpec := { name := "evalConds", fn := fun _ => fun
  | [d1, d2, d3, d4] => { results := [.lit (.bool false)], args := [d1, d2, d3, d4] }
  | _ => none }
def EvalCondsWrongFalsely : Prop := evalCondsRow.holds Tryd.pinned (OpenSpec.ofChange evalCondsWrong)

/-- 'furrowlaw9.EvalCells': WHATEVER THE INPUT: true; the input reads as it did. -/
def evalCellsSpec : ChangeSpec := { name := "evalCells", fn := fun _ => fun
  | [d1, d2] => { results := [.lit (.bool true)], args := [d1, d2] }
  | _ => none }
def evalCellsRow : OpenClaim := { program := "ytmhkijidnpihmaadoor", sum := "44730116335979c19f7246b6bc438a752b751e4193ae372de08318d1b380ac00", func := "furrow/furrowlaw9.EvalCells", spec := "evalCells", inPlace := ["internal/reflectlite.TypeOf", "internal/reflectlite.ValueOf", "(internal/reflectlite.Value).Type", "(internal/reflectlite.Value).IsNil", "(internal/reflectlite.Value).Elem", "(internal/reflectlite.Value).Set"], unfollowed := true, recurses := true, named := ["errors.errorType"], apart := false, laid := [("errors.errorType", laid_errors_errorType)] }
def EvalCellsSaid : Prop := evalCellsRow.holds Tryd.pinned (OpenSpec.ofChange evalCellsSpec)

/-- ITS FALSE NEIGHBOUR: 'it returns false'. Refute it at one input. -/
def evalCellsWrong : ChangeSpec := { name := "evalCells", fn := fun _ => fun
  | [d1, d2] => { results := [.lit (.bool false)], args := [d1, d2] }
  | _ => none }
def EvalCellsWrongFalsely : Prop := evalCellsRow.holds Tryd.pinned (OpenSpec.ofChange evalCellsWrong)

/-- 'furrowlaw9.EvalNums': WHATEVER THE INPUT: true; the input reads as it did. -/
def evalNumsSpec : ChangeSpec := { name := "evalNums", fn := fun _ => fun
  | [d1, d2] => { results := [.lit (.bool true)], args := [d1, d2] }
  | _ => none }
def evalNumsRow : OpenClaim := { program := "ytmhkijidnpihmaadoor", sum := "44730116335979c19f7246b6bc438a752b751e4193ae372de08318d1b380ac00", func := "furrow/furrowlaw9.EvalNums", spec := "evalNums", inPlace := ["internal/reflectlite.TypeOf", "internal/reflectlite.ValueOf", "(internal/reflectlite.Value).Type", "(internal/reflectlite.Value).IsNil", "(internal/reflectlite.Value).Elem", "(internal/reflectlite.Value).Set"], unfollowed := true, recurses := true, named := ["errors.errorType"], apart := false, laid := [("errors.errorType", laid_errors_errorType)] }
def EvalNumsSaid : Prop := evalNumsRow.holds Tryd.pinned (OpenSpec.ofChange evalNumsSpec)

/-- ITS FALSE NEIGHBOUR: 'it returns false'. Refute it at one input. -/
def evalNumsWrong : ChangeSpec := { name := "evalNums", fn := fun _ => fun
  | [d1, d2] => { results := [.lit (.bool false)], args := [d1, d2] }
  | _ => none }
def EvalNumsWrongFalsely : Prop := evalNumsRow.holds Tryd.pinned (OpenSpec.ofChange evalNumsWrong)

/- THE SECOND FORM. 'bulk': how many values and letters a reading holds, each counted each time it is reached (what is shared counts as often as it is met; a slice's spare places count too). A statement '..UptoSaid' is the law's where the arguments, and the package variables that the reading takes, are together of bulk at most 1048576: NARROWER than '..Said'. Prove '..Said' where nothing that the law and all that it calls make is longer than what came in: it says more and counts as full. Else prove '..UptoSaid'. A law counts once. -/
mutual
def uptoBulk {H : Type} : DataW H → Nat
  | .lit (.string bytes) => bytes.length + 1
  | .lit _ => 1
  | .nil => 1
  | .ptr d => uptoBulk d + 1
  | .slice elems spare => uptoBulkAll elems + uptoBulkAll spare + 1
  | .agg parts => uptoBulkAll parts + 1
  | .iface _ d => uptoBulk d + 1
  | .map entries => uptoBulkEntries entries + 1
  | .held _ => 1
def uptoBulkAll {H : Type} : List (DataW H) → Nat
  | [] => 0
  | d :: r => uptoBulk d + uptoBulkAll r
def uptoBulkEntries {H : Type} : List (Lit × DataW H) → Nat
  | [] => 0
  | x :: r => uptoBulkEntry x + uptoBulkEntries r
def uptoBulkEntry {H : Type} : Lit × DataW H → Nat
  | (.string bytes, d) => bytes.length + uptoBulk d + 1
  | (_, d) => uptoBulk d + 1
 end
def uptoSmall : (H : Type) → List (DataW H) → Bool := fun _ ds => decide (uptoBulkAll ds ≤ 1048576)
def OpenSpec.upto (s : _root_.Go.ChangeSpec) : _root_.Go.OpenSpec := { _root_.Go.OpenSpec.ofChange s with cond := some uptoSmall }

/-- 'furrowlaw9.EvalAny', WHERE WHAT IT READS IS OF BULK AT MOST 1048576: true; the input reads as it did. -/
def evalAnyUptoRow : OpenClaim := { program := "ytmhkijidnpihmaadoor", sum := "44730116335979c19f7246b6bc438a752b751e4193ae372de08318d1b380ac00", func := "furrow/furrowlaw9.EvalAny", spec := "evalAny", inPlace := ["internal/reflectlite.TypeOf", "internal/reflectlite.ValueOf", "(internal/reflectlite.Value).Type", "(internal/reflectlite.Value).IsNil", "(internal/reflectlite.Value).Elem", "(internal/reflectlite.Value).Set"], unfollowed := true, recurses := true, named := ["errors.errorType"], loops := true, apart := false, laid := [("errors.errorType", laid_errors_errorType)], narrowed := true }
def EvalAnyUptoSaid : Prop := evalAnyUptoRow.holds Tryd.pinned (OpenSpec.upto evalAnySpec)

/-- 'furrowlaw9.EvalConds', WHERE WHAT IT READS IS OF BULK AT MOST 1048576: true; the input reads as it did. -/
def evalCondsUptoRow : OpenClaim := { program := "ytmhkijidnpihmaadoor", sum := "44730116335979c19f7246b6bc438a752b751e4193ae372de08318d1b380ac00", func := "furrow/furrowlaw9.EvalConds", spec := "evalConds", inPlace := ["internal/reflectlite.TypeOf", "internal/reflectlite.ValueOf", "(internal/reflectlite.Value).Type", "(internal/reflectlite.Value).IsNil", "(internal/reflectlite.Value).Elem", "(internal/reflectlite.Value).Set"], unfollowed := true, recurses := true, named := ["errors.errorType"], apart := false, laid := [("errors.errorType", laid_errors_errorType)], narrowed := true }
def EvalCondsUptoSaid : Prop := evalCondsUptoRow.holds Tryd.pinned (OpenSpec.upto evalCondsSpec)

/-- 'furrowlaw9.EvalCells', WHERE WHAT IT READS IS OF BULK AT MOST 1048576: true; the input reads as it did. -/
def evalCellsUptoRow : OpenClaim := { program := "ytmhkijidnpihmaadoor", sum := "44730116335979c19f7246b6bc438a752b751e4193ae372de08318d1b380ac00", func := "furrow/furrowlaw9.EvalCells", spec := "evalCells", inPlace := ["internal/reflectlite.TypeOf", "internal/reflectlite.ValueOf", "(internal/reflectlite.Value).Type", "(internal/reflectlite.Value).IsNil", "(internal/reflectlite.Value).Elem", "(internal/reflectlite.Value).Set"], unfollowed := true, recurses := true, named := ["errors.errorType"], apart := false, laid := [("errors.errorType", laid_errors_errorType)], narrowed := true }
def EvalCellsUptoSaid : Prop := evalCellsUptoRow.holds Tryd.pinned (OpenSpec.upto evalCellsSpec)

/-- 'furrowlaw9.EvalNums', WHERE WHAT IT READS IS OF BULK AT MOST 1048576: true; the input reads as it did. -/
def evalNumsUptoRow : OpenClaim := { program := "ytmhkijidnpihmaadoor", sum := "44730116335979c19f7246b6bc438a752b751e4193ae372de08318d1b380ac00", func := "furrow/furrowlaw9.EvalNums", spec := "evalNums", inPlace := ["internal/reflectlite.TypeOf", "internal/reflectlite.ValueOf", "(internal/reflectlite.Value).Type", "(internal/reflectlite.Value).IsNil", "(internal/reflectlite.Value).Elem", "(internal/reflectlite.Value).Set"], unfollowed := true, recurses := true, named := ["errors.errorType"], apart := false, laid := [("errors.errorType", laid_errors_errorType)], narrowed := true }
def EvalNumsUptoSaid : Prop := evalNumsUptoRow.holds Tryd.pinned (OpenSpec.upto evalNumsSpec)

end Rows
end Go.Proofs.YtmhkijidnpihmaaDoor
