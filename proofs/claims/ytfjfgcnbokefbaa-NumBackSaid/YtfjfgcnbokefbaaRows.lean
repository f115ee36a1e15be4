/-
  No cell of these rows narrows 'for every input' (looked for: loops, veiled, ifaces, maps, wideKeys, modest, calm, conditions, laid).
  DERIVED. THE GIVEN ROWS OF THIS SEAT. 6 by the template 'for every input the law returns true; each argument reads behind the call as it read before'; 0 by the template 'total and deterministic' (their statements: YtfjfgcnbokefbaaTotals.lean).
  GIVEN WITH THE SEED: the statements are not yours to turn. If you find one false, say at which input.
  Laid BY PROGRAM, IN A SANDBOX (cutbox-rows.mjs): the forced cells as the released guide's own fill.sh prints them over the translation 51784330c4a12f9d… (all of the seat's roots in one cut). By AI agents, Wed Nov 11 2026. No macro, syntax, notation, axiom, sorry.
-/
import Derived.Test.YtfjfgcnbokefbaaChecked
import GoSem.Claim
import GoSem.ClaimJoined
import GoSem.ClaimMapViews
import Derived.JoinedTies
import Derived.KernelRfl
namespace Go.Proofs.Ytfjfgcnbokefbaa
/- THE CELL 'sum', in the pinned program and in every row, IS THE sha256 OF THE DUMP (.gsa) THAT YtfjfgcnbokefbaaProg.lean LOADS. Nothing in Lean hashes anything: it is a label: what it is worth is what the hold of that sum in a sandbox is worth. -/
noncomputable def Try.pinned : Pinned := { name := "ytfjfgcnbokefbaa", sum := "51784330c4a12f9dae56fdb2d768d70fc5f94d388fadc38d1c4e747624f3fa80", checked := Try.checked }
namespace Rows
def none {H : Type} : Left H := { results := [], args := [] }

/-- 'furrowlaw1.NumLoops': WHATEVER THE INPUT: true; the input reads as it did. -/
def numLoopsSpec : ChangeSpec := { name := "numLoops", fn := fun _ => fun
  | [d1, d2, d3] => { results := [.lit (.bool true)], args := [d1, d2, d3] }
  | _ => none }
def numLoopsRow : OpenClaim := { program := "ytfjfgcnbokefbaa", sum := "51784330c4a12f9dae56fdb2d768d70fc5f94d388fadc38d1c4e747624f3fa80", func := "furrow/furrowlaw1.NumLoops", spec := "numLoops", apart := false }
def NumLoopsSaid : Prop := numLoopsRow.holds Try.pinned (OpenSpec.ofChange numLoopsSpec)

/-- ITS FALSE NEIGHBOUR: 'it returns false'. Refute it at one input. -/
def numLoopsWrong : ChangeSpec := { name := "numLoops", fn := fun _ => fun
  | [d1, d2, d3] => { results := [.lit (.bool false)], args := [d1, d2, d3] }
  | _ => none }
def NumLoopsWrongFalsely : Prop := numLoopsRow.holds Try.pinned (OpenSpec.ofChange numLoopsWrong)

/-- 'furrowlaw1.NumWalk': WHATEVER THE INPUT: true; the input reads as it did. -/
def numWalkSpec : ChangeSpec := { name := "numWalk", fn := fun _ => fun
  | [d1, d2, d3] => { results := [.lit (.bool true)], args := [d1, d2, d3] }
  | _ => none }
def numWalkRow : OpenClaim := { program := "ytfjfgcnbokefbaa", sum := "51784330c4a12f9dae56fdb2d768d70fc5f94d388fadc38d1c4e747624f3fa80", func := "furrow/furrowlaw1.NumWalk", spec := "numWalk", apart := false }
def NumWalkSaid : Prop := numWalkRow.holds Try.pinned (OpenSpec.ofChange numWalkSpec)

/-- ITS FALSE NEIGHBOUR: 'it returns false'. Refute it at one input. -/
def numWalkWrong : ChangeSpec := { name := "numWalk", fn := fun _ => fun
  | [d1, d2, d3] => { results := [.lit (.bool false)], args := [d1, d2, d3] }
  | _ => none }
def NumWalkWrongFalsely : Prop := numWalkRow.holds Try.pinned (OpenSpec.ofChange numWalkWrong)

/-- 'furrowlaw1.NumRounds': WHATEVER THE INPUT: true; the input reads as it did. -/
def numRoundsSpec : ChangeSpec := { name := "numRounds", fn := fun _ => fun
  | [d1, d2] => { results := [.lit (.bool true)], args := [d1, d2] }
  | _ => none }
def numRoundsRow : OpenClaim := { program := "ytfjfgcnbokefbaa", sum := "51784330c4a12f9dae56fdb2d768d70fc5f94d388fadc38d1c4e747624f3fa80", func := "furrow/furrowlaw1.NumRounds", spec := "numRounds", apart := false }
def NumRoundsSaid : Prop := numRoundsRow.holds Try.pinned (OpenSpec.ofChange numRoundsSpec)

/-- ITS FALSE NEIGHBOUR: 'it returns false'. Refute it at one input. -/
def numRoundsWrong : ChangeSpec := { name := "numRounds", fn := fun _ => fun
  | [d1, d2] => { results := [.lit (.bool false)], args := [d1, d2] }
  | _ => none }
def NumRoundsWrongFalsely : Prop := numRoundsRow.holds Try.pinned (OpenSpec.ofChange numRoundsWrong)

/-- 'furrowlaw1.NumGcd': WHATEVER THE INPUT: true; the input reads as it did. -/
def numGcdSpec : ChangeSpec := { name := "numGcd", fn := fun _ => fun
  | [d1, d2] => { results := [.lit (.bool true)], args := [d1, d2] }
  | _ => none }
def numGcdRow : OpenClaim := { program := "ytfjfgcnbokefbaa", sum := "51784330c4a12f9dae56fdb2d768d70fc5f94d388fadc38d1c4e747624f3fa80", func := "furrow/furrowlaw1.NumGcd", spec := "numGcd", apart := false }
def NumGcdSaid : Prop := numGcdRow.holds Try.pinned (OpenSpec.ofChange numGcdSpec)

/-- ITS FALSE NEIGHBOUR: 'it returns false'. Refute it at one input. -/
def numGcdWrong : ChangeSpec := { name := "numGcd", fn := fun _ => fun
  | [d1, d2] => { results := [.lit (.bool false)], args := [d1, d2] }
  | _ => none }
def NumGcdWrongFalsely : Prop := numGcdRow.holds Try.pinned (OpenSpec.ofChange numGcdWrong)

/-- 'furrowlaw1.NumAny': WHATEVER THE INPUT: true; the input reads as it did. -/
def numAnySpec : ChangeSpec := { name := "numAny", fn := fun _ => fun
  | [d1, d2] => { results := [.lit (.bool true)], args := [d1, d2] }
  | _ => none }
def numAnyRow : OpenClaim := { program := "ytfjfgcnbokefbaa", sum := "51784330c4a12f9dae56fdb2d768d70fc5f94d388fadc38d1c4e747624f3fa80", func := "furrow/furrowlaw1.NumAny", spec := "numAny", apart := false }
def NumAnySaid : Prop := numAnyRow.holds Try.pinned (OpenSpec.ofChange numAnySpec)

/-- ITS FALSE NEIGHBOUR: 'it returns false'. Refute it at one input. -/
def numAnyWrong : ChangeSpec := { name := "numAny", fn := fun _ => fun
  | [d1, d2] => { results := [.lit (.bool false)], args := [d1, d2] }
  | _ => none }
def NumAnyWrongFalsely : Prop := numAnyRow.holds Try.pinned (OpenSpec.ofChange numAnyWrong)

/-- 'furrowlaw1.NumBack': WHATEVER THE INPUT: true; the input reads as it did. -/
def numBackSpec : ChangeSpec := { name := "numBack", fn := fun _ => fun
  | [d1, d2] => { results := [.lit (.bool true)], args := [d1, d2] }
  | _ => none }
def numBackRow : OpenClaim := { program := "ytfjfgcnbokefbaa", sum := "51784330c4a12f9dae56fdb2d768d70fc5f94d388fadc38d1c4e747624f3fa80", func := "furrow/furrowlaw1.NumBack", spec := "numBack", apart := false }
def NumBackSaid : Prop := numBackRow.holds Try.pinned (OpenSpec.ofChange numBackSpec)

/-- ITS FALSE NEIGHBOUR: 'it returns false'. Refute it at one input. -/
def numBackWrong : ChangeSpec := { name := "numBack", fn := fun _ => fun
  | [d1, d2] => { results := [.lit (.bool false)], args := [d1, d2] }
  | _ => none }
def NumBackWrongFalsely : Prop := numBackRow.holds Try.pinned (OpenSpec.ofChange numBackWrong)

/- THE SECOND FORM. 'bulk': how many values and letters a reading holds, each counted each time it is reached (what is shared counts as often as it is met; a slice's spare places count too). A statement '..UptoSaid' is the law's where the arguments, and the package variables that the reading takes, are together of bulk at most 1048576: NARROWER than '..Said'. Prove '..Said' where nothing that the law and all that it calls make is longer than what came in: it says more and counts as full. Else prove '..UptoSaid'. A law counts once. -/
mutual
def uptoBulk {H : Type} : DataW H → Nat
  | .lit (.string bytes) => bytes.length + 1
  | .lit _ => 1
  | .nil => 1
  | .ptr d => uptoBulk d + 1
  | .slice elems spare => uptoBulkAll elems + uptoBulkAll spare + 1
  | .agg parts => uptoBulkAll parts + 1
  | .iface _ d => uptoBulk d + 1
  | .map entries => uptoBulkEntries entries + 1
  | .held _ => 1
def uptoBulkAll {H : Type} : List (DataW H) → Nat
  | [] => 0
  | d :: r => uptoBulk d + uptoBulkAll r
def uptoBulkEntries {H : Type} : List (Lit × DataW H) → Nat
  | [] => 0
  | x :: r => uptoBulkEntry x + uptoBulkEntries r
def uptoBulkEntry {H : Type} : Lit × DataW H → Nat
  | (.string bytes, d) => bytes.length + uptoBulk d + 1
  | (_, d) => uptoBulk d + 1
 end
def uptoSmall : (H : Type) → List (DataW H) → Bool := fun _ ds => decide (uptoBulkAll ds ≤ 1048576)
def OpenSpec.upto (s : _root_.Go.ChangeSpec) : _root_.Go.OpenSpec := { _root_.Go.OpenSpec.ofChange s with cond := some uptoSmall }

/-- 'furrowlaw1.NumLoops', WHERE WHAT IT READS IS OF BULK AT MOST 1048576: true; the input reads as it did. -/
def numLoopsUptoRow : OpenClaim := { program := "ytfjfgcnbokefbaa", sum := "51784330c4a12f9dae56fdb2d768d70fc5f94d388fadc38d1c4e747624f3fa80", func := "furrow/furrowlaw1.NumLoops", spec := "numLoops", apart := false, narrowed := true }
def NumLoopsUptoSaid : Prop := numLoopsUptoRow.holds Try.pinned (OpenSpec.upto numLoopsSpec)

/-- 'furrowlaw1.NumWalk', WHERE WHAT IT READS IS OF BULK AT MOST 1048576: true; the input reads as it did. -/
def numWalkUptoRow : OpenClaim := { program := "ytfjfgcnbokefbaa", sum := "51784330c4a12f9dae56fdb2d768d70fc5f94d388fadc38d1c4e747624f3fa80", func := "furrow/furrowlaw1.NumWalk", spec := "numWalk", apart := false, narrowed := true }
def NumWalkUptoSaid : Prop := numWalkUptoRow.holds Try.pinned (OpenSpec.upto numWalkSpec)

/-- 'furrowlaw1.NumRounds', WHERE WHAT IT READS IS OF BULK AT MOST 1048576: true; the input reads as it did. -/
def numRoundsUptoRow : OpenClaim := { program := "ytfjfgcnbokefbaa", sum := "51784330c4a12f9dae56fdb2d768d70fc5f94d388fadc38d1c4e747624f3fa80", func := "furrow/furrowlaw1.NumRounds", spec := "numRounds", apart := false, narrowed := true }
def NumRoundsUptoSaid : Prop := numRoundsUptoRow.holds Try.pinned (OpenSpec.upto numRoundsSpec)

/-- 'furrowlaw1.NumGcd', WHERE WHAT IT READS IS OF BULK AT MOST 1048576: true; the input reads as it did. -/
def numGcdUptoRow : OpenClaim := { program := "ytfjfgcnbokefbaa", sum := "51784330c4a12f9dae56fdb2d768d70fc5f94d388fadc38d1c4e747624f3fa80", func := "furrow/furrowlaw1.NumGcd", spec := "numGcd", apart := false, narrowed := true }
def NumGcdUptoSaid : Prop := numGcdUptoRow.holds Try.pinned (OpenSpec.upto numGcdSpec)

/-- 'furrowlaw1.NumAny', WHERE WHAT IT READS IS OF BULK AT MOST 1048576: true; the input reads as it did. -/
def numAnyUptoRow : OpenClaim := { program := "ytfjfgcnbokefbaa", sum := "51784330c4a12f9dae56fdb2d768d70fc5f94d388fadc38d1c4e747624f3fa80", func := "furrow/furrowlaw1.NumAny", spec := "numAny", apart := false, narrowed := true }
def NumAnyUptoSaid : Prop := numAnyUptoRow.holds Try.pinned (OpenSpec.upto numAnySpec)

/-- 'furrowlaw1.NumBack', WHERE WHAT IT READS IS OF BULK AT MOST 1048576: true; the input reads as it did. -/
def numBackUptoRow : OpenClaim := { program := "ytfjfgcnbokefbaa", sum := "51784330c4a12f9dae56fdb2d768d70fc5f94d388fadc38d1c4e747624f3fa80", func := "furrow/furrowlaw1.NumBack", spec := "numBack", apart := false, narrowed := true }
def NumBackUptoSaid : Prop := numBackUptoRow.holds Try.pinned (OpenSpec.upto numBackSpec)

end Rows
end Go.Proofs.Ytfjfgcnbokefbaa
