/-
  No cell of these rows narrows 'for every input' (looked for: loops, veiled, ifaces, maps, wideKeys, modest, calm, conditions, laid).
  DERIVED. THE GIVEN ROWS OF THIS SEAT. 4 by the template 'for every input the law returns true; each argument reads behind the call as it read before'; 0 by the template 'total and deterministic' (their statements: YtmglfimdhbooeaaTotals.lean).
  GIVEN WITH THE SEED: the statements are not yours to turn. If you find one false, say at which input.
  Laid BY PROGRAM, IN A SANDBOX (cutbox-rows.mjs): the forced cells as the released guide's own fill.sh prints them over the translation 6a449c75cdf6a161… (all of the seat's roots in one cut). By AI agents, Wed Nov 11 2026. No macro, syntax, notation, axiom, sorry.
-/
import Derived.Test.YtmglfimdhbooeaaChecked
import GoSem.Claim
import GoSem.ClaimJoined
import GoSem.ClaimMapViews
import Derived.JoinedTies
import Derived.KernelRfl
namespace Go.Proofs.Ytmglfimdhbooeaa
/- THE CELL 'sum', in the pinned program and in every row, IS THE sha256 OF THE DUMP (.gsa) THAT YtmglfimdhbooeaaProg.lean LOADS. Nothing in Lean hashes anything: it is a label: what it is worth is what the hold of that sum in a sandbox is worth. -/
noncomputable def Try.pinned : Pinned := { name := "ytmglfimdhbooeaa", sum := "6a449c75cdf6a1615babfd80e296c3d1e9a13fb24554b300a91df0b18236da9d", checked := Try.checked }
namespace Rows
def none {H : Type} : Left H := { results := [], args := [] }

/-- 'furrowlaw16.DropAny': WHATEVER THE INPUT: true; the input reads as it did. -/
def dropAnySpec : ChangeSpec := { name := "dropAny", fn := fun _ => fun
  | [d1, d2] => { results := [.lit (.bool true)], args := [d1, d2] }
  | _ => none }
def dropAnyRow : OpenClaim := { program := "ytmglfimdhbooeaa", sum := "6a449c75cdf6a1615babfd80e296c3d1e9a13fb24554b300a91df0b18236da9d", func := "furrow/furrowlaw16.DropAny", spec := "dropAny", unfollowed := true, recurses := true, apart := false }
def DropAnySaid : Prop := dropAnyRow.holds Try.pinned (OpenSpec.ofChange dropAnySpec)

/-- ITS FALSE NEIGHBOUR: 'it returns false'. Refute it at one input. -/
def dropAnyWrong : ChangeSpec := { name := "dropAny", fn := fun _ => fun
  | [d1, d2] => { results := [.lit (.bool false)], args := [d1, d2] }
  | _ => none }
def DropAnyWrongFalsely : Prop := dropAnyRow.holds Try.pinned (OpenSpec.ofChange dropAnyWrong)

/-- 'furrowlaw16.DropHolds': WHATEVER THE INPUT: true; the input reads as it did. -/
def dropHoldsSpec : ChangeSpec := { name := "dropHolds", fn := fun _ => fun
  | [d1, d2, d3, d4] => { results := [.lit (.bool true)], args := [d1, d2, d3, d4] }
  | _ => none }
def dropHoldsRow : OpenClaim := { program := "ytmglfimdhbooeaa", sum := "6a449c75cdf6a1615babfd80e296c3d1e9a13fb24554b300a91df0b18236da9d", func := "furrow/furrowlaw16.DropHolds", spec := "dropHolds", unfollowed := true, recurses := true, apart := false }
def DropHoldsSaid : Prop := dropHoldsRow.holds Try.pinned (OpenSpec.ofChange dropHoldsSpec)

/-- ITS FALSE NEIGHBOUR: 'it returns false'. Refute it at one input. -/
def dropHoldsWrong : ChangeSpec := { name := "dropHolds", fn := fun _ => fun
  | [d1, d2, d3, d4] => { results := [.lit (.bool false)], args := [d1, d2, d3, d4] }
  | _ => none }
def DropHoldsWrongFalsely : Prop := dropHoldsRow.holds Try.pinned (OpenSpec.ofChange dropHoldsWrong)

/-- 'furrowlaw16.DropPlane': WHATEVER THE INPUT: true; the input reads as it did. -/
def dropPlaneSpec : ChangeSpec := { name := "dropPlane", fn := fun _ => fun
  | [d1, d2, d3, d4] => { results := [.lit (.bool true)], args := [d1, d2, d3, d4] }
  | _ => none }
def dropPlaneRow : OpenClaim := { program := "ytmglfimdhbooeaa", sum := "6a449c75cdf6a1615babfd80e296c3d1e9a13fb24554b300a91df0b18236da9d", func := "furrow/furrowlaw16.DropPlane", spec := "dropPlane", unfollowed := true, recurses := true, apart := false }
def DropPlaneSaid : Prop := dropPlaneRow.holds Try.pinned (OpenSpec.ofChange dropPlaneSpec)

/-- ITS FALSE NEIGHBOUR: 'it returns false'. Refute it at one input. -/
def dropPlaneWrong : ChangeSpec := { name := "dropPlane", fn := fun _ => fun
  | [d1, d2, d3, d4] => { results := [.lit (.bool false)], args := [d1, d2, d3, d4] }
  | _ => none }
def DropPlaneWrongFalsely : Prop := dropPlaneRow.holds Try.pinned (OpenSpec.ofChange dropPlaneWrong)

/-- 'furrowlaw16.DropNone': WHATEVER THE INPUT: true; the input reads as it did. -/
def dropNoneSpec : ChangeSpec := { name := "dropNone", fn := fun _ => fun
  | [d1, d2] => { results := [.lit (.bool true)], args := [d1, d2] }
  | _ => none }
def dropNoneRow : OpenClaim := { program := "ytmglfimdhbooeaa", sum := "6a449c75cdf6a1615babfd80e296c3d1e9a13fb24554b300a91df0b18236da9d", func := "furrow/furrowlaw16.DropNone", spec := "dropNone", unfollowed := true, recurses := true, apart := false }
def DropNoneSaid : Prop := dropNoneRow.holds Try.pinned (OpenSpec.ofChange dropNoneSpec)

/-- ITS FALSE NEIGHBOUR: 'it returns false'. Refute it at one input. -/
def dropNoneWrong : ChangeSpec := { name := "dropNone", fn := fun _ => fun
  | [d1, d2] => { results := [.lit (.bool false)], args := [d1, d2] }
  | _ => none }
def DropNoneWrongFalsely : Prop := dropNoneRow.holds Try.pinned (OpenSpec.ofChange dropNoneWrong)

/- THE SECOND FORM. 'bulk': how many values and letters a reading holds, each counted each time it is reached (what is shared counts as often as it is met; a slice's spare places count too). A statement '..UptoSaid' is the law's where the arguments, and the package variables that the reading takes, are together of bulk at most 1048576: NARROWER than '..Said'. Prove '..Said' where nothing that the law and all that it calls make is longer than what came in: it says more and counts as full. Else prove '..UptoSaid'. A law counts once. -/
mutual
def uptoBulk {H : Type} : DataW H → Nat
  | .lit (.string bytes) => bytes.length + 1
  | .lit _ => 1
  | .nil => 1
  | .ptr d => uptoBulk d + 1
  | .slice elems spare => uptoBulkAll elems + uptoBulkAll spare + 1
  | .agg parts => uptoBulkAll parts + 1
  | .iface _ d => uptoBulk d + 1
  | .map entries => uptoBulkEntries entries + 1
  | .held _ => 1
def uptoBulkAll {H : Type} : List (DataW H) → Nat
  | [] => 0
  | d :: r => uptoBulk d + uptoBulkAll r
def uptoBulkEntries {H : Type} : List (Lit × DataW H) → Nat
  | [] => 0
  | x :: r => uptoBulkEntry x + uptoBulkEntries r
def uptoBulkEntry {H : Type} : Lit × DataW H → Nat
  | (.string bytes, d) => bytes.length + uptoBulk d + 1
  | (_, d) => uptoBulk d + 1
 end
def uptoSmall : (H : Type) → List (DataW H) → Bool := fun _ ds => decide (uptoBulkAll ds ≤ 1048576)
def OpenSpec.upto (s : _root_.Go.ChangeSpec) : _root_.Go.OpenSpec := { _root_.Go.OpenSpec.ofChange s with cond := some uptoSmall }

/-- 'furrowlaw16.DropAny', WHERE WHAT IT READS IS OF BULK AT MOST 1048576: true; the input reads as it did. -/
def dropAnyUptoRow : OpenClaim := { program := "ytmglfimdhbooeaa", sum := "6a449c75cdf6a1615babfd80e296c3d1e9a13fb24554b300a91df0b18236da9d", func := "furrow/furrowlaw16.DropAny", spec := "dropAny", unfollowed := true, recurses := true, apart := false, narrowed := true }
def DropAnyUptoSaid : Prop := dropAnyUptoRow.holds Try.pinned (OpenSpec.upto dropAnySpec)

/-- 'furrowlaw16.DropHolds', WHERE WHAT IT READS IS OF BULK AT MOST 1048576: true; the input reads as it did. -/
def dropHoldsUptoRow : OpenClaim := { program := "ytmglfimdhbooeaa", sum := "6a449c75cdf6a1615babfd80e296c3d1e9a13fb24554b300a91df0b18236da9d", func := "furrow/furrowlaw16.DropHolds", spec := "dropHolds", unfollowed := true, recurses := true, apart := false, narrowed := true }
def DropHoldsUptoSaid : Prop := dropHoldsUptoRow.holds Try.pinned (OpenSpec.upto dropHoldsSpec)

/-- 'furrowlaw16.DropPlane', WHERE WHAT IT READS IS OF BULK AT MOST 1048576: true; the input reads as it did. -/
def dropPlaneUptoRow : OpenClaim := { program := "ytmglfimdhbooeaa", sum := "6a449c75cdf6a1615babfd80e296c3d1e9a13fb24554b300a91df0b18236da9d", func := "furrow/furrowlaw16.DropPlane", spec := "dropPlane", unfollowed := true, recurses := true, apart := false, narrowed := true }
def DropPlaneUptoSaid : Prop := dropPlaneUptoRow.holds Try.pinned (OpenSpec.upto dropPlaneSpec)

/-- 'furrowlaw16.DropNone', WHERE WHAT IT READS IS OF BULK AT MOST 1048576: true; the input reads as it did. -/
def dropNoneUptoRow : OpenClaim := { program := "ytmglfimdhbooeaa", sum := "6a449c75cdf6a1615babfd80e296c3d1e9a13fb24554b300a91df0b18236da9d", func := "furrow/furrowlaw16.DropNone", spec := "dropNone", unfollowed := true, recurses := true, apart := false, narrowed := true }
def DropNoneUptoSaid : Prop := dropNoneUptoRow.holds Try.pinned (OpenSpec.upto dropNoneSpec)

end Rows
end Go.Proofs.Ytmglfimdhbooeaa
