/- Words of the printed walks, as far as they are used here; no conditions. -/
import Derived.Test.YtnkckdbjeemjeaaGreatDoorWTab
namespace Go.Proofs.YtnkckdbjeemjeaaGreatDoorW.PrintLast
def up (b : Nat → Bool) (i : Nat) : Nat → Bool := fun j => if j = i then true else b j
end Go.Proofs.YtnkckdbjeemjeaaGreatDoorW.PrintLast
