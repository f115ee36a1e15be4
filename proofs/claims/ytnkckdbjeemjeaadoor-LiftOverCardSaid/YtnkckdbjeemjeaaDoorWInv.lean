/- Words of the printed walks, as far as they are used here; no conditions. -/
import Derived.Test.YtnkckdbjeemjeaaDoorWTab
namespace Go.Proofs.YtnkckdbjeemjeaaDoorW.PrintLast
/-- Number i is listed too. -/
def up (b : Nat → Bool) (i : Nat) : Nat → Bool := fun j => if j = i then true else b j
end Go.Proofs.YtnkckdbjeemjeaaDoorW.PrintLast
