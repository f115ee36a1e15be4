/- Words of the printed walks, as far as they are used here; no conditions. -/
import Derived.Test.YtnkckdbjeemjeaaDoorWN
namespace Go.Proofs.YtnkckdbjeemjeaaDoorW.PrintWords
open Go.RowKit
section
variable {w w' u : World} {m B g : Nat} {o : Obj} {row : Option Nat} {S : Nat → Prop} {a : Addr} {v : Value}
theorem below_at (hq : w.drewN m = w') (h : Below B u w) : Below B u w' := by subst hq; exact pw_below_drewN h m
end
namespace Kd
end Kd
end Go.Proofs.YtnkckdbjeemjeaaDoorW.PrintWords
