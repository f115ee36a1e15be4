/- Two names that the printed texts open; nothing is proved. -/
import Derived.Test.YtfjfgcnbokefbaaProg
namespace Go.Proofs.Ytfjfgcnbokefbaa.Flt
end Go.Proofs.Ytfjfgcnbokefbaa.Flt
namespace Go.Proofs.Ytfjfgcnbokefbaa.H
end Go.Proofs.Ytfjfgcnbokefbaa.H
