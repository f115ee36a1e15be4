/- NestDepth run by the kernel at some of its cases: only the remainders are known. -/
import Derived.Test.YtaoanbebgeeicaaGreatDoorG17
namespace Go.Proofs.YtaoanbebgeeicaaGreatDoor.G
open Go
set_option maxRecDepth 1000000
theorem nd6_1_0 (a b c : Int) : callF envK (run envK 1000000) 5 [.sy .u8 a 6 5, .sy .u8 b 7 1, .sy .u8 c 2 0] baseH 1 (fun v _ _ => beqAV v (.bool true)) = true := by kernel_rfl
theorem nd5_3_0 (a b c : Int) : callF envK (run envK 1000000) 5 [.sy .u8 a 6 4, .sy .u8 b 6 3, .sy .u8 c 2 0] baseH 1 (fun v _ _ => beqAV v (.bool true)) = true := by kernel_rfl
theorem nd2_1_0 (a b c : Int) : callF envK (run envK 1000000) 5 [.sy .u8 a 6 1, .sy .u8 b 3 1, .sy .u8 c 2 0] baseH 1 (fun v _ _ => beqAV v (.bool true)) = true := by kernel_rfl
end Go.Proofs.YtaoanbebgeeicaaGreatDoor.G
