/- NestDepth run by the kernel at some of its cases: only the remainders are known. -/
import Derived.Test.YtaoanbebgeeicaaGreatDoorG17
namespace Go.Proofs.YtaoanbebgeeicaaGreatDoor.G
open Go
set_option maxRecDepth 1000000
theorem nd5_0_0 (a b c : Int) : callF envK (run envK 1000000) 5 [.sy .u8 a 6 4, .sy .u8 b 6 0, .sy .u8 c 1 0] baseH 1 (fun v _ _ => beqAV v (.bool true)) = true := by kernel_rfl
theorem nd5_1_1 (a b c : Int) : callF envK (run envK 1000000) 5 [.sy .u8 a 6 4, .sy .u8 b 6 1, .sy .u8 c 2 1] baseH 1 (fun v _ _ => beqAV v (.bool true)) = true := by kernel_rfl
theorem nd3_2_1 (a b c : Int) : callF envK (run envK 1000000) 5 [.sy .u8 a 6 2, .sy .u8 b 4 2, .sy .u8 c 2 1] baseH 1 (fun v _ _ => beqAV v (.bool true)) = true := by kernel_rfl
end Go.Proofs.YtaoanbebgeeicaaGreatDoor.G
