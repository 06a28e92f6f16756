/- What the functions come to, printed by a program and checked by the kernel. -/
import Derived.Test.YtklhcnnpgkkjcaaGreatDoorTRDf
namespace Go.Proofs.YtklhcnnpgkkjcaaGreatDoor
open Go Go.Ab Tryz
set_option maxRecDepth 100000
theorem y22 a b c d e f g h:eL (z0n a b c d e f g h) (bif ltB e d then nth c e fun y0=>(z0z y0 a).bind fun x1=>bif x1 then z0n a (addI .i64 b 1) c d (addI .i64 e 1) f g h else z0n a b c d (addI .i64 e 1) f g h else some (leB f b)):=gL o1' (q07 f130 [1,1,1,1,0,1,0,0])
theorem y7u a b c d e f g h i j k l m:eL (z0x a b c d e f g h i j k l m) (bif ltB c b then nth a c fun y0=>(z12 y0 d).bind fun x1=>capOk (m.length+List.length [(Trust.mk x1.1.Threshold x1.1.Nodes x1.1.Inner)])<|z0x a b (addI .i64 c 1) x1.2 e f g h i j k l (m++([(Trust.mk x1.1.Threshold x1.1.Nodes x1.1.Inner)]:LT))else some ((Trust.mk k l m),d)):=gL o15' (q07 f23 [1,1,1,0,1,0,0])
end Go.Proofs.YtklhcnnpgkkjcaaGreatDoor
