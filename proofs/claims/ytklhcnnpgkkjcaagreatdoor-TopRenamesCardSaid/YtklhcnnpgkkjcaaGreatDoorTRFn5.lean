/- What the functions come to, printed by a program and checked by the kernel. -/
import Derived.Test.YtklhcnnpgkkjcaaGreatDoorTRDf
namespace Go.Proofs.YtklhcnnpgkkjcaaGreatDoor
open Go Go.Ab Tryz
set_option maxRecDepth 100000
theorem y46 a b c d e f:eL (z1h a b c d e f) (bif ltB c b then nth a c fun y0=>(z2d y0).bind fun x1=>bif neB x1 0 then some x1 else z1h a b (addI .i64 c 1) d e f else some 0):=gL o0' (q07 f114 [1,1,1,1,0,1,0,0])
theorem qto a b c d:eL (z2a a b c d) (bif ltB d c then nth b d fun y0=>bif ltB y0 0 then some (0,5)else bif leB 10 y0 then some (0,5)else(z0p a y0).bind fun x1=>bif x1 then some (0,6)else chk (0<=y0)<|z2a (orI .i64 a (shlI .i64 1 y0)) b c (addI .i64 d 1)else some (a,0)):=gL o5' (q07 f162 [1,1,0,1,0,0])
theorem qyq a b c:eL (z00 a b c) (bif ltB c b then nth a c fun y0=>(z2n y0).bind fun x1=>bif x1 then some c else z00 a b (addI .i64 c 1)else some (-1)):=gL o0' (q07 f142 [1,0,1,0,0])
theorem y89 a:eL (z2n a) ((z2m a).bind fun x0=>some (!x0)):=cL o1' func161
theorem y7g a b c d e:eL (z4c a b c d e) (bif ltB d c then nth b d fun y0=>bif ltB d 10 then bif y0.Declared then chk (0<=d)<|z4c (orI .i64 a (shlI .i64 1 d)) b c (addI .i64 d 1) e else z4c a b c (addI .i64 d 1) e else z4c a b c (addI .i64 d 1) e else some a):=gL o0' (q07 f31 [1,1,0,1,0,0])
theorem qpn a b c d e:eL (z13 a b c d e) (bif ltB d c then nth b d fun y0=>(z2i (Config.mk e) y0 a).bind fun x1=>bif !x1 then some (y0,true)else z13 a b c (addI .i64 d 1) e else some (0,false)):=gL o8' (q07 f51 [1,0,1,0,0])
theorem y2y a b c:eL (z2i a b c) (nth a.Members b fun y0=>(z0z y0.Trust c).bind fun x1=>some x1):=cL o1' func80
theorem y44 a b c:eL (z1e a b c) (bif ltB c 10 then(z0p a c).bind fun x0=>bif x0 then capOk (b.length+List.length [c])<|z1e a (b++([c]:LI)) (addI .i64 c 1)else z1e a b (addI .i64 c 1)else some b):=gL o3' (q07 f79 [1,1,0,1,0,0])
theorem ydn a b:eL (z2j a b) ((z33 a).bind fun x0=>(z33 b).bind fun x1=>bif x0 then bif x1 then some 0 else some (-1)else bif x1 then some 1 else bif ltB a b then some (-1)else bif ltB b a then some 1 else some 0):=cL o0' func145
theorem yb6 a:eL (z33 a) (some (neB a a)):=cL o1' func168
theorem ybm a:eL (z6e a) (z34 0 a (a.length:Int) 0):=cL o0' func144
end Go.Proofs.YtklhcnnpgkkjcaaGreatDoor
