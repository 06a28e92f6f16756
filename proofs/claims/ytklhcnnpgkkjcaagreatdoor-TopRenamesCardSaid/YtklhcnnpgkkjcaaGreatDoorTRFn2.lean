/- What the functions come to, printed by a program and checked by the kernel. -/
import Derived.Test.YtklhcnnpgkkjcaaGreatDoorTRDf
namespace Go.Proofs.YtklhcnnpgkkjcaaGreatDoor
open Go Go.Ab Tryz
set_option maxRecDepth 100000
theorem yci a:eL (z8t a) (bif leB 0 a then some (leB a 1023)else some false):=cL o1' func48
theorem y8x a b c d e f:eL (z8h a b c d e f) (bif ltB 0 c then(z3g a d e).bind fun x0=>chk (0<=x0.1)<|z8h a (orI .i64 b (shlI .i64 1 x0.1)) (subI .i64 c 1) x0.2.1 x0.2.2 f else chk (0<=a)<|(z8b (Config.mk f)).bind fun x1=>(z3g 2 d e).bind fun x2=>some ((orI .i64 b (mulI .i64 (q3i .i64 (subI .i64 (shlI .i64 1 a) 1) x1) x2.1)),x2.2.1,x2.2.2)):=gL o6' (q07 f13 [1,1,1,0,1,0,0])
theorem yau a:eL (z8b a) (z4c 0 a.Members (a.Members.length:Int) 0 a.Members):=cL o0' func31
theorem y1l a b c:eL (z19 a b c) ((z1q (Config.mk c) a).bind fun x0=>bif !x0.2 then some (a,b)else capOk (b.length+List.length [x0.1])<|chk (0<=x0.1)<|z19 (q3i .i64 a (shlI .i64 1 x0.1)) (b++([x0.1]:LI)) c):=gL o19' (q07 f29 [1,1,1,1,0,0])
theorem y3r a b:eL (z1q a b) ((z3a b).bind fun x0=>z13 b x0 (x0.length:Int) 0 a.Members):=cL o8' func51
theorem y7i a:eL (z3a a) (z1e a [] 0):=cL o3' func79
theorem y7p a b c d e f:eL (z7w a b c d e f) (bif ltB d c then nth b d fun y0=>z7w (andI .i64 a y0) b c (addI .i64 d 1) e f else(z7s (Config.mk e)).bind fun x1=>some ((q3i .i64 x1 a),true,0)):=gL o20' (q07 f32 [1,1,1,1,1,1,0,1,0,0])
theorem y81 a b:eL (z0p a b) ((z0l a).bind fun x0=>bif x0 then bif leB 0 b then bif ltB b 10 then chk (0<=b)<|some (neB (andI .i64 a (shlI .i64 1 b)) 0)else some false else some false else some false):=cL o1' func75
end Go.Proofs.YtklhcnnpgkkjcaaGreatDoor
