/- What the functions come to, printed by a program and checked by the kernel. -/
import Derived.Test.YtklhcnnpgkkjcaaGreatDoorTRDf
namespace Go.Proofs.YtklhcnnpgkkjcaaGreatDoor
open Go Go.Ab Tryz
set_option maxRecDepth 100000
theorem yaj a:eL (z0f a) ((z0w a).bind fun x0=>bif eqB x0.1 (-1)then some ((),x0.2)else z7m x0.1 (addI .i64 x0.1 1) x0.2):=cL o17' func262
theorem yd5 a b c d:eL (z5c a b c d) (bif ltB d c then nth a d fun y0=>nth b d fun y1=>bif neB y0 y1 then some false else z5c a b c (addI .i64 d 1)else some true):=gL o1' (q07 f37 [1,1,0,1,0,0])
theorem y7e a b c d e f g:eL (z3h a b c d e f g) (bif ltB d c then nth b d fun y0=>(z0p a d).bind fun x1=>bif x1 then capOk (g.length+List.length [(Member.mk false (Trust.mk 0 [] []))])<|z3h a b c (addI .i64 d 1) e f (g++([(Member.mk false (Trust.mk 0 [] []))]:LB))else bif y0.Declared then(z8c y0.Trust d a).bind fun x2=>capOk (g.length+List.length [(Member.mk y0.Declared (Trust.mk x2.Threshold x2.Nodes x2.Inner))])<|z3h a b c (addI .i64 d 1) e f (g++([(Member.mk y0.Declared (Trust.mk x2.Threshold x2.Nodes x2.Inner))]:LB))else(z6m y0.Trust).bind fun x3=>capOk (g.length+List.length [(Member.mk y0.Declared (Trust.mk x3.Threshold x3.Nodes x3.Inner))])<|z3h a b c (addI .i64 d 1) e f (g++([(Member.mk y0.Declared (Trust.mk x3.Threshold x3.Nodes x3.Inner))]:LB))else some (Config.mk g)):=gL o12' (q07 f47 [1,1,0,1,0,0])
theorem ycx a b c:eL (z8c a b c) ((z0l c).bind fun x0=>bif !x0 then(z6m a).bind fun x1=>some (Trust.mk x1.Threshold x1.Nodes x1.Inner)else(z7t a c).bind fun x2=>bif eqB x2.Threshold 0 then some (Trust.mk 1 [b] [])else some (Trust.mk x2.Threshold x2.Nodes x2.Inner)):=cL o2' func76
theorem ybx a:eL (z6m a) (capOk (([]:LI).length+a.Nodes.length)<|z5k a.Inner (a.Inner.length:Int) 0 a.Threshold a.Nodes a.Inner 0 [] [] a.Threshold ([]++a.Nodes) []):=cL o2' func77
theorem ybn a b:eL (z7t a b) (z59 b a.Nodes (a.Nodes.length:Int) 0 a.Threshold a.Nodes a.Inner 0 [] [] (if 0>a.Threshold then 0 else a.Threshold) [] []):=cL o2' func129
theorem y2t a b c d e:eL (z08 a b c d e) (bif ltB d c then nth b d fun y0=>bif y0.Declared then bif ltB d 10 then chk (0<=d)<|z08 (orI .i64 a (shlI .i64 1 d)) b c (addI .i64 d 1) e else z08 a b c (addI .i64 d 1) e else z08 a b c (addI .i64 d 1) e else some a):=gL o0' (q07 f50 [1,1,0,1,0,0])
theorem y8r a b c d e f g:eL (z3w a b c d e f g) (bif ltB e d then nth c e fun y0=>bif eqB (q3i .i64 a y0) 0 then(z8d (Config.mk f) (Config.mk g) y0).bind fun x1=>bif x1 then capOk (b.length+List.length [y0])<|z3w a (b++([y0]:LI)) c d (addI .i64 e 1) f g else z3w a b c d (addI .i64 e 1) f g else z3w a b c d (addI .i64 e 1) f g else some (b,0)):=gL o11' (q07 f52 [1,1,1,0,1,0,0])
theorem ycr a b c:eL (z8d a b c) ((z6d b c).bind fun x0=>bif !x0.1 then some false else(z56 a c).bind fun x1=>some x1.1):=cL o1' func84
theorem ycy a b:eL (z6d a b) ((z5v a b).bind fun x0=>bif neB x0 0 then some (false,x0)else(z5b a).bind fun x1=>bif eqB (q3i .i64 x1 b) 0 then some (true,0)else(z2t a (q3i .i64 x1 b)).bind fun x2=>some (x2,0)):=cL o7' func132
theorem y8t a b:eL (z2t a b) ((z0l b).bind fun x0=>bif !x0 then some false else bif eqB b 0 then some false else(z3i a b).bind fun x1=>bif !x1 then some false else(z1q a b).bind fun x2=>some (!x2.2)):=cL o1' func98
theorem y7s a b:eL (z3i a b) ((z0m a).bind fun x0=>some (eqB (q3i .i64 b x0) 0)):=cL o1' func147
end Go.Proofs.YtklhcnnpgkkjcaaGreatDoor
