/- What the functions come to, printed by a program and checked by the kernel. -/
import Derived.Test.YtklhcnnpgkkjcaaGreatDoorTRDf
namespace Go.Proofs.YtklhcnnpgkkjcaaGreatDoor
open Go Go.Ab Tryz
set_option maxRecDepth 100000
theorem yb2 a:eL (z8r a) ((z91 a).bind fun x0=>(z8x 5 x0.2.1 x0.2.2).bind fun x1=>(z6q (x1.2.2.2.2.length:Int) x1.2.2.1 x1.2.2.2.1).bind fun x2=>(z6f (Config.mk x1.2.2.2.2) x2.1).bind fun x3=>bif neB x3.2 0 then some false else z5u (x1.2.2.2.2.length:Int) x2.1 0 x2.2.1 x2.2.2 x1.2.2.2.2 x3.1.Members):=cL o1' func3
theorem y85 a:eL (z91 a) (hiK (a.length) (if 400<(a.length:Int)then 400 else(a.length:Int)) fun b0=>some ((),(List.drop 0 (List.take b0 a)),0)):=cL o23' func4
theorem yas a b c:eL (z8x a b c) ((z38 1 a b c).bind fun x0=>(z3g 3 x0.2.1 x0.2.2).bind fun x1=>z2x x0.1 x1.1 0 x1.2.1 x1.2.2 [] []):=cL o18' func5
theorem y84 a b c:eL (z6q a b c) (z49 a [] 0 b c):=cL o9' func6
theorem ydf a b:eL (z6f a b) ((z0y a).bind fun x0=>bif neB x0 0 then some ((Config.mk []),x0)else(z6g b).bind fun x1=>(z5t x1.2).bind fun x2=>z3s x2.1 (x2.1.length:Int) 0 a.Members b [] x2.2):=cL o10' func7
theorem ydk a b c d:eL (z38 a b c d) ((z3g (addI .i64 (subI .i64 b a) 1) c d).bind fun x0=>some ((addI .i64 a x0.1),x0.2.1,x0.2.2)):=cL o6' func16
theorem y1e a b c:eL (z3g a b c) (bif(leB (b.length:Int) c)then some (0,b,c)else nth b c fun y0=>chk (a≠0)<|bif ltB (remI .i64 y0 a) 0 then some ((addI .i64 (remI .i64 y0 a) a),b,(addI .i64 c 1))else some ((remI .i64 y0 a),b,(addI .i64 c 1))):=cL o6' func8
theorem y7j a:eL (z0y a) (bif(ltB 10 (a.Members.length:Int))then some 3 else z11 a.Members (a.Members.length:Int) 0 a.Members):=cL o0' func20
theorem ybj a:eL (z6g a) (some ((),a)):=cL o24' func22
theorem y7t a b c d e f g:eL (z5u a b c d e f g) (bif ltB c 8 then chk (0<=a)<|(z3g (shlI .i64 1 a) d e).bind fun x0=>(z82 (Config.mk f) x0.1).bind fun x1=>(z7o x0.1 b).bind fun x2=>(z82 (Config.mk g) x2).bind fun x3=>(z89 (Config.mk f) x0.1).bind fun x4=>(z7o x0.1 b).bind fun x5=>(z89 (Config.mk g) x5).bind fun x6=>bif neB x1.2 0 then some false else bif neB x3.2 0 then some false else bif neB x4.2 0 then some false else bif neB x6.2 0 then some false else bif !(x1.1==x3.1)then some false else bif !(x4.1==x6.1)then some false else(z7o x0.1 b).bind fun x7=>(z1n (Config.mk g) x7).bind fun x8=>(z1n (Config.mk f) x0.1).bind fun x9=>(z7o x9 b).bind fun x10=>bif neB x8 x10 then some false else z5u a b (addI .i64 c 1) x0.2.1 x0.2.2 f g else(z93 (Config.mk f) d e).bind fun x11=>(z8u (Config.mk f) (Config.mk f) x11.1).bind fun x12=>(z7o x11.1 b).bind fun x13=>(z8u (Config.mk g) (Config.mk g) x13).bind fun x14=>bif eqB x12.2 0 then bif eqB x14.2 0 then(z7o x12.1 b).bind fun x15=>bif eqB x14.1 x15 then(z60).bind fun x16=>some x16 else some false else some false else some false):=gL o1' (q07 f3 [1,1,1,1,1,1,1,0,1,0,0])
theorem ybr a b:eL (z82 a b) ((z8a a b).bind fun x0=>bif neB x0 0 then some (false,x0)else(z8k a b).bind fun x1=>some (x1,0)):=cL o7' func9
theorem ycv a b:eL (z7o a b) (z6h a 0 b (b.length:Int) 0):=cL o0' func10
theorem yav a b:eL (z89 a b) ((z8a a b).bind fun x0=>bif neB x0 0 then some (false,x0)else(z8n a b).bind fun x1=>some (x1,0)):=cL o7' func11
theorem y8i a b:eL (z1n a b) ((z2k a b).bind fun x0=>some x0.1):=cL o0' func12
theorem yc6 a b c:eL (z93 a b c) ((z7d [0,1,1,2,3] b c).bind fun x0=>z8h (a.Members.length:Int) 0 x0.1 x0.2.1 x0.2.2 a.Members):=cL o6' func13
theorem ycb a b c:eL (z8u a b c) ((z8y a b c).bind fun x0=>some (x0.1,x0.2.2)):=cL o5' func14
theorem yc3 a b:eL (z8a a b) ((z0y a).bind fun x0=>bif neB x0 0 then some x0 else bif ltB b 0 then some 1 else(z7r a).bind fun x1=>bif ltB x1 b then some 1 else some 0):=cL o0' func25
theorem yc8 a b:eL (z8k a b) ((z7e a b).bind fun x0=>(z6c x0).bind fun x1=>some (!x1.1)):=cL o1' func26
theorem ydi a b:eL (z8n a b) ((z7r a).bind fun x0=>(z1n a (q3i .i64 x0 b)).bind fun x1=>some (eqB x1 0)):=cL o1' func28
theorem y8u a b:eL (z2k a b) ((z0l b).bind fun x0=>bif !x0 then some (0,[])else(z0m a).bind fun x1=>z19 (andI .i64 b x1) [] a.Members):=cL o19' func29
theorem ydd a b c:eL (z7d a b c) ((z3g (a.length:Int) b c).bind fun x0=>nth a x0.1 fun y1=>some (y1,x0.2.1,x0.2.2)):=cL o6' func30
theorem yb5 a b c:eL (z8y a b c) ((z83 a b c).bind fun x0=>bif neB x0.2 0 then some (0,false,x0.2)else(z56 a c).bind fun x1=>bif !x1.1 then some (0,false,0)else(z7s a).bind fun x2=>z7w x2 x0.1 (x0.1.length:Int) 0 a.Members b.Members):=cL o20' func32
theorem ydc a:eL (z4t a) ((z0y a).bind fun x0=>bif neB x0 0 then some ([],x0)else(z61 a).bind fun x1=>(z52 x1).bind fun x2=>some (x2,0)):=cL o11' func34
theorem ybd a b:eL (z8l a b) (bif(neB (a.length:Int) (b.length:Int))then some false else z5c a b (a.length:Int) 0):=cL o1' func37
theorem yb7 a:eL (z7r a) (chk (0<=(a.Members.length:Int))<|some (subI .i64 (shlI .i64 1 (a.Members.length:Int)) 1)):=cL o0' func45
theorem yaz a b:eL (z7e a b) (z3h b a.Members (a.Members.length:Int) 0 a.Members [] []):=cL o12' func47
theorem yce a:eL (z6c a) ((z0y a).bind fun x0=>bif neB x0 0 then some (false,x0)else(z7k a).bind fun x1=>some ((eqB x1.1 0),0)):=cL o7' func46
theorem y4c a:eL (z0l a) ((z29 a 10).bind fun x0=>some x0):=cL o1' func49
theorem y8s a:eL (z0m a) (z08 0 a.Members (a.Members.length:Int) 0 a.Members):=cL o0' func50
theorem yan a b c:eL (z83 a b c) ((z7v a b c).bind fun x0=>bif neB x0 0 then some ([],x0)else(z5b a).bind fun x1=>(z84 x1).bind fun x2=>z3w c [] x2 (x2.length:Int) 0 a.Members b.Members):=cL o11' func52
theorem ybu a b:eL (z56 a b) ((z5v a b).bind fun x0=>bif neB x0 0 then some (false,x0)else(z7e a b).bind fun x1=>(z6c x1).bind fun x2=>some (x2.1,x2.2)):=cL o7' func53
theorem yd0 a:eL (z7s a) (chk (0<=(a.Members.length:Int))<|some (subI .i64 (shlI .i64 1 (a.Members.length:Int)) 1)):=cL o0' func54
theorem ydj a:eL (z61 a) (chk (0<=(a.Members.length:Int))<|z2f [] (shlI .i64 1 (a.Members.length:Int)) 0 a.Members):=cL o3' func59
end Go.Proofs.YtklhcnnpgkkjcaaGreatDoor
