/- What the functions come to, printed by a program and checked by the kernel. -/
import Derived.Test.YtdmfjabikomgiaaGreatP20Df
namespace Go.Proofs.YtdmfjabikomgiaaGreat
open Go Go.Ab
set_option maxRecDepth 100000
theorem law20_AssemblyAgrees_le a:eL (law20_AssemblyAgrees a) (Option.bind (z85 a) fun x0=>Option.bind (z82 5 x0.2.1 x0.2.2) fun x1=>Option.bind (z87 x1.1 x1.2.1 x1.2.2) fun x2=>Option.bind (z7v x1.1 x1.1 x2.1) fun x3=>Option.bind (z59 x3.1) fun x4=>z23 x2.1 x3.1 [] x4 (x4.length:Int) 0 x2.2.1 x2.2.2 x1.1.Members 5 3):=cL o1' Tryz.func6
theorem y98 a:eL (z85 a) (hiK (List.length a) (if 400<(a.length:Int)then 400 else(a.length:Int)) fun b0=>some ((),(List.drop 0 (List.take b0 a)),0)):=cL o38' Tryz.func11
theorem yga a b c:eL (z4g a b c) (Option.bind (z6o a b) fun x0=>bif neB x0.2 0 then some ((Meeting.mk [] 0 0),[],x0.2)else bif(ltB 400 (c.length:Int))then some ((Meeting.mk [] 0 0),[],3)else z3w [] c (c.length:Int) 0 a.Members [] 0 0 x0.1.Voters x0.1.Stopped x0.1.Ill):=cL o25' Tryz.func13
theorem yfk a:eL (z72 a) (Option.bind (z60 a) fun x0=>bif !x0 then some ((Meeting.mk [] 0 0),1)else z3e true a.Voters a.Stopped a.Ill [] 0 0):=cL o12' Tryz.func14
theorem ycp a b c:eL (z82 a b c) (Option.bind (z7z a b c) fun x0=>z71 x0.2.2.1 x0.2.2.2.1 [] x0.2.2.2.2):=cL o18' Tryz.func25
theorem y4v a b c:eL (z1e a b c) (bif(leB (b.length:Int) c)then some (0,b,c)else nth b c fun y0=>chk (a≠0)<|bif ltB (remI .i64 y0 a) 0 then some ((addI .i64 (remI .i64 y0 a) a),b,(addI .i64 c 1))else some ((remI .i64 y0 a),b,(addI .i64 c 1))):=cL o13' Tryz.func29
theorem ygi a:eL (z59 a) (z46 a [] 0):=cL o3' Tryz.func20
theorem yfj a b c:eL (z87 a b c) (Option.bind (z2t ([0,1,1,2,3]:List Int) b c) fun x0=>z6x (a.Members.length:Int) 0 x0.1 x0.2.1 x0.2.2 a.Members):=cL o13' Tryz.func26
theorem ydm a b c:eL (z7v a b c) (Option.bind (z6p a b c) fun x0=>bif neB x0.2 0 then some (0,x0.2)else Option.bind (z5k a) fun x1=>some ((subI .i64 x1 x0.1),0)):=cL o7' Tryz.func19
theorem yde a b c:eL (z2t a b c) (Option.bind (z1e (a.length:Int) b c) fun x0=>nth a x0.1 fun y1=>some (y1,x0.2.1,x0.2.2)):=cL o13' Tryz.func56
theorem yia a b c d e f:eL (z7w a b c d e f) (z0w b c d [] (a.Members.length:Int) 0 e f a.Members):=cL o19' Tryz.func27
theorem yg8 a b:eL (z6o a b) (Option.bind (z50 a) fun x0=>bif neB x0 0 then some ((Meeting.mk [] 0 0),x0)else bif(eqB (a.Members.length:Int) 0)then some ((Meeting.mk [] 0 0),1)else bif ltB b 0 then some ((Meeting.mk [] 0 0),1)else chk (0<=(a.Members.length:Int))<|bif(leB (shlI .i64 1 (a.Members.length:Int)) b)then some ((Meeting.mk [] 0 0),1)else z2z b a.Members (a.Members.length:Int) 0 a.Members [] 0 0 [] 0 b):=cL o12' Tryz.func41
theorem yct a:eL (z60 a) (bif(ltB (a.Voters.length:Int) 1)then some false else bif(ltB 10 (a.Voters.length:Int))then some false else bif ltB a.Ill 0 then some false else chk (0<=(a.Voters.length:Int))<|bif(leB (shlI .i64 1 (a.Voters.length:Int)) a.Ill)then some false else bif ltB a.Stopped 0 then some false else chk (0<=(a.Voters.length:Int))<|bif(leB (shlI .i64 1 (a.Voters.length:Int)) a.Stopped)then some false else bif neB (andI .i64 a.Ill a.Stopped) 0 then some false else z30 a.Voters (a.Voters.length:Int) 0 a.Voters a.Stopped a.Ill (a.Voters.length:Int)):=cL o1' Tryz.func51
theorem yd2 a b c:eL (z7z a b c) (Option.bind (z21 1 a b c) fun x0=>Option.bind (z1e 3 x0.2.1 x0.2.2) fun x1=>z1y x0.1 x1.1 0 x1.2.1 x1.2.2 [] []):=cL o26' Tryz.func70
theorem yeq a b c:eL (z6p a b c) (Option.bind (z7k a b c) fun x0=>bif neB x0 0 then some (0,x0)else Option.bind (z5k a) fun x1=>Option.bind (z52 a c) fun x2=>bif !x2.1 then some (x1,0)else Option.bind (z80 a b c) fun x3=>z3s x1 x3.1 (x3.1.length:Int) 0 a.Members b.Members):=cL o7' Tryz.func68
theorem ygq a:eL (z5k a) (chk (0<=(a.Members.length:Int))<|some (subI .i64 (shlI .i64 1 (a.Members.length:Int)) 1)):=cL o0' Tryz.func69
theorem ycv a:eL (z50 a) (bif(ltB 10 (a.Members.length:Int))then some 3 else z2e a.Members (a.Members.length:Int) 0 a.Members):=cL o0' Tryz.func91
theorem ycz a b c d:eL (z21 a b c d) (Option.bind (z1e (addI .i64 (subI .i64 b a) 1) c d) fun x0=>some ((addI .i64 a x0.1),x0.2.1,x0.2.2)):=cL o13' Tryz.func87
theorem yec a b c:eL (z7k a b c) (Option.bind (z76 a b) fun x0=>bif neB x0 0 then some x0 else bif ltB c 0 then some 1 else Option.bind (z5k a) fun x1=>bif ltB x1 c then some 1 else some 0):=cL o0' Tryz.func123
theorem yf8 a b:eL (z52 a b) (Option.bind (z4d a) fun x0=>bif neB x0 0 then some (false,x0)else Option.bind (z7a a b) fun x1=>bif neB x1 0 then some (false,x1)else Option.bind (z7b a b) fun x2=>Option.bind (z7l x2) fun x3=>some (x3.1,0)):=cL o20' Tryz.func16
theorem ydx a b c:eL (z80 a b c) (Option.bind (z7m a b c) fun x0=>bif neB x0 0 then some ([],x0)else Option.bind (z4u a) fun x1=>Option.bind (z6c x1) fun x2=>z4j c [] x2 (x2.length:Int) 0 a.Members b.Members):=cL o27' Tryz.func124
theorem yfr a b:eL (z76 a b) (Option.bind (z4d a) fun x0=>bif neB x0 0 then some x0 else Option.bind (z4d b) fun x1=>bif neB x1 0 then some x1 else bif(neB (a.Members.length:Int) (b.Members.length:Int))then some 1 else Option.bind (z2v a) fun x2=>Option.bind (z2v b) fun x3=>bif neB x2 x3 then some 1 else bif(ltB 7 (a.Members.length:Int))then some 3 else z3o (a.Members.length:Int) 0 a.Members b.Members):=cL o0' Tryz.func62
theorem ygd a:eL (z4d a) (bif(ltB 10 (a.Members.length:Int))then some 3 else z47 a.Members (a.Members.length:Int) 0 a.Members):=cL o0' Tryz.func35
theorem yi3 a b:eL (z7a a b) (bif ltB b 0 then some 1 else Option.bind (z4u a) fun x0=>bif ltB x0 b then some 1 else some 0):=cL o0' Tryz.func63
theorem yg5 a b:eL (z7b a b) (Option.bind (z2d b) fun x0=>bif !x0 then some (Config.mk a.Members)else z2k b a.Members (a.Members.length:Int) 0 a.Members [] []):=cL o14' Tryz.func65
theorem yge a:eL (z7l a) (Option.bind (z4d a) fun x0=>bif neB x0 0 then some (false,x0)else Option.bind (z7n a) fun x1=>some ((eqB x1.1 0),0)):=cL o20' Tryz.func64
theorem ycn a b c:eL (z7m a b c) (Option.bind (z76 a b) fun x0=>bif neB x0 0 then some x0 else Option.bind (z7a a c) fun x1=>some x1):=cL o0' Tryz.func172
theorem ygu a:eL (z4u a) (chk (0<=(a.Members.length:Int))<|some (subI .i64 (shlI .i64 1 (a.Members.length:Int)) 1)):=cL o0' Tryz.func119
theorem yfh a:eL (z6c a) (z3f a [] 0):=cL o3' Tryz.func168
theorem ye4 a:eL (z2v a) (z2f 0 a.Members (a.Members.length:Int) 0 a.Members):=cL o0' Tryz.func71
theorem yad a:eL (z2d a) (bif leB 0 a then some (leB a 1023)else some false):=cL o1' Tryz.func81
theorem yes a:eL (z7n a) (Option.bind (z4v a) fun x0=>Option.bind (z6c x0) fun x1=>z48 x1 (x1.length:Int) 0 a.Members):=cL o7' Tryz.func121
theorem y9y a:eL (z4v a) (chk (0<=(a.Members.length:Int))<|some (subI .i64 (shlI .i64 1 (a.Members.length:Int)) 1)):=cL o0' Tryz.func169
end Go.Proofs.YtdmfjabikomgiaaGreat
