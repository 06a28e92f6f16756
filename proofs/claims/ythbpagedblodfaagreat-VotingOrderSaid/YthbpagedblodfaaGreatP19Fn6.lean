/- What the functions come to, printed by a program and checked by the kernel. -/
import Derived.Test.YthbpagedblodfaaGreatP19Df
namespace Go.Proofs.YthbpagedblodfaaGreat
open Go Go.Ab
set_option maxRecDepth 100000
theorem qyy a b c d e f : eL (z0b a b c d e f) (
 bif (leB d (addI .i64 (addI .i64 a (mulI .i64 (quoI .i64 b 4) 2)) 1)) then
 Option.bind (z36 f) fun x0 =>
 bif (leB b (IntKind.wrap .i64 (andI .u64 x0.1 (subI .u64 c 1)))) then
 nth e (addI .i64 a (subI .i64 (IntKind.wrap .i64 (andI .u64 x0.1 (subI .u64 c 1))) b)) fun _ =>
 nth e d fun _ =>
 nthN e (Int.toNat (addI .i64 a (subI .i64 (IntKind.wrap .i64 (andI .u64 x0.1 (subI .u64 c 1))) b))) fun y1 =>
 nthN e (Int.toNat d) fun y2 =>
 nth e d fun _ =>
 nthN e (Int.toNat d) fun _y3 =>
 nth (List.set e (Int.toNat d) y1) (addI .i64 a (subI .i64 (IntKind.wrap .i64 (andI .u64 x0.1 (subI .u64 c 1))) b)) fun _ =>
 nthN (List.set e (Int.toNat d) y1) (Int.toNat (addI .i64 a (subI .i64 (IntKind.wrap .i64 (andI .u64 x0.1 (subI .u64 c 1))) b))) fun _y4 =>
 z0b a b c (addI .i64 d 1) (List.set (List.set e (Int.toNat d) y1) (Int.toNat (addI .i64 a (subI .i64 (IntKind.wrap .i64 (andI .u64 x0.1 (subI .u64 c 1))) b))) y2) x0.2
 else
 nth e (addI .i64 a (IntKind.wrap .i64 (andI .u64 x0.1 (subI .u64 c 1)))) fun _ =>
 nth e d fun _ =>
 nthN e (Int.toNat (addI .i64 a (IntKind.wrap .i64 (andI .u64 x0.1 (subI .u64 c 1))))) fun y5 =>
 nthN e (Int.toNat d) fun y6 =>
 nth e d fun _ =>
 nthN e (Int.toNat d) fun _y7 =>
 nth (List.set e (Int.toNat d) y5) (addI .i64 a (IntKind.wrap .i64 (andI .u64 x0.1 (subI .u64 c 1)))) fun _ =>
 nthN (List.set e (Int.toNat d) y5) (Int.toNat (addI .i64 a (IntKind.wrap .i64 (andI .u64 x0.1 (subI .u64 c 1))))) fun _y8 =>
 z0b a b c (addI .i64 d 1) (List.set (List.set e (Int.toNat d) y5) (Int.toNat (addI .i64 a (IntKind.wrap .i64 (andI .u64 x0.1 (subI .u64 c 1))))) y6) x0.2
 else
 some e
 ) :=
 gL o2' (q0d Tryz.f158 [1,1,0,1,1,1,0,0])
theorem y1e a : eL (z36 a) (
 some ((xorI .u64 (xorI .u64 (xorI .u64 a (shlI .u64 a 13)) (shrI .u64 (xorI .u64 a (shlI .u64 a 13)) 7)) (shlI .u64 (xorI .u64 (xorI .u64 a (shlI .u64 a 13)) (shrI .u64 (xorI .u64 a (shlI .u64 a 13)) 7)) 17)), (xorI .u64 (xorI .u64 (xorI .u64 a (shlI .u64 a 13)) (shrI .u64 (xorI .u64 a (shlI .u64 a 13)) 7)) (shlI .u64 (xorI .u64 (xorI .u64 a (shlI .u64 a 13)) (shrI .u64 (xorI .u64 a (shlI .u64 a 13)) 7)) 17)))
 ) :=
 cL o29' Tryz.func171
theorem y2f a b c : eL (z0w a b c) (
 bif ltB a b then
 nth c b fun _ =>
 nth c a fun _ =>
 nthN c (Int.toNat b) fun y0 =>
 nthN c (Int.toNat a) fun y1 =>
 nth c a fun _ =>
 nthN c (Int.toNat a) fun _y2 =>
 nth (List.set c (Int.toNat a) y0) b fun _ =>
 nthN (List.set c (Int.toNat a) y0) (Int.toNat b) fun _y3 =>
 z0w (addI .i64 a 1) (subI .i64 b 1) (List.set (List.set c (Int.toNat a) y0) (Int.toNat b) y1)
 else
 some c
 ) :=
 gL o2' (q0d Tryz.f160 [1,1,0,0])
theorem qyx a b c d e : eL (z03 a b c d e) (
 bif ltB d 5 then
 z0y a b c d true e
 else
 some (false, e)
 ) :=
 gL o7' (q0d Tryz.f161 [1,1,0,1,0,0])
theorem y0p a b c d : eL (z0a a b c d) (
 z0s a b c d
 ) :=
 gL o5' (q0d Tryz.f162 [1,1,1,0,0,0])
theorem y3j a b c d : eL (z11 a b c d) (
 bif leB b c then
 nth d b fun _ =>
 nth d a fun _ =>
 nthN d (Int.toNat b) fun y0 =>
 nthN d (Int.toNat a) fun y1 =>
 Option.bind (z09 y0 y1) fun x2 =>
 bif ltB x2 0 then
 z11 a (addI .i64 b 1) c d
 else
 z0m a b c false d
 else
 z0m a b c false d
 ) :=
 gL o3' (q0d Tryz.f163 [1,1,1,0,0,0])
theorem qyp a b c d e f g h i j k l m n o p q r s t u v w x y z A B C D E F G : eL (z26 a b c d e f g h i j k l m n o p q r s t u v w x y z A B C D E F G) (
 bif ltB d c then
 nth b d fun y0 =>
 nth a d fun y1 =>
 Option.bind (z3w (Voter.mk p q (Trust.mk r s t) u v w x) y1) fun x2 =>
 nth a y0 fun y3 =>
 Option.bind (z3w (Voter.mk y z (Trust.mk A B C) D E F G) y3) fun x4 =>
 bif neB x2.2 0 then
 some false
 else
 bif neB x4.2 0 then
 some false
 else
 z26 a b c (addI .i64 d 1) e f g h i j k l m n o x2.1.Node x2.1.Seq x2.1.Trust.Threshold x2.1.Trust.Nodes x2.1.Trust.Inner x2.1.Votes x2.1.Accepts x2.1.Confirms x2.1.Heard x4.1.Node x4.1.Seq x4.1.Trust.Threshold x4.1.Trust.Nodes x4.1.Trust.Inner x4.1.Votes x4.1.Accepts x4.1.Confirms x4.1.Heard
 else
 Option.bind (z45 v E) fun x5 =>
 bif x5 then
 Option.bind (z45 u D) fun x6 =>
 bif x6 then
 bif (eqB (x.length : Int) 3) then
 bif (eqB ((List.length G : Nat) : Int) 3) then
 Option.bind (law19_awake) fun x7 =>
 some x7
 else
 some false
 else
 some false
 else
 some false
 else
 some false
 ) :=
 gL o0' (q0d Tryz.f3 [1,1,1,1,1,1,1,1,1,0,1,0,0])
theorem qz9 a b c d e f g h : eL (z1r a b c d e f g h) (
 bif ltB e d then
 nth c e fun y0 =>
 Option.bind (z29 y0 a) fun x1 =>
 bif x1 then
 z1r a (addI .i64 b 1) c d (addI .i64 e 1) f g h
 else
 z1r a b c d (addI .i64 e 1) f g h
 else
 some (leB f b)
 ) :=
 gL o0' (q0d Tryz.f167 [1,1,1,1,0,1,0,0])
theorem qxo a b c d e : eL (z2g a b c d e) (
 bif ltB d c then
 nth b d fun y0 =>
 Option.bind (z49 (Config.mk e) y0 a) fun x1 =>
 bif !x1 then
 some (y0, true)
 else
 z2g a b c (addI .i64 d 1) e
 else
 some (0, false)
 ) :=
 gL o10' (q0d Tryz.f168 [1,0,1,0,0])
theorem y51 a b c : eL (z49 a b c) (
 nth a.Members b fun y0 =>
 Option.bind (z29 y0.Trust c) fun x1 =>
 some x1
 ) :=
 cL o0' Tryz.func175
theorem qxx a b c : eL (z2h a b c) (
 bif ltB c 10 then
 Option.bind (z30 a c) fun x0 =>
 bif x0 then
 capOk (List.length b + List.length ([c] : List Int)) <|
 z2h a (b ++ ([c] : List Int)) (addI .i64 c 1)
 else
 z2h a b (addI .i64 c 1)
 else
 some b
 ) :=
 gL o25' (q0d Tryz.f174 [1,1,0,1,0,0])
theorem qyi a b c d e : eL (z0g a b c d e) (
 bif ltB a d then
 nth e d fun _ =>
 nth e (subI .i64 d 1) fun _ =>
 nthN e (Int.toNat d) fun y0 =>
 nthN e (Int.toNat (subI .i64 d 1)) fun y1 =>
 Option.bind (z09 y0 y1) fun x2 =>
 bif ltB x2 0 then
 nth e (subI .i64 d 1) fun _ =>
 nth e d fun _ =>
 nthN e (Int.toNat (subI .i64 d 1)) fun y3 =>
 nthN e (Int.toNat d) fun y4 =>
 nth e d fun _ =>
 nthN e (Int.toNat d) fun _y5 =>
 nth (List.set e (Int.toNat d) y3) (subI .i64 d 1) fun _ =>
 nthN (List.set e (Int.toNat d) y3) (Int.toNat (subI .i64 d 1)) fun _y6 =>
 z0g a b c (subI .i64 d 1) (List.set (List.set e (Int.toNat d) y3) (Int.toNat (subI .i64 d 1)) y4)
 else
 z0d a b (addI .i64 c 1) e
 else
 z0d a b (addI .i64 c 1) e
 ) :=
 gL o2' (q0d Tryz.f156 [1,0,0,1,0,0,1,0,0])
theorem qyc a b c d : eL (z0q a b c d) (
 bif leB 0 c then
 nth d (addI .i64 a c) fun _ =>
 nth d a fun _ =>
 nthN d (Int.toNat (addI .i64 a c)) fun y0 =>
 nthN d (Int.toNat a) fun y1 =>
 nth d a fun _ =>
 nthN d (Int.toNat a) fun _y2 =>
 nth (List.set d (Int.toNat a) y0) (addI .i64 a c) fun _ =>
 nthN (List.set d (Int.toNat a) y0) (Int.toNat (addI .i64 a c)) fun _y3 =>
 Option.bind (z16 b c a (List.set (List.set d (Int.toNat a) y0) (Int.toNat (addI .i64 a c)) y1)) fun x4 =>
 z0q a b (subI .i64 c 1) x4
 else
 some d
 ) :=
 gL o2' (q0d Tryz.f157 [1,1,1,1,1,0,0])
theorem y4k a b c d : eL (z0c a b c d) (
 bif (leB a (addI .i64 (mulI .i64 2 c) 1)) then
 some d
 else
 bif (ltB (addI .i64 (addI .i64 (mulI .i64 2 c) 1) 1) a) then
 nth d (addI .i64 b (addI .i64 (mulI .i64 2 c) 1)) fun _ =>
 nth d (addI .i64 (addI .i64 b (addI .i64 (mulI .i64 2 c) 1)) 1) fun _ =>
 nthN d (Int.toNat (addI .i64 b (addI .i64 (mulI .i64 2 c) 1))) fun y0 =>
 nthN d (Int.toNat (addI .i64 (addI .i64 b (addI .i64 (mulI .i64 2 c) 1)) 1)) fun y1 =>
 Option.bind (z09 y0 y1) fun x2 =>
 bif ltB x2 0 then
 nth d (addI .i64 b c) fun _ =>
 nth d (addI .i64 b (addI .i64 (addI .i64 (mulI .i64 2 c) 1) 1)) fun _ =>
 nthN d (Int.toNat (addI .i64 b c)) fun y3 =>
 nthN d (Int.toNat (addI .i64 b (addI .i64 (addI .i64 (mulI .i64 2 c) 1) 1))) fun y4 =>
 Option.bind (z09 y3 y4) fun x5 =>
 bif !(ltB x5 0) then
 some d
 else
 nth d (addI .i64 b (addI .i64 (addI .i64 (mulI .i64 2 c) 1) 1)) fun _ =>
 nth d (addI .i64 b c) fun _ =>
 nthN d (Int.toNat (addI .i64 b (addI .i64 (addI .i64 (mulI .i64 2 c) 1) 1))) fun y6 =>
 nthN d (Int.toNat (addI .i64 b c)) fun y7 =>
 nth d (addI .i64 b c) fun _ =>
 nthN d (Int.toNat (addI .i64 b c)) fun _y8 =>
 nth (List.set d (Int.toNat (addI .i64 b c)) y6) (addI .i64 b (addI .i64 (addI .i64 (mulI .i64 2 c) 1) 1)) fun _ =>
 nthN (List.set d (Int.toNat (addI .i64 b c)) y6) (Int.toNat (addI .i64 b (addI .i64 (addI .i64 (mulI .i64 2 c) 1) 1))) fun _y9 =>
 z0c a b (addI .i64 (addI .i64 (mulI .i64 2 c) 1) 1) (List.set (List.set d (Int.toNat (addI .i64 b c)) y6) (Int.toNat (addI .i64 b (addI .i64 (addI .i64 (mulI .i64 2 c) 1) 1))) y7)
 else
 nth d (addI .i64 b c) fun _ =>
 nth d (addI .i64 b (addI .i64 (mulI .i64 2 c) 1)) fun _ =>
 nthN d (Int.toNat (addI .i64 b c)) fun y10 =>
 nthN d (Int.toNat (addI .i64 b (addI .i64 (mulI .i64 2 c) 1))) fun y11 =>
 Option.bind (z09 y10 y11) fun x12 =>
 bif !(ltB x12 0) then
 some d
 else
 nth d (addI .i64 b (addI .i64 (mulI .i64 2 c) 1)) fun _ =>
 nth d (addI .i64 b c) fun _ =>
 nthN d (Int.toNat (addI .i64 b (addI .i64 (mulI .i64 2 c) 1))) fun y13 =>
 nthN d (Int.toNat (addI .i64 b c)) fun y14 =>
 nth d (addI .i64 b c) fun _ =>
 nthN d (Int.toNat (addI .i64 b c)) fun _y15 =>
 nth (List.set d (Int.toNat (addI .i64 b c)) y13) (addI .i64 b (addI .i64 (mulI .i64 2 c) 1)) fun _ =>
 nthN (List.set d (Int.toNat (addI .i64 b c)) y13) (Int.toNat (addI .i64 b (addI .i64 (mulI .i64 2 c) 1))) fun _y16 =>
 z0c a b (addI .i64 (mulI .i64 2 c) 1) (List.set (List.set d (Int.toNat (addI .i64 b c)) y13) (Int.toNat (addI .i64 b (addI .i64 (mulI .i64 2 c) 1))) y14)
 else
 nth d (addI .i64 b c) fun _ =>
 nth d (addI .i64 b (addI .i64 (mulI .i64 2 c) 1)) fun _ =>
 nthN d (Int.toNat (addI .i64 b c)) fun y17 =>
 nthN d (Int.toNat (addI .i64 b (addI .i64 (mulI .i64 2 c) 1))) fun y18 =>
 Option.bind (z09 y17 y18) fun x19 =>
 bif !(ltB x19 0) then
 some d
 else
 nth d (addI .i64 b (addI .i64 (mulI .i64 2 c) 1)) fun _ =>
 nth d (addI .i64 b c) fun _ =>
 nthN d (Int.toNat (addI .i64 b (addI .i64 (mulI .i64 2 c) 1))) fun y20 =>
 nthN d (Int.toNat (addI .i64 b c)) fun y21 =>
 nth d (addI .i64 b c) fun _ =>
 nthN d (Int.toNat (addI .i64 b c)) fun _y22 =>
 nth (List.set d (Int.toNat (addI .i64 b c)) y20) (addI .i64 b (addI .i64 (mulI .i64 2 c) 1)) fun _ =>
 nthN (List.set d (Int.toNat (addI .i64 b c)) y20) (Int.toNat (addI .i64 b (addI .i64 (mulI .i64 2 c) 1))) fun _y23 =>
 z0c a b (addI .i64 (mulI .i64 2 c) 1) (List.set (List.set d (Int.toNat (addI .i64 b c)) y20) (Int.toNat (addI .i64 b (addI .i64 (mulI .i64 2 c) 1))) y21)
 ) :=
 gL o2' (q0d Tryz.f169 [1,0,0])
theorem y2l a b c d e f : eL (z0y a b c d e f) (
 bif ltB c b then
 nth f c fun _ =>
 nth f (subI .i64 c 1) fun _ =>
 nthN f (Int.toNat c) fun y0 =>
 nthN f (Int.toNat (subI .i64 c 1)) fun y1 =>
 Option.bind (z09 y0 y1) fun x2 =>
 bif !(ltB x2 0) then
 z0i a b (addI .i64 c 1) d f
 else
 bif eqB c b then
 some (true, f)
 else
 bif ltB (subI .i64 b a) 50 then
 some (false, f)
 else
 nth f (subI .i64 c 1) fun _ =>
 nth f c fun _ =>
 nthN f (Int.toNat (subI .i64 c 1)) fun y3 =>
 nthN f (Int.toNat c) fun y4 =>
 nth f c fun _ =>
 nthN f (Int.toNat c) fun _y5 =>
 nth (List.set f (Int.toNat c) y3) (subI .i64 c 1) fun _ =>
 nthN (List.set f (Int.toNat c) y3) (Int.toNat (subI .i64 c 1)) fun _y6 =>
 bif leB 2 (subI .i64 c a) then
 z07 a b c d (subI .i64 c 1) (List.set (List.set f (Int.toNat c) y3) (Int.toNat (subI .i64 c 1)) y4)
 else
 bif leB 2 (subI .i64 b c) then
 z05 a b c d (addI .i64 c 1) (List.set (List.set f (Int.toNat c) y3) (Int.toNat (subI .i64 c 1)) y4)
 else
 z03 a b c (addI .i64 d 1) (List.set (List.set f (Int.toNat c) y3) (Int.toNat (subI .i64 c 1)) y4)
 else
 bif eqB c b then
 some (true, f)
 else
 bif ltB (subI .i64 b a) 50 then
 some (false, f)
 else
 nth f (subI .i64 c 1) fun _ =>
 nth f c fun _ =>
 nthN f (Int.toNat (subI .i64 c 1)) fun y7 =>
 nthN f (Int.toNat c) fun y8 =>
 nth f c fun _ =>
 nthN f (Int.toNat c) fun _y9 =>
 nth (List.set f (Int.toNat c) y7) (subI .i64 c 1) fun _ =>
 nthN (List.set f (Int.toNat c) y7) (Int.toNat (subI .i64 c 1)) fun _y10 =>
 bif leB 2 (subI .i64 c a) then
 z07 a b c d (subI .i64 c 1) (List.set (List.set f (Int.toNat c) y7) (Int.toNat (subI .i64 c 1)) y8)
 else
 bif leB 2 (subI .i64 b c) then
 z05 a b c d (addI .i64 c 1) (List.set (List.set f (Int.toNat c) y7) (Int.toNat (subI .i64 c 1)) y8)
 else
 z03 a b c (addI .i64 d 1) (List.set (List.set f (Int.toNat c) y7) (Int.toNat (subI .i64 c 1)) y8)
 ) :=
 gL o7' (q0d Tryz.f161 [1,1,0,1,0,0,1,0,0,0,0,0])
theorem y4n a b c d : eL (z0s a b c d) (
 bif leB b c then
 nth d a fun _ =>
 nth d b fun _ =>
 nthN d (Int.toNat a) fun y0 =>
 nthN d (Int.toNat b) fun y1 =>
 Option.bind (z09 y0 y1) fun x2 =>
 bif !(ltB x2 0) then
 z0s a (addI .i64 b 1) c d
 else
 z0e a b c false d
 else
 z0e a b c false d
 ) :=
 gL o5' (q0d Tryz.f162 [1,1,1,0,0,0,0,0,0,0])
theorem y2t a b c d e : eL (z0m a b c d e) (
 bif leB b c then
 nth e c fun _ =>
 nth e a fun _ =>
 nthN e (Int.toNat c) fun y0 =>
 nthN e (Int.toNat a) fun y1 =>
 Option.bind (z09 y0 y1) fun x2 =>
 bif !(ltB x2 0) then
 z12 a b (subI .i64 c 1) e
 else
 bif ltB c b then
 nth e a fun _ =>
 nth e c fun _ =>
 nthN e (Int.toNat a) fun y3 =>
 nthN e (Int.toNat c) fun y4 =>
 nth e c fun _ =>
 nthN e (Int.toNat c) fun _y5 =>
 nth (List.set e (Int.toNat c) y3) a fun _ =>
 nthN (List.set e (Int.toNat c) y3) (Int.toNat a) fun _y6 =>
 some (c, true, (List.set (List.set e (Int.toNat c) y3) (Int.toNat a) y4))
 else
 nth e c fun _ =>
 nth e b fun _ =>
 nthN e (Int.toNat c) fun y7 =>
 nthN e (Int.toNat b) fun y8 =>
 nth e b fun _ =>
 nthN e (Int.toNat b) fun _y9 =>
 nth (List.set e (Int.toNat b) y7) c fun _ =>
 nthN (List.set e (Int.toNat b) y7) (Int.toNat c) fun _y10 =>
 z06 a (addI .i64 b 1) (subI .i64 c 1) (List.set (List.set e (Int.toNat b) y7) (Int.toNat c) y8)
 else
 bif ltB c b then
 nth e a fun _ =>
 nth e c fun _ =>
 nthN e (Int.toNat a) fun y11 =>
 nthN e (Int.toNat c) fun y12 =>
 nth e c fun _ =>
 nthN e (Int.toNat c) fun _y13 =>
 nth (List.set e (Int.toNat c) y11) a fun _ =>
 nthN (List.set e (Int.toNat c) y11) (Int.toNat a) fun _y14 =>
 some (c, true, (List.set (List.set e (Int.toNat c) y11) (Int.toNat a) y12))
 else
 nth e c fun _ =>
 nth e b fun _ =>
 nthN e (Int.toNat c) fun y15 =>
 nthN e (Int.toNat b) fun y16 =>
 nth e b fun _ =>
 nthN e (Int.toNat b) fun _y17 =>
 nth (List.set e (Int.toNat b) y15) c fun _ =>
 nthN (List.set e (Int.toNat b) y15) (Int.toNat c) fun _y18 =>
 z06 a (addI .i64 b 1) (subI .i64 c 1) (List.set (List.set e (Int.toNat b) y15) (Int.toNat c) y16)
 ) :=
 gL o3' (q0d Tryz.f163 [1,1,1,1,0,0,0])
theorem y4o a b c d e : eL (z0i a b c d e) (
 bif ltB c b then
 nth e c fun _ =>
 nth e (subI .i64 c 1) fun _ =>
 nthN e (Int.toNat c) fun y0 =>
 nthN e (Int.toNat (subI .i64 c 1)) fun y1 =>
 Option.bind (z09 y0 y1) fun x2 =>
 bif !(ltB x2 0) then
 z0i a b (addI .i64 c 1) d e
 else
 bif eqB c b then
 some (true, e)
 else
 bif ltB (subI .i64 b a) 50 then
 some (false, e)
 else
 nth e (subI .i64 c 1) fun _ =>
 nth e c fun _ =>
 nthN e (Int.toNat (subI .i64 c 1)) fun y3 =>
 nthN e (Int.toNat c) fun y4 =>
 nth e c fun _ =>
 nthN e (Int.toNat c) fun _y5 =>
 nth (List.set e (Int.toNat c) y3) (subI .i64 c 1) fun _ =>
 nthN (List.set e (Int.toNat c) y3) (Int.toNat (subI .i64 c 1)) fun _y6 =>
 bif leB 2 (subI .i64 c a) then
 z07 a b c d (subI .i64 c 1) (List.set (List.set e (Int.toNat c) y3) (Int.toNat (subI .i64 c 1)) y4)
 else
 bif leB 2 (subI .i64 b c) then
 z05 a b c d (addI .i64 c 1) (List.set (List.set e (Int.toNat c) y3) (Int.toNat (subI .i64 c 1)) y4)
 else
 z03 a b c (addI .i64 d 1) (List.set (List.set e (Int.toNat c) y3) (Int.toNat (subI .i64 c 1)) y4)
 else
 bif eqB c b then
 some (true, e)
 else
 bif ltB (subI .i64 b a) 50 then
 some (false, e)
 else
 nth e (subI .i64 c 1) fun _ =>
 nth e c fun _ =>
 nthN e (Int.toNat (subI .i64 c 1)) fun y7 =>
 nthN e (Int.toNat c) fun y8 =>
 nth e c fun _ =>
 nthN e (Int.toNat c) fun _y9 =>
 nth (List.set e (Int.toNat c) y7) (subI .i64 c 1) fun _ =>
 nthN (List.set e (Int.toNat c) y7) (Int.toNat (subI .i64 c 1)) fun _y10 =>
 bif leB 2 (subI .i64 c a) then
 z07 a b c d (subI .i64 c 1) (List.set (List.set e (Int.toNat c) y7) (Int.toNat (subI .i64 c 1)) y8)
 else
 bif leB 2 (subI .i64 b c) then
 z05 a b c d (addI .i64 c 1) (List.set (List.set e (Int.toNat c) y7) (Int.toNat (subI .i64 c 1)) y8)
 else
 z03 a b c (addI .i64 d 1) (List.set (List.set e (Int.toNat c) y7) (Int.toNat (subI .i64 c 1)) y8)
 ) :=
 gL o7' (q0d Tryz.f161 [1,1,0,1,0,0,1,0,0,0,0,0])
theorem qy4 a b c d e f : eL (z07 a b c d e f) (
 bif leB 1 e then
 nth f e fun _ =>
 nth f (subI .i64 e 1) fun _ =>
 nthN f (Int.toNat e) fun y0 =>
 nthN f (Int.toNat (subI .i64 e 1)) fun y1 =>
 Option.bind (z09 y0 y1) fun x2 =>
 bif !(ltB x2 0) then
 bif leB 2 (subI .i64 b c) then
 z05 a b c d (addI .i64 c 1) f
 else
 z03 a b c (addI .i64 d 1) f
 else
 nth f (subI .i64 e 1) fun _ =>
 nth f e fun _ =>
 nthN f (Int.toNat (subI .i64 e 1)) fun y3 =>
 nthN f (Int.toNat e) fun y4 =>
 nth f e fun _ =>
 nthN f (Int.toNat e) fun _y5 =>
 nth (List.set f (Int.toNat e) y3) (subI .i64 e 1) fun _ =>
 nthN (List.set f (Int.toNat e) y3) (Int.toNat (subI .i64 e 1)) fun _y6 =>
 z07 a b c d (subI .i64 e 1) (List.set (List.set f (Int.toNat e) y3) (Int.toNat (subI .i64 e 1)) y4)
 else
 bif leB 2 (subI .i64 b c) then
 z05 a b c d (addI .i64 c 1) f
 else
 z03 a b c (addI .i64 d 1) f
 ) :=
 gL o7' (q0d Tryz.f161 [1,1,0,1,0,0,1,0,0,1,1,1,1,0,1,0,1,0,0])
theorem y4c a b c d e f : eL (z05 a b c d e f) (
 bif ltB e b then
 nth f e fun _ =>
 nth f (subI .i64 e 1) fun _ =>
 nthN f (Int.toNat e) fun y0 =>
 nthN f (Int.toNat (subI .i64 e 1)) fun y1 =>
 Option.bind (z09 y0 y1) fun x2 =>
 bif !(ltB x2 0) then
 z03 a b c (addI .i64 d 1) f
 else
 nth f (subI .i64 e 1) fun _ =>
 nth f e fun _ =>
 nthN f (Int.toNat (subI .i64 e 1)) fun y3 =>
 nthN f (Int.toNat e) fun y4 =>
 nth f e fun _ =>
 nthN f (Int.toNat e) fun _y5 =>
 nth (List.set f (Int.toNat e) y3) (subI .i64 e 1) fun _ =>
 nthN (List.set f (Int.toNat e) y3) (Int.toNat (subI .i64 e 1)) fun _y6 =>
 z05 a b c d (addI .i64 e 1) (List.set (List.set f (Int.toNat e) y3) (Int.toNat (subI .i64 e 1)) y4)
 else
 z03 a b c (addI .i64 d 1) f
 ) :=
 gL o7' (q0d Tryz.f161 [1,1,0,1,0,0,1,0,0,1,1,1,1,1,1,0,1,0,0])
theorem y23 a b c d e : eL (z0e a b c d e) (
 bif leB b c then
 nth e a fun _ =>
 nth e c fun _ =>
 nthN e (Int.toNat a) fun y0 =>
 nthN e (Int.toNat c) fun y1 =>
 Option.bind (z09 y0 y1) fun x2 =>
 bif ltB x2 0 then
 z0t a b (subI .i64 c 1) e
 else
 bif ltB c b then
 some (b, e)
 else
 nth e c fun _ =>
 nth e b fun _ =>
 nthN e (Int.toNat c) fun y3 =>
 nthN e (Int.toNat b) fun y4 =>
 nth e b fun _ =>
 nthN e (Int.toNat b) fun _y5 =>
 nth (List.set e (Int.toNat b) y3) c fun _ =>
 nthN (List.set e (Int.toNat b) y3) (Int.toNat c) fun _y6 =>
 z0a a (addI .i64 b 1) (subI .i64 c 1) (List.set (List.set e (Int.toNat b) y3) (Int.toNat c) y4)
 else
 bif ltB c b then
 some (b, e)
 else
 nth e c fun _ =>
 nth e b fun _ =>
 nthN e (Int.toNat c) fun y7 =>
 nthN e (Int.toNat b) fun y8 =>
 nth e b fun _ =>
 nthN e (Int.toNat b) fun _y9 =>
 nth (List.set e (Int.toNat b) y7) c fun _ =>
 nthN (List.set e (Int.toNat b) y7) (Int.toNat c) fun _y10 =>
 z0a a (addI .i64 b 1) (subI .i64 c 1) (List.set (List.set e (Int.toNat b) y7) (Int.toNat c) y8)
 ) :=
 gL o5' (q0d Tryz.f162 [1,1,1,0,0,0,0,1,0,0,0])
theorem y0q a b c d : eL (z12 a b c d) (
 bif leB b c then
 nth d c fun _ =>
 nth d a fun _ =>
 nthN d (Int.toNat c) fun y0 =>
 nthN d (Int.toNat a) fun y1 =>
 Option.bind (z09 y0 y1) fun x2 =>
 bif !(ltB x2 0) then
 z12 a b (subI .i64 c 1) d
 else
 bif ltB c b then
 nth d a fun _ =>
 nth d c fun _ =>
 nthN d (Int.toNat a) fun y3 =>
 nthN d (Int.toNat c) fun y4 =>
 nth d c fun _ =>
 nthN d (Int.toNat c) fun _y5 =>
 nth (List.set d (Int.toNat c) y3) a fun _ =>
 nthN (List.set d (Int.toNat c) y3) (Int.toNat a) fun _y6 =>
 some (c, true, (List.set (List.set d (Int.toNat c) y3) (Int.toNat a) y4))
 else
 nth d c fun _ =>
 nth d b fun _ =>
 nthN d (Int.toNat c) fun y7 =>
 nthN d (Int.toNat b) fun y8 =>
 nth d b fun _ =>
 nthN d (Int.toNat b) fun _y9 =>
 nth (List.set d (Int.toNat b) y7) c fun _ =>
 nthN (List.set d (Int.toNat b) y7) (Int.toNat c) fun _y10 =>
 z06 a (addI .i64 b 1) (subI .i64 c 1) (List.set (List.set d (Int.toNat b) y7) (Int.toNat c) y8)
 else
 bif ltB c b then
 nth d a fun _ =>
 nth d c fun _ =>
 nthN d (Int.toNat a) fun y11 =>
 nthN d (Int.toNat c) fun y12 =>
 nth d c fun _ =>
 nthN d (Int.toNat c) fun _y13 =>
 nth (List.set d (Int.toNat c) y11) a fun _ =>
 nthN (List.set d (Int.toNat c) y11) (Int.toNat a) fun _y14 =>
 some (c, true, (List.set (List.set d (Int.toNat c) y11) (Int.toNat a) y12))
 else
 nth d c fun _ =>
 nth d b fun _ =>
 nthN d (Int.toNat c) fun y15 =>
 nthN d (Int.toNat b) fun y16 =>
 nth d b fun _ =>
 nthN d (Int.toNat b) fun _y17 =>
 nth (List.set d (Int.toNat b) y15) c fun _ =>
 nthN (List.set d (Int.toNat b) y15) (Int.toNat c) fun _y18 =>
 z06 a (addI .i64 b 1) (subI .i64 c 1) (List.set (List.set d (Int.toNat b) y15) (Int.toNat c) y16)
 ) :=
 gL o3' (q0d Tryz.f163 [1,1,1,1,0,0,0])
end Go.Proofs.YthbpagedblodfaaGreat
