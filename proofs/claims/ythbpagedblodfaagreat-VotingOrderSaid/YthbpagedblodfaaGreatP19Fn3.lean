/- What the functions come to, printed by a program and checked by the kernel. -/
import Derived.Test.YthbpagedblodfaaGreatP19Df
namespace Go.Proofs.YthbpagedblodfaaGreat
open Go Go.Ab
set_option maxRecDepth 100000
theorem qxv a b c d e f g h i j k l : eL (z32 a b c d e f g h i j k l) (
 bif ltB c b then
 nth a c fun y0 =>
 Option.bind (z3h y0) fun x1 =>
 capOk (List.length l + List.length ([(Trust.mk x1.Threshold x1.Nodes x1.Inner)] : List Trust)) <|
 z32 a b (addI .i64 c 1) d e f g h i j k (l ++ ([(Trust.mk x1.Threshold x1.Nodes x1.Inner)] : List Trust))
 else
 some (Trust.mk j k l)
 ) :=
 gL o9' (q0d Tryz.f46 [1,1,0,1,0,0])
theorem qq1 a b c d e f g h i j k l : eL (z1y a b c d e f g h i j k l) (
 bif ltB c b then
 nth a c fun y0 =>
 Option.bind (z2b y0) fun x1 =>
 bif !x1 then
 some false
 else
 bif eqB y0.Node d then
 some false
 else
 bif ltB 0 c then
 nth l (subI .i64 c 1) fun y2 =>
 bif leB y0.Node y2.Node then
 some false
 else
 z1y a b (addI .i64 c 1) d e f g h i j k l
 else
 z1y a b (addI .i64 c 1) d e f g h i j k l
 else
 some true
 ) :=
 gL o0' (q0d Tryz.f34 [1,1,1,1,0,1,0,0])
theorem qyd a b c d e f g h i j k l m n o p q r s t u : eL (z33 a b c d e f g h i j k l m n o p q r s t u) (
 bif ltB c b then
 nth a c fun y0 =>
 Option.bind (z2j y0) fun x1 =>
 capOk (List.length l + List.length ([(Message.mk x1.Node x1.Seq (Trust.mk x1.Trust.Threshold x1.Trust.Nodes x1.Trust.Inner) x1.Votes x1.Accepts)] : List Message)) <|
 z33 a b (addI .i64 c 1) d e f g h i j k (l ++ ([(Message.mk x1.Node x1.Seq (Trust.mk x1.Trust.Threshold x1.Trust.Nodes x1.Trust.Inner) x1.Votes x1.Accepts)] : List Message)) m n o p q r s t u
 else
 some (Voter.mk d e (Trust.mk f g h) i j k l)
 ) :=
 gL o6' (q0d Tryz.f54 [1,1,1,1,0,1,0,0])
theorem y1x a b c d e : eL (z0f a b c d e) (
 bif ltB d e then
 nth a (IntKind.wrap .i64 (shrI .u64 (IntKind.wrap .u64 (addI .i64 d e)) 1)) fun y0 =>
 Option.bind (z44 y0 b) fun x1 =>
 bif ltB x1 0 then
 z0f a b c (addI .i64 (IntKind.wrap .i64 (shrI .u64 (IntKind.wrap .u64 (addI .i64 d e)) 1)) 1) e
 else
 z0f a b c d (IntKind.wrap .i64 (shrI .u64 (IntKind.wrap .u64 (addI .i64 d e)) 1))
 else
 bif ltB d c then
 nth a d fun y2 =>
 Option.bind (z44 y2 b) fun x3 =>
 some (d, (eqB x3 0))
 else
 some (d, false)
 ) :=
 gL o10' (q0d Tryz.f58 [1,1,1,0,0,0])
theorem y1s a b : eL (z44 a b) (
 Option.bind (z2v a.Node b) fun x0 =>
 some x0
 ) :=
 cL o1' Tryz.func59
theorem y19 a b : eL (z2v a b) (
 Option.bind (z41 a) fun x0 =>
 Option.bind (z41 b) fun x1 =>
 bif x0 then
 bif x1 then
 some 0
 else
 some (-1)
 else
 bif x1 then
 some 1
 else
 bif ltB a b then
 some (-1)
 else
 bif ltB b a then
 some 1
 else
 some 0
 ) :=
 cL o1' Tryz.func60
theorem y3v a : eL (z41 a) (
 some (neB a a)
 ) :=
 cL o0' Tryz.func106
theorem qin a b c d e : eL (z1w a b c d e) (
 bif ltB c a then
 capOk (List.length b + List.length ([c] : List Int)) <|
 z1w a (b ++ ([c] : List Int)) (addI .i64 c 1) d e
 else
 z1z b (subI .i64 a 1) d e
 ) :=
 gL o15' (q0d Tryz.f13 [1,1,0,1,0,0])
theorem qz2 a b c d e f g : eL (z3b a b c d e f g) (
 bif ltB d c then
 nth b d fun y0 =>
 Option.bind (z4o y0) fun x1 =>
 z3b (if x1 > a then x1 else a) b c (addI .i64 d 1) e f g
 else
 some (addI .i64 a 1)
 ) :=
 gL o1' (q0d Tryz.f97 [1,1,0,1,0,0])
theorem qxu a b c d e f g : eL (z3m a b c d e f g) (
 bif ltB d c then
 nth b d fun y0 =>
 Option.bind (z4u y0) fun x1 =>
 z3m (addI .i64 a x1) b c (addI .i64 d 1) e f g
 else
 some a
 ) :=
 gL o1' (q0d Tryz.f98 [1,1,0,1,0,0])
theorem qqj a b c d e f : eL (z2k a b c d e f) (
 bif ltB c b then
 nth a c fun y0 =>
 bif ltB y0 0 then
 some 5
 else
 bif leB 10 y0 then
 some 5
 else
 z2k a b (addI .i64 c 1) d e f
 else
 Option.bind (z52 e) fun x1 =>
 bif neB x1.2 0 then
 some x1.2
 else
 z2n f (f.length : Int) 0 d e f
 ) :=
 gL o1' (q0d Tryz.f99 [1,1,0,1,0,0])
theorem y0u a : eL (z52 a) (
 z3g 0 a (a.length : Int) 0
 ) :=
 cL o11' Tryz.func122
theorem qyq a b c d e f g : eL (z2e a b c d e f g) (
 bif ltB d c then
 nth b d fun y0 =>
 Option.bind (z3j y0) fun x1 =>
 z2e (if x1 > a then x1 else a) b c (addI .i64 d 1) e f g
 else
 some (addI .i64 a 1)
 ) :=
 gL o1' (q0d Tryz.f93 [1,1,0,1,0,0])
theorem qxz a b c d e f g : eL (z2q a b c d e f g) (
 bif ltB d c then
 nth b d fun y0 =>
 Option.bind (z3y y0) fun x1 =>
 z2q (addI .i64 a x1) b c (addI .i64 d 1) e f g
 else
 some a
 ) :=
 gL o1' (q0d Tryz.f94 [1,1,0,1,0,0])
theorem qxy a b c d e f : eL (z2f a b c d e f) (
 bif ltB c b then
 nth a c fun y0 =>
 Option.bind (z3k y0) fun x1 =>
 bif neB x1 0 then
 some x1
 else
 z2f a b (addI .i64 c 1) d e f
 else
 some 0
 ) :=
 gL o1' (q0d Tryz.f95 [1,1,1,1,0,1,0,0])
theorem qqh a b c d : eL (z23 a b c d) (
 bif ltB d c then
 nth b d fun y0 =>
 Option.bind (z42 y0) fun x1 =>
 bif !x1 then
 some false
 else
 bif ltB 0 d then
 nth a (subI .i64 d 1) fun y2 =>
 Option.bind (z09 y2 y0) fun x3 =>
 bif leB 0 x3 then
 some false
 else
 z23 a b c (addI .i64 d 1)
 else
 z23 a b c (addI .i64 d 1)
 else
 some true
 ) :=
 gL o0' (q0d Tryz.f81 [1,0,1,0,0])
theorem y31 a b : eL (z09 a b) (
 Option.bind (z2v a.Topic b.Topic) fun x0 =>
 Option.bind (z2v a.Value b.Value) fun x1 =>
 Option.bind (z4v ([x0, x1] : List Int)) fun x2 =>
 some x2
 ) :=
 cL o1' Tryz.func116
theorem y4x a : eL (z4v a) (
 z3d 0 a (a.length : Int) 0
 ) :=
 cL o1' Tryz.func133
theorem quy a b c d e : eL (z0u a b c d e) (
 bif ltB c b then
 nth a c fun y0 =>
 Option.bind (z4m y0 d e) fun x1 =>
 bif x1.1 then
 some (c, x1.2.1, x1.2.2)
 else
 z0u a b (addI .i64 c 1) x1.2.1 x1.2.2
 else
 some ((-1), d, e)
 ) :=
 gL o19' (q0d Tryz.f100 [1,0,1,0,0])
theorem y2j a b c : eL (z4m a b c) (
 Option.bind (z3p (Claim.mk b c) a) fun x0 =>
 some (x0, b, c)
 ) :=
 cL o17' Tryz.func50
theorem y4e a b : eL (z3p a b) (
 bif eqB a.Topic b.Topic then
 some (neB a.Value b.Value)
 else
 some false
 ) :=
 cL o0' Tryz.func51
theorem y1a a b c d e f g h i j k l m n o p q r s t u v : eL (z37 a b c d e f g h i j k l m n o p q r s t u v) (
 bif a then
 Option.bind (z4j h (Claim.mk u v)) fun x0 =>
 Option.bind (z4b (Voter.mk b c (Trust.mk d e f) g x0 i j) (Config.mk t)) fun x1 =>
 z37 x1.2 b c d e f g x0 i j k l m n o p q r s t x1.1.Topic x1.1.Value
 else
 Option.bind (z1n j) fun x2 =>
 Option.bind (z4k (Voter.mk b c (Trust.mk d e f) g h i j)) fun x3 =>
 capOk (List.length x2.2 + List.length ([(Message.mk x3.Node x3.Seq (Trust.mk x3.Trust.Threshold x3.Trust.Nodes x3.Trust.Inner) x3.Votes x3.Accepts)] : List Message)) <|
 z28 (x2.2 ++ ([(Message.mk x3.Node x3.Seq (Trust.mk x3.Trust.Threshold x3.Trust.Nodes x3.Trust.Inner) x3.Votes x3.Accepts)] : List Message)) h (h.length : Int) 0 b c d e f g h i j k l m n o p q r s t u v
 ) :=
 gL o6' (q0d Tryz.f104 [1,1,0,1,0,0])
theorem qz6 a b c d : eL (z1s a b c d) (
 bif ltB d c then
 nth a d fun y0 =>
 nth b d fun y1 =>
 bif (!((eqB y0.Topic y1.Topic) && ((eqB y0.Value y1.Value) && true))) then
 some false
 else
 z1s a b c (addI .i64 d 1)
 else
 some true
 ) :=
 gL o0' (q0d Tryz.f88 [1,1,0,1,0,0])
theorem qqk a b c d : eL (z2u a b c d) (
 bif ltB d c then
 nth b d fun y0 =>
 bif ltB y0 0 then
 some (0, 5)
 else
 bif leB 10 y0 then
 some (0, 5)
 else
 Option.bind (z30 a y0) fun x1 =>
 bif x1 then
 some (0, 6)
 else
 chk (0 ≤ y0) <|
 z2u (orI .i64 a (shlI .i64 1 y0)) b c (addI .i64 d 1)
 else
 some (a, 0)
 ) :=
 gL o11' (q0d Tryz.f121 [1,1,0,1,0,0])
theorem y4r a b : eL (z30 a b) (
 Option.bind (z21 a) fun x0 =>
 bif x0 then
 bif leB 0 b then
 bif ltB b 10 then
 chk (0 ≤ b) <|
 some (neB (andI .i64 a (shlI .i64 1 b)) 0)
 else
 some false
 else
 some false
 else
 some false
 ) :=
 cL o0' Tryz.func135
theorem qy0 a : eL (z21 a) (
 Option.bind (z3n a 10) fun x0 =>
 some x0
 ) :=
 cL o0' Tryz.func149
theorem qyb a b : eL (z3n a b) (
 bif leB 0 a then
 chk (0 ≤ b) <|
 some (ltB a (shlI .i64 1 b))
 else
 some false
 ) :=
 cL o0' Tryz.func155
theorem qtp a b c d e f g h i j k l : eL (z0r a b c d e f g h i j k l) (
 bif ltB c b then
 nth a c fun y0 =>
 Option.bind (z4h y0 d e f g h i j k l) fun x1 =>
 bif x1.1 then
 some (c, x1.2.1, x1.2.2.1, x1.2.2.2.1, x1.2.2.2.2.1, x1.2.2.2.2.2.1, x1.2.2.2.2.2.2.1, x1.2.2.2.2.2.2.2.1, x1.2.2.2.2.2.2.2.2.1, x1.2.2.2.2.2.2.2.2.2)
 else
 z0r a b (addI .i64 c 1) x1.2.1 x1.2.2.1 x1.2.2.2.1 x1.2.2.2.2.1 x1.2.2.2.2.2.1 x1.2.2.2.2.2.2.1 x1.2.2.2.2.2.2.2.1 x1.2.2.2.2.2.2.2.2.1 x1.2.2.2.2.2.2.2.2.2
 else
 some ((-1), d, e, f, g, h, i, j, k, l)
 ) :=
 gL o20' (q0d Tryz.f100 [1,0,1,0,0])
theorem y3o a b c d e f g h i j : eL (z4h a b c d e f g h i j) (
 Option.bind (z3u h a) fun x0 =>
 some ((!x0), b, c, d, e, f, g, h, i, j)
 ) :=
 cL o18' Tryz.func83
theorem qt7 a b c d e : eL (z1l a b c d e) (
 bif ltB c b then
 nth a c fun y0 =>
 bif ((eqB d y0.Topic) && ((eqB e y0.Value) && true)) then
 some c
 else
 z1l a b (addI .i64 c 1) d e
 else
 some (-1)
 ) :=
 gL o1' (q0d Tryz.f123 [1,0,1,0,0])
theorem qy7 a b c d e f g h i : eL (z20 a b c d e f g h i) (
 bif ltB d c then
 nth b d fun y0 =>
 bif neB y0.Node a then
 Option.bind (z2b y0) fun x1 =>
 bif x1 then
 Option.bind (z2w y0.Trust) fun x2 =>
 nth i y0.Node fun _ =>
 nthN i (Int.toNat y0.Node) fun _y3 =>
 z20 a b c (addI .i64 d 1) e f g h (List.set i (Int.toNat y0.Node) (Member.mk true (Trust.mk x2.Threshold x2.Nodes x2.Inner)))
 else
 z20 a b c (addI .i64 d 1) e f g h i
 else
 z20 a b c (addI .i64 d 1) e f g h i
 else
 Option.bind (z3z a) fun x4 =>
 bif x4 then
 Option.bind (z2s (Trust.mk e f g)) fun x5 =>
 bif eqB x5 0 then
 Option.bind (z2w (Trust.mk e f g)) fun x6 =>
 nth i a fun _ =>
 nthN i (Int.toNat a) fun _y7 =>
 some (Config.mk (List.set i (Int.toNat a) (Member.mk true (Trust.mk x6.Threshold x6.Nodes x6.Inner))))
 else
 some (Config.mk i)
 else
 some (Config.mk i)
 ) :=
 gL o21' (q0d Tryz.f126 [1,1,0,1,0,0])
theorem y3x a : eL (z2w a) (
 capOk (List.length ([] : List Int) + List.length a.Nodes) <|
 z2a a.Inner (a.Inner.length : Int) 0 a.Threshold a.Nodes a.Inner 0 [] [] a.Threshold (([] : List Int) ++ a.Nodes) []
 ) :=
 cL o9' Tryz.func141
theorem qyw a b c d e f g h i j k l m n o p : eL (z2l a b c d e f g h i j k l m n o p) (
 bif ltB d c then
 nth b d fun y0 =>
 Option.bind (z3u k y0) fun x1 =>
 bif x1 then
 z2l a b c (addI .i64 d 1) e f g h i j k l m n o p
 else
 Option.bind (z18 k) fun x2 =>
 capOk (List.length x2.2 + List.length ([y0] : List Claim)) <|
 Option.bind (z4c (x2.2 ++ ([y0] : List Claim))) fun x3 =>
 bif !x3 then
 z2l a b c (addI .i64 d 1) e f g h i j k l m n o p
 else
 Option.bind (z46 a y0) fun x4 =>
 Option.bind (z2x a y0) fun x5 =>
 Option.bind (z38 (Config.mk n) e x4 x5) fun x6 =>
 bif x6 then
 some (y0, true)
 else
 z2l a b c (addI .i64 d 1) e f g h i j k l m n o p
 else
 some ((Claim.mk 0 0), false)
 ) :=
 gL o22' (q0d Tryz.f127 [1,1,0,1,0,0])
theorem y2b a b : eL (z46 a b) (
 Option.bind (z1t a b) fun x0 =>
 some x0
 ) :=
 cL o1' Tryz.func144
theorem y36 a b : eL (z2x a b) (
 Option.bind (z1p a b) fun x0 =>
 some x0
 ) :=
 cL o1' Tryz.func129
theorem y3s a b c d : eL (z38 a b c d) (
 Option.bind (z21 c) fun x0 =>
 bif !x0 then
 some false
 else
 Option.bind (z21 d) fun x1 =>
 bif !x1 then
 some false
 else
 Option.bind (z3l a b d) fun x2 =>
 bif x2 then
 some true
 else
 Option.bind (z3c a (orI .i64 c d)) fun x3 =>
 Option.bind (z30 x3 b) fun x4 =>
 some x4
 ) :=
 cL o0' Tryz.func143
theorem y28 a b : eL (z1t a b) (
 z15 0 a (a.length : Int) 0 b.Topic b.Value
 ) :=
 cL o1' Tryz.func146
theorem y4a a b : eL (z1p a b) (
 z0v 0 a (a.length : Int) 0 b.Topic b.Value
 ) :=
 cL o1' Tryz.func146
theorem y1u a b c : eL (z3l a b c) (
 Option.bind (z21 c) fun x0 =>
 bif !x0 then
 some false
 else
 Option.bind (z27 a) fun x1 =>
 Option.bind (z30 x1 b) fun x2 =>
 bif !x2 then
 some false
 else
 chk (0 ≤ b) <|
 nth a.Members b fun y3 =>
 Option.bind (z29 y3.Trust (orI .i64 (qg0 .i64 1023 c) (shlI .i64 1 b))) fun x4 =>
 some (!x4)
 ) :=
 cL o0' Tryz.func152
theorem y0v a b : eL (z3c a b) (
 Option.bind (z3q a b) fun x0 =>
 some x0.1
 ) :=
 cL o1' Tryz.func145
end Go.Proofs.YthbpagedblodfaaGreat
