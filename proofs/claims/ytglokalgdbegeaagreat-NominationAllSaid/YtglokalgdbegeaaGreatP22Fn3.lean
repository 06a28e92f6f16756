/- What the functions come to, printed by a program and checked by the kernel. -/
import Derived.Test.YtglokalgdbegeaaGreatP22Df
namespace Go.Proofs.YtglokalgdbegeaaGreat
open Go Go.Ab
set_option maxRecDepth 100000
theorem y3i a b c d : eL (z1n a b c d) (
 bif ltB d c then
 nth b d fun y0 =>
 Option.bind (z3z y0) fun x1 =>
 bif x1 then
 Option.bind (z06 y0 a) fun x2 =>
 bif ltB 0 x2 then
 z1n y0 b c (addI .i64 d 1)
 else
 z1n a b c (addI .i64 d 1)
 else
 z1n a b c (addI .i64 d 1)
 else
 some (a, (!eqS a []))
 ) :=
 gL o11' (q0b Tryz.f25 [1,1,0,1,0,0])
theorem y88 a : eL (z3z a) (
 bif (leB 1 (a.length : Int)) then
 some (leB (a.length : Int) 200)
 else
 some false
 ) :=
 cL o0' Tryz.func73
theorem yb0 a b : eL (z06 a b) (
 Option.bind (z2o (a.length : Int) (b.length : Int)) fun x0 =>
 Option.bind (z3u a b) fun x1 =>
 Option.bind (z5b ([x0, x1] : List Int)) fun x2 =>
 some x2
 ) :=
 cL o1' Tryz.func50
theorem y7u a b : eL (z2o a b) (
 Option.bind (z4k a) fun x0 =>
 Option.bind (z4k b) fun x1 =>
 bif x0 then
 bif x1 then
 some 0
 else
 some (-1)
 else
 bif x1 then
 some 1
 else
 bif ltB a b then
 some (-1)
 else
 bif ltB b a then
 some 1
 else
 some 0
 ) :=
 cL o1' Tryz.func70
theorem y8r a b : eL (z3u a b) (
 Option.bind (z3o a) fun x0 =>
 Option.bind (z3o b) fun x1 =>
 bif x0 then
 bif x1 then
 some 0
 else
 some (-1)
 else
 bif x1 then
 some 1
 else
 bif ltS a b then
 some (-1)
 else
 bif !leS a b then
 some 1
 else
 some 0
 ) :=
 cL o1' Tryz.func95
theorem y7t a : eL (z5b a) (
 z43 0 a (a.length : Int) 0
 ) :=
 cL o1' Tryz.func94
theorem ya5 a : eL (z4k a) (
 some (neB a a)
 ) :=
 cL o0' Tryz.func114
theorem y6w a : eL (z3o a) (
 some (!eqS a a)
 ) :=
 cL o0' Tryz.func133
theorem y6t a b c d e f g h i j k l m n o p q r s t u v w x y z A : eL (z2a a b c d e f g h i j k l m n o p q r s t u v w x y z A) (
 bif b then
 Option.bind (z3a l a) fun x0 =>
 Option.bind (z33 (Nominator.mk c d e f (Trust.mk g h i) j k x0 m n) (Config.mk A)) fun x1 =>
 z2a x1.1 x1.2 c d e f g h i j k x0 m n o p q r s t u v w x y z A
 else
 Option.bind (z1h n) fun x2 =>
 Option.bind (z3v (Nominator.mk c d e f (Trust.mk g h i) j k l m n)) fun x3 =>
 capOk (List.length x2.2 + List.length ([(Nomination.mk x3.Node x3.Seq (Trust.mk x3.Trust.Threshold x3.Trust.Nodes x3.Trust.Inner) x3.Votes x3.Accepts)] : List Nomination)) <|
 z22 (x2.2 ++ ([(Nomination.mk x3.Node x3.Seq (Trust.mk x3.Trust.Threshold x3.Trust.Nodes x3.Trust.Inner) x3.Votes x3.Accepts)] : List Nomination)) l (l.length : Int) 0 c d e f g h i j k l m n o p q r s t u v w x y z A
 ) :=
 gL o6' (q0b Tryz.f58 [1,1,1,0,1,0,0])
theorem y99 a b : eL (z3a a b) (
 Option.bind (z0w a b) fun x0 =>
 bif x0.2 then
 some a
 else
 bif (leB 40 (a.length : Int)) then
 some a
 else
 Option.bind (z1b a) fun x1 =>
 Option.bind (z4t x0.1 ([b] : List (List UInt8)) x1.2) fun x2 =>
 some x2.1
 ) :=
 cL o5' Tryz.func105
theorem y8i a b : eL (z0w a b) (
 z0c a b (a.length : Int) 0 (a.length : Int)
 ) :=
 cL o7' Tryz.func144
theorem y3x a b c d e f g h i j k l m n o p q r s t u v w x y z A : eL (z2h a b c d e f g h i j k l m n o p q r s t u v w x y z A) (
 bif ltB c b then
 nth a c fun y0 =>
 Option.bind (z23 y0) fun x1 =>
 capOk (List.length o + List.length ([(Nomination.mk x1.Node x1.Seq (Trust.mk x1.Trust.Threshold x1.Trust.Nodes x1.Trust.Inner) x1.Votes x1.Accepts)] : List Nomination)) <|
 z2h a b (addI .i64 c 1) d e f g h i j k l m n (o ++ ([(Nomination.mk x1.Node x1.Seq (Trust.mk x1.Trust.Threshold x1.Trust.Nodes x1.Trust.Inner) x1.Votes x1.Accepts)] : List Nomination)) p q r s t u v w x y z A
 else
 some (Nominator.mk d e f g (Trust.mk h i j) k l m n o)
 ) :=
 gL o6' (q0b Tryz.f57 [1,1,1,1,0,1,0,0])
theorem y3m a b c d e f g : eL (z40 a b c d e f g) (
 bif ltB d c then
 nth b d fun y0 =>
 Option.bind (z58 y0) fun x1 =>
 z40 (if x1 > a then x1 else a) b c (addI .i64 d 1) e f g
 else
 some (addI .i64 a 1)
 ) :=
 gL o1' (q0b Tryz.f118 [1,1,0,1,0,0])
theorem y3y a b c d e f g : eL (z4b a b c d e f g) (
 bif ltB d c then
 nth b d fun y0 =>
 Option.bind (z5d y0) fun x1 =>
 z4b (addI .i64 a x1) b c (addI .i64 d 1) e f g
 else
 some a
 ) :=
 gL o1' (q0b Tryz.f119 [1,1,0,1,0,0])
theorem qy5 a b c d e f : eL (z3b a b c d e f) (
 bif ltB c b then
 nth a c fun y0 =>
 bif ltB y0 0 then
 some 5
 else
 bif leB 10 y0 then
 some 5
 else
 z3b a b (addI .i64 c 1) d e f
 else
 Option.bind (z5m e) fun x1 =>
 bif neB x1.2 0 then
 some x1.2
 else
 z3d f (f.length : Int) 0 d e f
 ) :=
 gL o1' (q0b Tryz.f120 [1,1,0,1,0,0])
theorem y9z a : eL (z5m a) (
 z44 0 a (a.length : Int) 0
 ) :=
 cL o3' Tryz.func157
theorem y3n a b c d e f g : eL (z2p a b c d e f g) (
 bif ltB d c then
 nth b d fun y0 =>
 Option.bind (z47 y0) fun x1 =>
 z2p (if x1 > a then x1 else a) b c (addI .i64 d 1) e f g
 else
 some (addI .i64 a 1)
 ) :=
 gL o1' (q0b Tryz.f97 [1,1,0,1,0,0])
theorem y46 a b c d e f g : eL (z30 a b c d e f g) (
 bif ltB d c then
 nth b d fun y0 =>
 Option.bind (z4i y0) fun x1 =>
 z30 (addI .i64 a x1) b c (addI .i64 d 1) e f g
 else
 some a
 ) :=
 gL o1' (q0b Tryz.f98 [1,1,0,1,0,0])
theorem y2y a b c d e f : eL (z2q a b c d e f) (
 bif ltB c b then
 nth a c fun y0 =>
 Option.bind (z48 y0) fun x1 =>
 bif neB x1 0 then
 some x1
 else
 z2q a b (addI .i64 c 1) d e f
 else
 some 0
 ) :=
 gL o1' (q0b Tryz.f99 [1,1,1,1,0,1,0,0])
theorem y44 a b c d e f g h i j k l m n o p : eL (z1t a b c d e f g h i j k l m n o p) (
 bif ltB d c then
 nth b d fun y0 =>
 bif eqB y0 e then
 bif !eqS l [] then
 Option.bind (z3a a l) fun x1 =>
 z1t x1 b c (addI .i64 d 1) e f g h i j k l m n o p
 else
 z1t a b c (addI .i64 d 1) e f g h i j k l m n o p
 else
 z21 a y0 b c d p (p.length : Int) 0 e f g h i j k l m n o p
 else
 some a
 ) :=
 gL o5' (q0b Tryz.f102 [1,1,1,0,1,0,0])
theorem y2v a b c d e f g h i j k l m n o p q : eL (z2r a b c d e f g h i j k l m n o p q) (
 bif ltB d c then
 nth b d fun y0 =>
 capOk (List.length a + List.length ([(Message.mk y0.Node y0.Seq (Trust.mk y0.Trust.Threshold y0.Trust.Nodes y0.Trust.Inner) [] [])] : List Message)) <|
 z2r (a ++ ([(Message.mk y0.Node y0.Seq (Trust.mk y0.Trust.Threshold y0.Trust.Nodes y0.Trust.Inner) [] [])] : List Message)) b c (addI .i64 d 1) e f g h i j k l m n o p q
 else
 Option.bind (z4z e (Trust.mk i j k) a) fun x1 =>
 some (Config.mk x1.Members)
 ) :=
 gL o12' (q0b Tryz.f103 [1,1,0,1,0,0])
theorem yad a b c : eL (z4z a b c) (
 z28 a c (c.length : Int) 0 b.Threshold b.Nodes b.Inner [] (List.replicate (Int.toNat 10) (Member.mk false (Trust.mk 0 [] [])))
 ) :=
 cL o12' Tryz.func142
theorem y4m a b c d e f g h i j k l m n o p q : eL (z24 a b c d e f g h i j k l m n o p q) (
 bif ltB d c then
 nth b d fun y0 =>
 Option.bind (z3p a y0) fun x1 =>
 Option.bind (z2w n y0) fun x2 =>
 bif !x2 then
 bif (ltB (n.length : Int) 40) then
 Option.bind (z3q (Config.mk q) e x1.1 x1.2) fun x3 =>
 bif x3 then
 some (y0, true)
 else
 z24 a b c (addI .i64 d 1) e f g h i j k l m n o p q
 else
 z24 a b c (addI .i64 d 1) e f g h i j k l m n o p q
 else
 z24 a b c (addI .i64 d 1) e f g h i j k l m n o p q
 else
 some ([], false)
 ) :=
 gL o11' (q0b Tryz.f104 [1,1,0,1,0,0])
theorem y8u a b : eL (z3p a b) (
 z1r b 0 0 a (a.length : Int) 0
 ) :=
 cL o3' Tryz.func106
theorem y9l a b : eL (z2w a b) (
 Option.bind (z20 a b) fun x0 =>
 some x0
 ) :=
 cL o0' Tryz.func82
theorem y9m a b c d : eL (z3q a b c d) (
 Option.bind (z29 c) fun x0 =>
 bif !x0 then
 some false
 else
 Option.bind (z29 d) fun x1 =>
 bif !x1 then
 some false
 else
 Option.bind (z4a a b d) fun x2 =>
 bif x2 then
 some true
 else
 Option.bind (z41 a (orI .i64 c d)) fun x3 =>
 Option.bind (z3f x3 b) fun x4 =>
 some x4
 ) :=
 cL o0' Tryz.func143
theorem yb4 a b : eL (z20 a b) (
 Option.bind (z27 a b) fun x0 =>
 some (leB 0 x0)
 ) :=
 cL o0' Tryz.func122
theorem y43 a : eL (z29 a) (
 Option.bind (z4c a 10) fun x0 =>
 some x0
 ) :=
 cL o0' Tryz.func171
end Go.Proofs.YtglokalgdbegeaaGreat
