/- What the functions come to, printed by a program and checked by the kernel. -/
import Derived.Test.YtglokalgdbegeaaGreatP22Df
namespace Go.Proofs.YtglokalgdbegeaaGreat
open Go Go.Ab
set_option maxRecDepth 100000
theorem y0w a b c d : eL (z1p a b c d) (
 bif ltB d c then
 nth b d fun y0 =>
 Option.bind (z41 y0) fun x1 =>
 bif x1 then
 Option.bind (z06 y0 a) fun x2 =>
 bif ltB 0 x2 then
 z1p y0 b c (addI .i64 d 1)
 else
 z1p a b c (addI .i64 d 1)
 else
 z1p a b c (addI .i64 d 1)
 else
 some (a, (!eqS a []))
 ) :=
 gL o13' (q0b Tryz.f25 [1,1,0,1,0,0])
theorem y7c a : eL (z41 a) (
 bif (leB 1 (a.length : Int)) then
 some (leB (a.length : Int) 200)
 else
 some false
 ) :=
 cL o0' Tryz.func73
theorem y6o a b : eL (z06 a b) (
 Option.bind (z2r (a.length : Int) (b.length : Int)) fun x0 =>
 Option.bind (z3y a b) fun x1 =>
 Option.bind (z5f ([x0, x1] : List Int)) fun x2 =>
 some x2
 ) :=
 cL o1' Tryz.func50
theorem y6a a b : eL (z2r a b) (
 Option.bind (z4m a) fun x0 =>
 Option.bind (z4m b) fun x1 =>
 bif x0 then
 bif x1 then
 some 0
 else
 some (-1)
 else
 bif x1 then
 some 1
 else
 bif ltB a b then
 some (-1)
 else
 bif ltB b a then
 some 1
 else
 some 0
 ) :=
 cL o1' Tryz.func70
theorem y6b a b : eL (z3y a b) (
 Option.bind (z3s a) fun x0 =>
 Option.bind (z3s b) fun x1 =>
 bif x0 then
 bif x1 then
 some 0
 else
 some (-1)
 else
 bif x1 then
 some 1
 else
 bif ltS a b then
 some (-1)
 else
 bif !leS a b then
 some 1
 else
 some 0
 ) :=
 cL o1' Tryz.func95
theorem y66 a : eL (z5f a) (
 z45 0 a (a.length : Int) 0
 ) :=
 cL o1' Tryz.func94
theorem y5n a : eL (z4m a) (
 some (neB a a)
 ) :=
 cL o0' Tryz.func114
theorem y5p a : eL (z3s a) (
 some (!eqS a a)
 ) :=
 cL o0' Tryz.func133
theorem qse a b c d e f g : eL (z2s a b c d e f g) (
 bif ltB e d then
 nth c e fun y0 =>
 bif (ltB (b.length : Int) a) then
 Option.bind (z2d 3 f g) fun x1 =>
 bif eqB x1.1 0 then
 capOk (List.length b + List.length ([y0] : List (List UInt8))) <|
 z2s a (b ++ ([y0] : List (List UInt8))) c d (addI .i64 e 1) x1.2.1 x1.2.2
 else
 z2s a b c d (addI .i64 e 1) x1.2.1 x1.2.2
 else
 z2s a b c d (addI .i64 e 1) f g
 else
 some (b, f, g)
 ) :=
 gL o18' (q0b Tryz.f67 [1,1,0,1,0,0])
theorem qwm a b c d e f g h i j k l m : eL (z46 a b c d e f g h i j k l m) (
 bif ltB e d then
 nth c e fun y0 =>
 capOk (List.length l + List.length ([y0] : List Int)) <|
 z46 a b c d (addI .i64 e 1) f g h i j k (l ++ ([y0] : List Int)) m
 else
 bif ltB 1 b then
 Option.bind (z5g ([0, 0, 1, 1, 2, 3] : List Int) f g) fun x1 =>
 z47 a b x1.1 x1.2.1 x1.2.2 h i j k l m
 else
 Option.bind (z2g 1 (addI .i64 (l.length : Int) (m.length : Int)) f g) fun x2 =>
 some ((Trust.mk x2.1 l m), x2.2.1, x2.2.2)
 ) :=
 gL o11' (q0b Tryz.f74 [1,1,1,0,1,0,0])
theorem y7e a b c d e f g h i j k l m n o p q r s t u v w x y z A : eL (z2a a b c d e f g h i j k l m n o p q r s t u v w x y z A) (
 bif b then
 Option.bind (z3g l a) fun x0 =>
 Option.bind (z38 (Nominator.mk c d e f (Trust.mk g h i) j k x0 m n) (Config.mk A)) fun x1 =>
 z2a x1.1 x1.2 c d e f g h i j k x0 m n o p q r s t u v w x y z A
 else
 Option.bind (z1i n) fun x2 =>
 Option.bind (z4l (Nominator.mk c d e f (Trust.mk g h i) j k l m n)) fun x3 =>
 capOk (List.length x2.2 + List.length ([(Nomination.mk x3.Node x3.Seq (Trust.mk x3.Trust.Threshold x3.Trust.Nodes x3.Trust.Inner) x3.Votes x3.Accepts)] : List Nomination)) <|
 z23 (x2.2 ++ ([(Nomination.mk x3.Node x3.Seq (Trust.mk x3.Trust.Threshold x3.Trust.Nodes x3.Trust.Inner) x3.Votes x3.Accepts)] : List Nomination)) l (l.length : Int) 0 c d e f g h i j k l m n o p q r s t u v w x y z A
 ) :=
 gL o6' (q0b Tryz.f58 [1,1,1,0,1,0,0])
theorem y56 a b : eL (z3g a b) (
 Option.bind (z0w a b) fun x0 =>
 bif x0.2 then
 some a
 else
 bif (leB 40 (a.length : Int)) then
 some a
 else
 Option.bind (z1c a) fun x1 =>
 Option.bind (z4v x0.1 ([b] : List (List UInt8)) x1.2) fun x2 =>
 some x2.1
 ) :=
 cL o5' Tryz.func105
theorem y7u a b : eL (z0w a b) (
 z0c a b (a.length : Int) 0 (a.length : Int)
 ) :=
 cL o7' Tryz.func144
theorem y25 a b c d e f g h i j k l m n o p q r s t u v w x y z A : eL (z2j a b c d e f g h i j k l m n o p q r s t u v w x y z A) (
 bif ltB c b then
 nth a c fun y0 =>
 Option.bind (z2e y0) fun x1 =>
 capOk (List.length o + List.length ([(Nomination.mk x1.Node x1.Seq (Trust.mk x1.Trust.Threshold x1.Trust.Nodes x1.Trust.Inner) x1.Votes x1.Accepts)] : List Nomination)) <|
 z2j a b (addI .i64 c 1) d e f g h i j k l m n (o ++ ([(Nomination.mk x1.Node x1.Seq (Trust.mk x1.Trust.Threshold x1.Trust.Nodes x1.Trust.Inner) x1.Votes x1.Accepts)] : List Nomination)) p q r s t u v w x y z A
 else
 some (Nominator.mk d e f g (Trust.mk h i j) k l m n o)
 ) :=
 gL o6' (q0b Tryz.f57 [1,1,1,1,0,1,0,0])
theorem y1m a b c d e : eL (z3c a b c d e) (
 bif ltB c a then
 capOk (List.length b + List.length ([c] : List Int)) <|
 z3c a (b ++ ([c] : List Int)) (addI .i64 c 1) d e
 else
 z3d b (subI .i64 a 1) d e
 ) :=
 gL o17' (q0b Tryz.f117 [1,1,0,1,0,0])
theorem y0s a b c d e f g : eL (z42 a b c d e f g) (
 bif ltB d c then
 nth b d fun y0 =>
 Option.bind (z5d y0) fun x1 =>
 z42 (if x1 > a then x1 else a) b c (addI .i64 d 1) e f g
 else
 some (addI .i64 a 1)
 ) :=
 gL o1' (q0b Tryz.f118 [1,1,0,1,0,0])
theorem y1h a b c d e f g : eL (z4f a b c d e f g) (
 bif ltB d c then
 nth b d fun y0 =>
 Option.bind (z5j y0) fun x1 =>
 z4f (addI .i64 a x1) b c (addI .i64 d 1) e f g
 else
 some a
 ) :=
 gL o1' (q0b Tryz.f119 [1,1,0,1,0,0])
theorem qia a b c d e f : eL (z1z a b c d e f) (
 bif ltB c b then
 nth a c fun y0 =>
 bif ltB y0 0 then
 some 5
 else
 bif leB 10 y0 then
 some 5
 else
 z1z a b (addI .i64 c 1) d e f
 else
 Option.bind (z5l e) fun x1 =>
 bif neB x1.2 0 then
 some x1.2
 else
 z20 f (f.length : Int) 0 d e f
 ) :=
 gL o1' (q0b Tryz.f120 [1,1,0,1,0,0])
theorem y0q a : eL (z5l a) (
 z2b 0 a (a.length : Int) 0
 ) :=
 cL o3' Tryz.func157
theorem y0c a b c d e f g : eL (z2t a b c d e f g) (
 bif ltB d c then
 nth b d fun y0 =>
 Option.bind (z4b y0) fun x1 =>
 z2t (if x1 > a then x1 else a) b c (addI .i64 d 1) e f g
 else
 some (addI .i64 a 1)
 ) :=
 gL o1' (q0b Tryz.f97 [1,1,0,1,0,0])
theorem y2a a b c d e f g : eL (z35 a b c d e f g) (
 bif ltB d c then
 nth b d fun y0 =>
 Option.bind (z4k y0) fun x1 =>
 z35 (addI .i64 a x1) b c (addI .i64 d 1) e f g
 else
 some a
 ) :=
 gL o1' (q0b Tryz.f98 [1,1,0,1,0,0])
theorem y2d a b c d e f : eL (z2u a b c d e f) (
 bif ltB c b then
 nth a c fun y0 =>
 Option.bind (z4c y0) fun x1 =>
 bif neB x1 0 then
 some x1
 else
 z2u a b (addI .i64 c 1) d e f
 else
 some 0
 ) :=
 gL o1' (q0b Tryz.f99 [1,1,1,1,0,1,0,0])
theorem y1j a b c d e f g h i j k l m n o p : eL (z1u a b c d e f g h i j k l m n o p) (
 bif ltB d c then
 nth b d fun y0 =>
 bif eqB y0 e then
 bif !eqS l [] then
 Option.bind (z3g a l) fun x1 =>
 z1u x1 b c (addI .i64 d 1) e f g h i j k l m n o p
 else
 z1u a b c (addI .i64 d 1) e f g h i j k l m n o p
 else
 z22 a y0 b c d p (p.length : Int) 0 e f g h i j k l m n o p
 else
 some a
 ) :=
 gL o5' (q0b Tryz.f102 [1,1,1,0,1,0,0])
theorem y1a a b c d e f g h i j k l m n o p q : eL (z2v a b c d e f g h i j k l m n o p q) (
 bif ltB d c then
 nth b d fun y0 =>
 capOk (List.length a + List.length ([(Message.mk y0.Node y0.Seq (Trust.mk y0.Trust.Threshold y0.Trust.Nodes y0.Trust.Inner) [] [])] : List Message)) <|
 z2v (a ++ ([(Message.mk y0.Node y0.Seq (Trust.mk y0.Trust.Threshold y0.Trust.Nodes y0.Trust.Inner) [] [])] : List Message)) b c (addI .i64 d 1) e f g h i j k l m n o p q
 else
 Option.bind (z51 e (Trust.mk i j k) a) fun x1 =>
 some (Config.mk x1.Members)
 ) :=
 gL o14' (q0b Tryz.f103 [1,1,0,1,0,0])
theorem y6l a b c : eL (z51 a b c) (
 z28 a c (c.length : Int) 0 b.Threshold b.Nodes b.Inner [] (List.replicate (Int.toNat 10) (Member.mk false (Trust.mk 0 [] [])))
 ) :=
 cL o14' Tryz.func142
theorem y1p a b c d e f g h i j k l m n o p q : eL (z26 a b c d e f g h i j k l m n o p q) (
 bif ltB d c then
 nth b d fun y0 =>
 Option.bind (z3t a y0) fun x1 =>
 Option.bind (z31 n y0) fun x2 =>
 bif !x2 then
 bif (ltB (n.length : Int) 40) then
 Option.bind (z3u (Config.mk q) e x1.1 x1.2) fun x3 =>
 bif x3 then
 some (y0, true)
 else
 z26 a b c (addI .i64 d 1) e f g h i j k l m n o p q
 else
 z26 a b c (addI .i64 d 1) e f g h i j k l m n o p q
 else
 z26 a b c (addI .i64 d 1) e f g h i j k l m n o p q
 else
 some ([], false)
 ) :=
 gL o13' (q0b Tryz.f104 [1,1,0,1,0,0])
theorem y53 a b : eL (z3t a b) (
 z1s b 0 0 a (a.length : Int) 0
 ) :=
 cL o3' Tryz.func106
theorem y8j a b : eL (z31 a b) (
 Option.bind (z21 a b) fun x0 =>
 some x0
 ) :=
 cL o0' Tryz.func82
theorem y5l a b c d : eL (z3u a b c d) (
 Option.bind (z29 c) fun x0 =>
 bif !x0 then
 some false
 else
 Option.bind (z29 d) fun x1 =>
 bif !x1 then
 some false
 else
 Option.bind (z4e a b d) fun x2 =>
 bif x2 then
 some true
 else
 Option.bind (z43 a (orI .i64 c d)) fun x3 =>
 Option.bind (z3l x3 b) fun x4 =>
 some x4
 ) :=
 cL o0' Tryz.func143
theorem y5x a b : eL (z21 a b) (
 Option.bind (z27 a b) fun x0 =>
 some (leB 0 x0)
 ) :=
 cL o0' Tryz.func122
theorem y1f a : eL (z29 a) (
 Option.bind (z4g a 10) fun x0 =>
 some x0
 ) :=
 cL o0' Tryz.func171
end Go.Proofs.YtglokalgdbegeaaGreat
