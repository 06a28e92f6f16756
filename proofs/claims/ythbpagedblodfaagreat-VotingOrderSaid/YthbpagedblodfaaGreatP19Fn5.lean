/- What the functions come to, printed by a program and checked by the kernel. -/
import Derived.Test.YthbpagedblodfaaGreatP19Df
namespace Go.Proofs.YthbpagedblodfaaGreat
open Go Go.Ab
set_option maxRecDepth 100000
theorem y1k a b : eL (z51 a b) (
 Option.bind (z4w a) fun x0 =>
 bif x0 then
 bif leB 0 b then
 bif ltB b 10 then
 chk (0 ≤ b) <|
 some (eqB (andI .i64 (shrI .i64 a b) 1) 1)
 else
 some false
 else
 some false
 else
 some false
 ) :=
 cL o0' Tryz.func70
theorem y3b a : eL (z4w a) (
 bif leB 0 a then
 some (leB a 1023)
 else
 some false
 ) :=
 cL o0' Tryz.func109
theorem qpl a b c d e f g h i j k : eL (z3f a b c d e f g h i j k) (
 bif ltB 0 c then
 Option.bind (z4s a (subI .i64 b 1) d e) fun x0 =>
 capOk (List.length k + List.length ([(Trust.mk x0.1.Threshold x0.1.Nodes x0.1.Inner)] : List Trust)) <|
 z3f a b (subI .i64 c 1) x0.2.1 x0.2.2 f g h i j (k ++ ([(Trust.mk x0.1.Threshold x0.1.Nodes x0.1.Inner)] : List Trust))
 else
 bif (ltB 0 (k.length : Int)) then
 Option.bind (z2r 3 d e) fun x1 =>
 bif eqB x1.1 0 then
 Option.bind (z2i 1 (addI .i64 ((List.length ([] : List Int) : Nat) : Int) (k.length : Int)) x1.2.1 x1.2.2) fun x2 =>
 some ((Trust.mk x2.1 [] k), x2.2.1, x2.2.2)
 else
 Option.bind (z2i 1 (addI .i64 (j.length : Int) (k.length : Int)) x1.2.1 x1.2.2) fun x3 =>
 some ((Trust.mk x3.1 j k), x3.2.1, x3.2.2)
 else
 Option.bind (z2i 1 (addI .i64 (j.length : Int) (k.length : Int)) d e) fun x4 =>
 some ((Trust.mk x4.1 j k), x4.2.1, x4.2.2)
 ) :=
 gL o8' (q0d Tryz.f47 [1,1,1,1,0,1,0,0,1,0,0])
theorem qpy a b c d : eL (z1z a b c d) (
 bif ltB 0 b then
 Option.bind (z2r (addI .i64 b 1) c d) fun x0 =>
 nth a x0.1 fun _ =>
 nth a b fun _ =>
 nthN a (Int.toNat x0.1) fun y1 =>
 nthN a (Int.toNat b) fun y2 =>
 nth a b fun _ =>
 nthN a (Int.toNat b) fun _y3 =>
 nth (List.set a (Int.toNat b) y1) x0.1 fun _ =>
 nthN (List.set a (Int.toNat b) y1) (Int.toNat x0.1) fun _y4 =>
 z1z (List.set (List.set a (Int.toNat b) y1) (Int.toNat x0.1) y2) (subI .i64 b 1) x0.2.1 x0.2.2
 else
 some (a, c, d)
 ) :=
 gL o15' (q0d Tryz.f13 [1,1,1,0,1,0,0])
theorem quz a b c d e f : eL (z2n a b c d e f) (
 bif ltB c b then
 nth a c fun y0 =>
 Option.bind (z3x y0) fun x1 =>
 bif neB x1 0 then
 some x1
 else
 z2n a b (addI .i64 c 1) d e f
 else
 some 0
 ) :=
 gL o1' (q0d Tryz.f99 [1,1,1,1,0,1,0,0])
theorem qpx a b c d : eL (z3g a b c d) (
 bif ltB d c then
 nth b d fun y0 =>
 bif ltB y0 0 then
 some (0, 5)
 else
 bif leB 10 y0 then
 some (0, 5)
 else
 Option.bind (z51 a y0) fun x1 =>
 bif x1 then
 some (0, 6)
 else
 chk (0 ≤ y0) <|
 z3g (orI .i64 a (shlI .i64 1 y0)) b c (addI .i64 d 1)
 else
 some (a, 0)
 ) :=
 gL o11' (q0d Tryz.f122 [1,1,0,1,0,0])
theorem qv9 a b c d : eL (z3d a b c d) (
 bif ltB d c then
 nth b d fun y0 =>
 bif neB y0 a then
 some y0
 else
 z3d a b c (addI .i64 d 1)
 else
 some a
 ) :=
 gL o1' (q0d Tryz.f133 [1,1,0,1,0,0])
theorem qz1 a b c d e f g h i j k l m n o p q r s t u v w x y : eL (z28 a b c d e f g h i j k l m n o p q r s t u v w x y) (
 bif ltB d c then
 nth b d fun y0 =>
 Option.bind (z2x a y0) fun x1 =>
 Option.bind (z2z (Config.mk w) e x1) fun x2 =>
 bif x2 then
 Option.bind (z4j l y0) fun x3 =>
 z28 a b c (addI .i64 d 1) e f g h i j k x3 m n o p q r s t u v w x y
 else
 z28 a b c (addI .i64 d 1) e f g h i j k l m n o p q r s t u v w x y
 else
 some (Voter.mk e f (Trust.mk g h i) j k l m)
 ) :=
 gL o6' (q0d Tryz.f104 [1,1,1,1,0,1,0,0])
theorem y46 a b c : eL (z2z a b c) (
 Option.bind (z3c a c) fun x0 =>
 Option.bind (z30 x0 b) fun x1 =>
 some x1
 ) :=
 cL o0' Tryz.func128
theorem qz7 a b c d e f g h i j k l : eL (z2a a b c d e f g h i j k l) (
 bif ltB c b then
 nth a c fun y0 =>
 Option.bind (z2w y0) fun x1 =>
 capOk (List.length l + List.length ([(Trust.mk x1.Threshold x1.Nodes x1.Inner)] : List Trust)) <|
 z2a a b (addI .i64 c 1) d e f g h i j k (l ++ ([(Trust.mk x1.Threshold x1.Nodes x1.Inner)] : List Trust))
 else
 some (Trust.mk j k l)
 ) :=
 gL o9' (q0d Tryz.f141 [1,1,0,1,0,0])
theorem qy5 a b c d e f : eL (z15 a b c d e f) (
 bif ltB d c then
 nth b d fun y0 =>
 Option.bind (z2b y0) fun x1 =>
 bif x1 then
 Option.bind (z3t y0) fun x2 =>
 Option.bind (z3u x2 (Claim.mk e f)) fun x3 =>
 bif x3 then
 chk (0 ≤ y0.Node) <|
 z15 (orI .i64 a (shlI .i64 1 y0.Node)) b c (addI .i64 d 1) e f
 else
 z15 a b c (addI .i64 d 1) e f
 else
 z15 a b c (addI .i64 d 1) e f
 else
 some a
 ) :=
 gL o1' (q0d Tryz.f146 [1,1,0,1,0,0])
theorem y4l a : eL (z3t a) (
 some a.Votes
 ) :=
 cL o4' Tryz.func153
theorem qyj a b c d e f : eL (z0v a b c d e f) (
 bif ltB d c then
 nth b d fun y0 =>
 Option.bind (z2b y0) fun x1 =>
 bif x1 then
 Option.bind (z35 y0) fun x2 =>
 Option.bind (z3u x2 (Claim.mk e f)) fun x3 =>
 bif x3 then
 chk (0 ≤ y0.Node) <|
 z0v (orI .i64 a (shlI .i64 1 y0.Node)) b c (addI .i64 d 1) e f
 else
 z0v a b c (addI .i64 d 1) e f
 else
 z0v a b c (addI .i64 d 1) e f
 else
 some a
 ) :=
 gL o1' (q0d Tryz.f146 [1,1,0,1,0,0])
theorem y1q a : eL (z35 a) (
 some a.Accepts
 ) :=
 cL o4' Tryz.func147
theorem qxn a b c d e : eL (z1k a b c d e) (
 bif ltB d c then
 nth b d fun y0 =>
 bif y0.Declared then
 bif ltB d 10 then
 chk (0 ≤ d) <|
 z1k (orI .i64 a (shlI .i64 1 d)) b c (addI .i64 d 1) e
 else
 z1k a b c (addI .i64 d 1) e
 else
 z1k a b c (addI .i64 d 1) e
 else
 some a
 ) :=
 gL o1' (q0d Tryz.f166 [1,1,0,1,0,0])
theorem qy6 a b c d e f g h : eL (z1v a b c d e f g h) (
 bif ltB e d then
 nth c e fun y0 =>
 Option.bind (z30 a y0) fun x1 =>
 bif x1 then
 z1v a (addI .i64 b 1) c d (addI .i64 e 1) f g h
 else
 z1v a b c d (addI .i64 e 1) f g h
 else
 z1r a b h (h.length : Int) 0 f g h
 ) :=
 gL o0' (q0d Tryz.f167 [1,1,1,0,1,0,0])
theorem qy2 a b c : eL (z25 a b c) (
 Option.bind (z48 (Config.mk c) a) fun x0 =>
 bif !x0.2 then
 some (a, b)
 else
 capOk (List.length b + List.length ([x0.1] : List Int)) <|
 chk (0 ≤ x0.1) <|
 z25 (qg0 .i64 a (shlI .i64 1 x0.1)) (b ++ ([x0.1] : List Int)) c
 ) :=
 gL o23' (q0d Tryz.f154 [1,1,1,1,0,0])
theorem y2w a b : eL (z48 a b) (
 Option.bind (z4n b) fun x0 =>
 z2g b x0 (x0.length : Int) 0 a.Members
 ) :=
 cL o10' Tryz.func168
theorem y1c a : eL (z4n a) (
 z2h a [] 0
 ) :=
 cL o25' Tryz.func174
theorem y3h a b c d : eL (z0d a b c d) (
 bif ltB c b then
 z0g a b c c d
 else
 some d
 ) :=
 gL o2' (q0d Tryz.f156 [1,0,0])
theorem qxt a b c d e : eL (z0p a b c d e) (
 bif leB 0 d then
 Option.bind (z16 d c a e) fun x0 =>
 z0p a b c (subI .i64 d 1) x0
 else
 z0q a b (subI .i64 c 1) e
 ) :=
 gL o2' (q0d Tryz.f157 [1,1,1,0,1,0,0])
theorem y0n a b c d : eL (z16 a b c d) (
 z0c b c a d
 ) :=
 cL o2' Tryz.func169
end Go.Proofs.YthbpagedblodfaaGreat
