/- What the functions come to, printed by a program and checked by the kernel. -/
import Derived.Test.YtglokalgdbegeaaGreatP22Df
namespace Go.Proofs.YtglokalgdbegeaaGreat
open Go Go.Ab
set_option maxRecDepth 100000
theorem y9l a b : eL (z2x a b) (
 Option.bind (z4s a) fun x0 =>
 Option.bind (z4s b) fun x1 =>
 bif x0 then
 bif x1 then
 some 0
 else
 some (-1)
 else
 bif x1 then
 some 1
 else
 bif ltB a b then
 some (-1)
 else
 bif ltB b a then
 some 1
 else
 some 0
 ) :=
 cL o1' Tryz.func70
theorem y5c a b : eL (z40 a b) (
 Option.bind (z3u a) fun x0 =>
 Option.bind (z3u b) fun x1 =>
 bif x0 then
 bif x1 then
 some 0
 else
 some (-1)
 else
 bif x1 then
 some 1
 else
 bif ltS a b then
 some (-1)
 else
 bif !leS a b then
 some 1
 else
 some 0
 ) :=
 cL o1' Tryz.func95
theorem y6j a : eL (z5g a) (
 z47 0 a (a.length : Int) 0
 ) :=
 cL o1' Tryz.func94
theorem y5s a : eL (z4s a) (
 some (neB a a)
 ) :=
 cL o0' Tryz.func114
theorem y7c a : eL (z3u a) (
 some (!eqS a a)
 ) :=
 cL o0' Tryz.func133
theorem y32 a b c d e f g h : eL (z3b a b c d e f g h) (
 bif ltB b a then
 nth e b fun y0 =>
 nth h b fun y1 =>
 Option.bind (z3o y0 y1) fun x2 =>
 bif !x2 then
 some false
 else
 z3b a (addI .i64 b 1) c d e f g h
 else
 some true
 ) :=
 gL o0' (q0b Tryz.f83 [1,1,0,1,0,0])
theorem y29 a b c d : eL (z4l a b c d) (
 bif ltB d c then
 nth a d fun y0 =>
 nth b d fun y1 =>
 bif !eqS y0 y1 then
 some false
 else
 z4l a b c (addI .i64 d 1)
 else
 some true
 ) :=
 gL o0' (q0b Tryz.f84 [1,1,0,1,0,0])
theorem y31 a b c d : eL (z1m a b c d) (
 bif ltB d c then
 nth b d fun y0 =>
 Option.bind (z46 y0) fun x1 =>
 bif x1 then
 Option.bind (z06 y0 a) fun x2 =>
 bif ltB 0 x2 then
 z1m y0 b c (addI .i64 d 1)
 else
 z1m a b c (addI .i64 d 1)
 else
 z1m a b c (addI .i64 d 1)
 else
 some (a, (!eqS a []))
 ) :=
 gL o13' (q0b Tryz.f25 [1,1,0,1,0,0])
theorem qt0 a b c d e f g : eL (z2y a b c d e f g) (
 bif ltB e d then
 nth c e fun y0 =>
 bif (ltB (b.length : Int) a) then
 Option.bind (z2c 3 f g) fun x1 =>
 bif eqB x1.1 0 then
 capOk (List.length b + List.length ([y0] : List (List UInt8))) <|
 z2y a (b ++ ([y0] : List (List UInt8))) c d (addI .i64 e 1) x1.2.1 x1.2.2
 else
 z2y a b c d (addI .i64 e 1) x1.2.1 x1.2.2
 else
 z2y a b c d (addI .i64 e 1) f g
 else
 some (b, f, g)
 ) :=
 gL o20' (q0b Tryz.f67 [1,1,0,1,0,0])
theorem y5y a b c d e : eL (z0f a b c d e) (
 bif ltB d e then
 nth a (IntKind.wrap .i64 (shrI .u64 (IntKind.wrap .u64 (addI .i64 d e)) 1)) fun y0 =>
 Option.bind (z3v y0 b) fun x1 =>
 bif ltB x1 0 then
 z0f a b c (addI .i64 (IntKind.wrap .i64 (shrI .u64 (IntKind.wrap .u64 (addI .i64 d e)) 1)) 1) e
 else
 z0f a b c d (IntKind.wrap .i64 (shrI .u64 (IntKind.wrap .u64 (addI .i64 d e)) 1))
 else
 bif ltB d c then
 nth a d fun y2 =>
 Option.bind (z3v y2 b) fun x3 =>
 some (d, (eqB x3 0))
 else
 some (d, false)
 ) :=
 gL o7' (q0b Tryz.f68 [1,1,1,0,0,0])
theorem y8y a b : eL (z3v a b) (
 Option.bind (z2x a.Node b) fun x0 =>
 some x0
 ) :=
 cL o1' Tryz.func69
theorem qwv a b c d e f g h i j k l m n o : eL (z0g a b c d e f g h i j k l m n o) (
 bif ltB c b then
 nth a c fun y0 =>
 Option.bind (z4d y0 d e f g h i j k l m n o) fun x1 =>
 bif x1.1 then
 some (c, x1.2.1, x1.2.2.1, x1.2.2.2.1, x1.2.2.2.2.1, x1.2.2.2.2.2.1, x1.2.2.2.2.2.2.1, x1.2.2.2.2.2.2.2.1, x1.2.2.2.2.2.2.2.2.1, x1.2.2.2.2.2.2.2.2.2.1, x1.2.2.2.2.2.2.2.2.2.2.1, x1.2.2.2.2.2.2.2.2.2.2.2.1, x1.2.2.2.2.2.2.2.2.2.2.2.2)
 else
 z0g a b (addI .i64 c 1) x1.2.1 x1.2.2.1 x1.2.2.2.1 x1.2.2.2.2.1 x1.2.2.2.2.2.1 x1.2.2.2.2.2.2.1 x1.2.2.2.2.2.2.2.1 x1.2.2.2.2.2.2.2.2.1 x1.2.2.2.2.2.2.2.2.2.1 x1.2.2.2.2.2.2.2.2.2.2.1 x1.2.2.2.2.2.2.2.2.2.2.2.1 x1.2.2.2.2.2.2.2.2.2.2.2.2
 else
 some ((-1), d, e, f, g, h, i, j, k, l, m, n, o)
 ) :=
 gL o21' (q0b Tryz.f121 [1,0,1,0,0])
theorem y6t a b c d e f g h i j k l m : eL (z4d a b c d e f g h i j k l m) (
 Option.bind (z31 k a) fun x0 =>
 some ((!x0), b, c, d, e, f, g, h, i, j, k, l, m)
 ) :=
 cL o19' Tryz.func81
theorem qvm a b c d : eL (z3y a b c d) (
 bif ltB d c then
 nth a d fun y0 =>
 nth b d fun y1 =>
 bif neB y0 y1 then
 some false
 else
 z3y a b c (addI .i64 d 1)
 else
 some true
 ) :=
 gL o0' (q0b Tryz.f123 [1,1,0,1,0,0])
theorem y1z a b c d : eL (z1h a b c d) (
 bif ltB d c then
 nth a d fun y0 =>
 nth b d fun y1 =>
 bif !eqS y0 y1 then
 some false
 else
 z1h a b c (addI .i64 d 1)
 else
 some true
 ) :=
 gL o0' (q0b Tryz.f89 [1,1,0,1,0,0])
theorem y3d a b c d : eL (z1t a b c d) (
 bif ltB d c then
 nth a d fun y0 =>
 nth b d fun y1 =>
 bif neB y0 y1 then
 some false
 else
 z1t a b c (addI .i64 d 1)
 else
 some true
 ) :=
 gL o0' (q0b Tryz.f131 [1,1,0,1,0,0])
theorem y2p a b c d : eL (z0k a b c d) (
 bif ltB d c then
 nth b d fun y0 =>
 nth a d fun y1 =>
 Option.bind (z3g y0 y1) fun x2 =>
 bif !x2 then
 some false
 else
 z0k a b c (addI .i64 d 1)
 else
 some true
 ) :=
 gL o0' (q0b Tryz.f132 [1,1,0,1,0,0])
theorem qsa a b c d e f g h i j k : eL (z4a a b c d e f g h i j k) (
 bif ltB 0 c then
 Option.bind (z5h a (subI .i64 b 1) d e) fun x0 =>
 capOk (List.length k + List.length ([(Trust.mk x0.1.Threshold x0.1.Nodes x0.1.Inner)] : List Trust)) <|
 z4a a b (subI .i64 c 1) x0.2.1 x0.2.2 f g h i j (k ++ ([(Trust.mk x0.1.Threshold x0.1.Nodes x0.1.Inner)] : List Trust))
 else
 bif (ltB 0 (k.length : Int)) then
 Option.bind (z2c 3 d e) fun x1 =>
 bif eqB x1.1 0 then
 Option.bind (z2f 1 (addI .i64 ((List.length ([] : List Int) : Nat) : Int) (k.length : Int)) x1.2.1 x1.2.2) fun x2 =>
 some ((Trust.mk x2.1 [] k), x2.2.1, x2.2.2)
 else
 Option.bind (z2f 1 (addI .i64 (j.length : Int) (k.length : Int)) x1.2.1 x1.2.2) fun x3 =>
 some ((Trust.mk x3.1 j k), x3.2.1, x3.2.2)
 else
 Option.bind (z2f 1 (addI .i64 (j.length : Int) (k.length : Int)) d e) fun x4 =>
 some ((Trust.mk x4.1 j k), x4.2.1, x4.2.2)
 ) :=
 gL o10' (q0b Tryz.f74 [1,1,1,1,0,1,0,0,1,0,0])
theorem y2k a b c d e f g h i j k l m n o p q r s t u v w x y z A B C : eL (z21 a b c d e f g h i j k l m n o p q r s t u v w x y z A B C) (
 bif ltB d c then
 nth b d fun y0 =>
 Option.bind (z3s a y0) fun x1 =>
 Option.bind (z3j (Config.mk C) e x1.2) fun x2 =>
 bif x2 then
 Option.bind (z3h o y0) fun x3 =>
 z21 a b c (addI .i64 d 1) e f g h i j k l m n x3 p q r s t u v w x y z A B C
 else
 z21 a b c (addI .i64 d 1) e f g h i j k l m n o p q r s t u v w x y z A B C
 else
 some (Nominator.mk e f g h (Trust.mk i j k) l m n o p)
 ) :=
 gL o6' (q0b Tryz.f58 [1,1,1,1,1,0,1,0,0])
theorem y7s a b c : eL (z3j a b c) (
 Option.bind (z44 a c) fun x0 =>
 Option.bind (z3m x0 b) fun x1 =>
 some x1
 ) :=
 cL o0' Tryz.func107
theorem y8u a b c d e : eL (z0c a b c d e) (
 bif ltB d e then
 nth a (IntKind.wrap .i64 (shrI .u64 (IntKind.wrap .u64 (addI .i64 d e)) 1)) fun y0 =>
 Option.bind (z06 y0 b) fun x1 =>
 bif ltB x1 0 then
 z0c a b c (addI .i64 (IntKind.wrap .i64 (shrI .u64 (IntKind.wrap .u64 (addI .i64 d e)) 1)) 1) e
 else
 z0c a b c d (IntKind.wrap .i64 (shrI .u64 (IntKind.wrap .u64 (addI .i64 d e)) 1))
 else
 bif ltB d c then
 nth a d fun y2 =>
 Option.bind (z06 y2 b) fun x3 =>
 some (d, (eqB x3 0))
 else
 some (d, false)
 ) :=
 gL o7' (q0b Tryz.f144 [1,1,1,0,0,0])
theorem y1h a b c d : eL (z3e a b c d) (
 bif ltB 0 b then
 Option.bind (z2c (addI .i64 b 1) c d) fun x0 =>
 nth a x0.1 fun _ =>
 nth a b fun _ =>
 nthN a (Int.toNat x0.1) fun y1 =>
 nthN a (Int.toNat b) fun y2 =>
 nth a b fun _ =>
 nthN a (Int.toNat b) fun _y3 =>
 nth (List.set a (Int.toNat b) y1) x0.1 fun _ =>
 nthN (List.set a (Int.toNat b) y1) (Int.toNat x0.1) fun _y4 =>
 z3e (List.set (List.set a (Int.toNat b) y1) (Int.toNat x0.1) y2) (subI .i64 b 1) x0.2.1 x0.2.2
 else
 some (a, c, d)
 ) :=
 gL o16' (q0b Tryz.f117 [1,1,1,0,1,0,0])
theorem qml a b c d e f : eL (z1y a b c d e f) (
 bif ltB c b then
 nth a c fun y0 =>
 Option.bind (z3l y0) fun x1 =>
 bif neB x1 0 then
 some x1
 else
 z1y a b (addI .i64 c 1) d e f
 else
 some 0
 ) :=
 gL o1' (q0b Tryz.f120 [1,1,1,1,0,1,0,0])
theorem qew a b c d : eL (z2a a b c d) (
 bif ltB d c then
 nth b d fun y0 =>
 bif ltB y0 0 then
 some (0, 5)
 else
 bif leB 10 y0 then
 some (0, 5)
 else
 Option.bind (z5y a y0) fun x1 =>
 bif x1 then
 some (0, 6)
 else
 chk (0 <= y0) <|
 z2a (orI .i64 a (shlI .i64 1 y0)) b c (addI .i64 d 1)
 else
 some (a, 0)
 ) :=
 gL o3' (q0b Tryz.f157 [1,1,0,1,0,0])
theorem y86 a b : eL (z5y a b) (
 Option.bind (z5o a) fun x0 =>
 bif x0 then
 bif leB 0 b then
 bif ltB b 10 then
 chk (0 <= b) <|
 some (eqB (andI .i64 (shrI .i64 a b) 1) 1)
 else
 some false
 else
 some false
 else
 some false
 ) :=
 cL o0' Tryz.func21
theorem y6m a : eL (z5o a) (
 bif leB 0 a then
 some (leB a 1023)
 else
 some false
 ) :=
 cL o0' Tryz.func66
theorem y1d a b c d e f g h i j k l m n o p q r s t : eL (z20 a b c d e f g h i j k l m n o p q r s t) (
 bif ltB h g then
 nth f h fun y0 =>
 bif neB y0.Node b then
 z20 a b c d e f g (addI .i64 h 1) i j k l m n o p q r s t
 else
 Option.bind (z41 ([(Nomination.mk y0.Node y0.Seq (Trust.mk y0.Trust.Threshold y0.Trust.Nodes y0.Trust.Inner) y0.Votes y0.Accepts)] : List Nomination)) fun x1 =>
 z2m a b c d e f g h x1 (x1.length : Int) 0 i j k l m n o p q r s t y0.Node y0.Seq y0.Trust.Threshold y0.Trust.Nodes y0.Trust.Inner y0.Votes y0.Accepts
 else
 z1s a c d (addI .i64 e 1) i j k l m n o p q r s t
 ) :=
 gL o5' (q0b Tryz.f102 [1,1,1,0,1,0,0,1,1,0,0,1,1,1,0,0])
theorem y2u a b c d e f g h i : eL (z26 a b c d e f g h i) (
 bif ltB d c then
 nth b d fun y0 =>
 bif neB y0.Node a then
 Option.bind (z53 y0) fun x1 =>
 bif x1 then
 Option.bind (z3f y0.Trust) fun x2 =>
 nth i y0.Node fun _ =>
 nthN i (Int.toNat y0.Node) fun _y3 =>
 z26 a b c (addI .i64 d 1) e f g h (List.set i (Int.toNat y0.Node) (Member.mk true (Trust.mk x2.Threshold x2.Nodes x2.Inner)))
 else
 z26 a b c (addI .i64 d 1) e f g h i
 else
 z26 a b c (addI .i64 d 1) e f g h i
 else
 Option.bind (z4t a) fun x4 =>
 bif x4 then
 Option.bind (z23 (Trust.mk e f g)) fun x5 =>
 bif eqB x5 0 then
 Option.bind (z3f (Trust.mk e f g)) fun x6 =>
 nth i a fun _ =>
 nthN i (Int.toNat a) fun _y7 =>
 some (Config.mk (List.set i (Int.toNat a) (Member.mk true (Trust.mk x6.Threshold x6.Nodes x6.Inner))))
 else
 some (Config.mk i)
 else
 some (Config.mk i)
 ) :=
 gL o12' (q0b Tryz.f142 [1,1,0,1,0,0])
theorem y8b a : eL (z53 a) (
 Option.bind (z4t a.Node) fun x0 =>
 bif x0 then
 bif leB 1 a.Seq then
 Option.bind (z23 a.Trust) fun x1 =>
 bif eqB x1 0 then
 Option.bind (z58 a.Votes) fun x2 =>
 bif x2 then
 Option.bind (z58 a.Accepts) fun x3 =>
 some x3
 else
 some false
 else
 some false
 else
 some false
 else
 some false
 ) :=
 cL o0' Tryz.func168
theorem y71 a : eL (z3f a) (
 capOk (List.length ([] : List Int) + List.length a.Nodes) <|
 z2n a.Inner (a.Inner.length : Int) 0 a.Threshold a.Nodes a.Inner 0 [] [] a.Threshold (([] : List Int) ++ a.Nodes) []
 ) :=
 cL o14' Tryz.func169
theorem y93 a : eL (z4t a) (
 bif leB 0 a then
 some (ltB a 10)
 else
 some false
 ) :=
 cL o0' Tryz.func170
theorem y5u a : eL (z58 a) (
 z2b a a (a.length : Int) 0
 ) :=
 cL o0' Tryz.func190
theorem y24 a b c d e f : eL (z1p a b c d e f) (
 bif ltB f e then
 nth d f fun y0 =>
 Option.bind (z31 y0.Votes a) fun x1 =>
 bif x1 then
 chk (0 <= y0.Node) <|
 Option.bind (z31 y0.Accepts a) fun x2 =>
 bif x2 then
 chk (0 <= y0.Node) <|
 z1p a (orI .i64 b (shlI .i64 1 y0.Node)) (orI .i64 c (shlI .i64 1 y0.Node)) d e (addI .i64 f 1)
 else
 z1p a (orI .i64 b (shlI .i64 1 y0.Node)) c d e (addI .i64 f 1)
 else
 Option.bind (z31 y0.Accepts a) fun x3 =>
 bif x3 then
 chk (0 <= y0.Node) <|
 z1p a b (orI .i64 c (shlI .i64 1 y0.Node)) d e (addI .i64 f 1)
 else
 z1p a b c d e (addI .i64 f 1)
 else
 some (b, c)
 ) :=
 gL o3' (q0b Tryz.f106 [1,0,1,0,0])
theorem qxm a b c d : eL (z1f a b c d) (
 bif ltB d c then
 nth a d fun y0 =>
 bif eqS b y0 then
 some d
 else
 z1f a b c (addI .i64 d 1)
 else
 some (-1)
 ) :=
 gL o1' (q0b Tryz.f158 [1,0,1,0,0])
theorem y1j a b c d e : eL (z1i a b c d e) (
 bif ltB d c then
 nth b d fun y0 =>
 bif y0.Declared then
 bif ltB d 10 then
 chk (0 <= d) <|
 z1i (orI .i64 a (shlI .i64 1 d)) b c (addI .i64 d 1) e
 else
 z1i a b c (addI .i64 d 1) e
 else
 z1i a b c (addI .i64 d 1) e
 else
 some a
 ) :=
 gL o1' (q0b Tryz.f192 [1,1,0,1,0,0])
theorem y1m a b c d e f g h : eL (z1w a b c d e f g h) (
 bif ltB e d then
 nth c e fun y0 =>
 Option.bind (z3m a y0) fun x1 =>
 bif x1 then
 z1w a (addI .i64 b 1) c d (addI .i64 e 1) f g h
 else
 z1w a b c d (addI .i64 e 1) f g h
 else
 z1q a b h (h.length : Int) 0 f g h
 ) :=
 gL o0' (q0b Tryz.f193 [1,1,1,0,1,0,0])
theorem y2w a b c : eL (z2e a b c) (
 Option.bind (z54 (Config.mk c) a) fun x0 =>
 bif !x0.2 then
 some (a, b)
 else
 capOk (List.length b + List.length ([x0.1] : List Int)) <|
 chk (0 <= x0.1) <|
 z2e (qhi .i64 a (shlI .i64 1 x0.1)) (b ++ ([x0.1] : List Int)) c
 ) :=
 gL o22' (q0b Tryz.f175 [1,1,1,1,0,0])
theorem y77 a b : eL (z54 a b) (
 Option.bind (z4y b) fun x0 =>
 z2z b x0 (x0.length : Int) 0 a.Members
 ) :=
 cL o7' Tryz.func195
theorem qrq a b c d e f g h i : eL (z1o a b c d e f g h i) (
 bif ltB f 10 then
 Option.bind (z4o (Trust.mk g h i) a b c f) fun x0 =>
 bif !x0 then
 z1o a b c d e (addI .i64 f 1) g h i
 else
 Option.bind (z4e 2 b c f) fun x1 =>
 bif leB e x1 then
 z1o a b c f x1 (addI .i64 f 1) g h i
 else
 z1o a b c d e (addI .i64 f 1) g h i
 else
 some d
 ) :=
 gL o1' (q0b Tryz.f165 [1,1,0,1,0,0])
theorem y8p a b c d e : eL (z4o a b c d e) (
 bif eqB e b then
 some true
 else
 Option.bind (z4u a e) fun x0 =>
 bif x0.2 then
 Option.bind (z4e 1 c d e) fun x1 =>
 some (ltB (mulI .u64 (IntKind.wrap .u64 x1) (IntKind.wrap .u64 x0.1.Den)) (shlI .u64 (IntKind.wrap .u64 x0.1.Num) 32))
 else
 some false
 ) :=
 cL o0' Tryz.func186
end Go.Proofs.YtglokalgdbegeaaGreat
