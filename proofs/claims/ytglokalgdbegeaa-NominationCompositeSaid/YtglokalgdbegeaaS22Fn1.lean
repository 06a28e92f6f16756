/- What the functions come to, printed by a program and checked by the kernel. -/
import Derived.Test.YtglokalgdbegeaaS22Df
namespace Go.Proofs.Ytglokalgdbegeaa
open Go Go.Ab
set_option maxRecDepth 100000
theorem qzi a : eL (z1t a) (
 Option.bind (z2g a.Trust) fun x0 =>
 Option.bind (z15 a.Votes) fun x1 =>
 Option.bind (z15 a.Accepts) fun x2 =>
 some (Nomination.mk a.Node a.Seq (Trust.mk x0.Threshold x0.Nodes x0.Inner) x1.2 x2.2)
 ) :=
 cL o14' Try.func22
theorem qx2 a b c d e f g : eL (z22 a b c d e f g) (
 bif ltB d c then
 nth b d fun y0 =>
 Option.bind (z33 y0) fun x1 =>
 z22 (if x1 > a then x1 else a) b c (addI .i64 d 1) e f g
 else
 some (addI .i64 a 1)
 ) :=
 gL o1' (q0c Try.f17 [1,1,0,1,0,0])
theorem qwl a b c d e f g : eL (z2a a b c d e f g) (
 bif ltB d c then
 nth b d fun y0 =>
 Option.bind (z3b y0) fun x1 =>
 z2a (addI .i64 a x1) b c (addI .i64 d 1) e f g
 else
 some a
 ) :=
 gL o1' (q0c Try.f18 [1,1,0,1,0,0])
theorem qxp a b c d e f : eL (z23 a b c d e f) (
 bif ltB c b then
 nth a c fun y0 =>
 Option.bind (z34 y0) fun x1 =>
 bif neB x1 0 then
 some x1
 else
 z23 a b (addI .i64 c 1) d e f
 else
 some 0
 ) :=
 gL o1' (q0c Try.f19 [1,1,1,1,0,1,0,0])
theorem qxo a b c d e f g h i j k l m n o p : eL (z1h a b c d e f g h i j k l m n o p) (
 bif ltB d c then
 nth b d fun y0 =>
 bif eqB y0 e then
 bif !eqS l [] then
 Option.bind (z2k a l) fun x1 =>
 z1h x1 b c (addI .i64 d 1) e f g h i j k l m n o p
 else
 z1h a b c (addI .i64 d 1) e f g h i j k l m n o p
 else
 z1l a y0 b c d p (p.length : Int) 0 e f g h i j k l m n o p
 else
 some a
 ) :=
 gL o4' (q0c Try.f23 [1,1,1,0,1,0,0])
theorem qxh a b c d e f g h i j k l m n o p q : eL (z24 a b c d e f g h i j k l m n o p q) (
 bif ltB d c then
 nth b d fun y0 =>
 capOk (List.length a + List.length ([(Message.mk y0.Node y0.Seq (Trust.mk y0.Trust.Threshold y0.Trust.Nodes y0.Trust.Inner) [] [])] : List Message)) <|
 z24 (a ++ ([(Message.mk y0.Node y0.Seq (Trust.mk y0.Trust.Threshold y0.Trust.Nodes y0.Trust.Inner) [] [])] : List Message)) b c (addI .i64 d 1) e f g h i j k l m n o p q
 else
 Option.bind (z3q e (Trust.mk i j k) a) fun x1 =>
 some (Config.mk x1.Members)
 ) :=
 gL o10' (q0c Try.f24 [1,1,0,1,0,0])
theorem y2p a b c : eL (z3q a b c) (
 z1p a c (c.length : Int) 0 b.Threshold b.Nodes b.Inner [] (List.replicate (Int.toNat 10) (Member.mk false (Trust.mk 0 [] [])))
 ) :=
 cL o10' Try.func41
theorem qxe a b c d e f g h i j k l m n o p q : eL (z1n a b c d e f g h i j k l m n o p q) (
 bif ltB d c then
 nth b d fun y0 =>
 Option.bind (z2r a y0) fun x1 =>
 Option.bind (z2l n y0) fun x2 =>
 bif !x2 then
 bif (ltB (n.length : Int) 40) then
 Option.bind (z2s (Config.mk q) e x1.1 x1.2) fun x3 =>
 bif x3 then
 some (y0, true)
 else
 z1n a b c (addI .i64 d 1) e f g h i j k l m n o p q
 else
 z1n a b c (addI .i64 d 1) e f g h i j k l m n o p q
 else
 z1n a b c (addI .i64 d 1) e f g h i j k l m n o p q
 else
 some ([], false)
 ) :=
 gL o9' (q0c Try.f25 [1,1,0,1,0,0])
theorem y06 a b : eL (z2r a b) (
 z1f b 0 0 a (a.length : Int) 0
 ) :=
 cL o5' Try.func29
theorem qzj a b : eL (z2l a b) (
 Option.bind (z1k a b) fun x0 =>
 some x0
 ) :=
 cL o0' Try.func42
theorem y2h a b c d : eL (z2s a b c d) (
 Option.bind (z1q c) fun x0 =>
 bif !x0 then
 some false
 else
 Option.bind (z1q d) fun x1 =>
 bif !x1 then
 some false
 else
 Option.bind (z36 a b d) fun x2 =>
 bif x2 then
 some true
 else
 Option.bind (z2z a (orI .i64 c d)) fun x3 =>
 Option.bind (z2o x3 b) fun x4 =>
 some x4
 ) :=
 cL o0' Try.func43
theorem y0e a b : eL (z1k a b) (
 Option.bind (z1o a b) fun x0 =>
 some (leB 0 x0)
 ) :=
 cL o0' Try.func56
theorem qxj a : eL (z1q a) (
 Option.bind (z37 a 10) fun x0 =>
 some x0
 ) :=
 cL o0' Try.func57
theorem y0q a b c : eL (z36 a b c) (
 Option.bind (z1q c) fun x0 =>
 bif !x0 then
 some false
 else
 Option.bind (z1w a) fun x1 =>
 Option.bind (z2o x1 b) fun x2 =>
 bif !x2 then
 some false
 else
 chk (0 ≤ b) <|
 nth a.Members b fun y3 =>
 Option.bind (z1y y3.Trust (orI .i64 (qgj .i64 1023 c) (shlI .i64 1 b))) fun x4 =>
 some (!x4)
 ) :=
 cL o0' Try.func58
theorem qzm a b : eL (z2z a b) (
 Option.bind (z38 a b) fun x0 =>
 some x0.1
 ) :=
 cL o1' Try.func47
theorem y1e a b : eL (z2o a b) (
 Option.bind (z1q a) fun x0 =>
 bif x0 then
 bif leB 0 b then
 bif ltB b 10 then
 chk (0 ≤ b) <|
 some (neB (andI .i64 a (shlI .i64 1 b)) 0)
 else
 some false
 else
 some false
 else
 some false
 ) :=
 cL o0' Try.func46
theorem y0j a b : eL (z1o a b) (
 z18 a b (a.length : Int) 0
 ) :=
 cL o1' Try.func67
theorem qwy a b : eL (z37 a b) (
 bif leB 0 a then
 chk (0 ≤ b) <|
 some (ltB a (shlI .i64 1 b))
 else
 some false
 ) :=
 cL o0' Try.func68
theorem y0d a : eL (z1w a) (
 z19 0 a.Members (a.Members.length : Int) 0 a.Members
 ) :=
 cL o1' Try.func69
theorem y2w a b : eL (z1y a b) (
 Option.bind (z1q b) fun x0 =>
 bif !x0 then
 some false
 else
 z1j b 0 a.Nodes (a.Nodes.length : Int) 0 a.Threshold a.Nodes a.Inner
 ) :=
 cL o0' Try.func70
theorem y2s a b : eL (z38 a b) (
 Option.bind (z1q b) fun x0 =>
 bif !x0 then
 some (0, [])
 else
 Option.bind (z1w a) fun x1 =>
 z1u (andI .i64 b x1) [] a.Members
 ) :=
 cL o15' Try.func61
theorem qwu a b c d e f g h i j k l : eL (z1z a b c d e f g h i j k l) (
 bif ltB c b then
 nth a c fun y0 =>
 Option.bind (z2g y0) fun x1 =>
 capOk (List.length l + List.length ([(Trust.mk x1.Threshold x1.Nodes x1.Inner)] : List Trust)) <|
 z1z a b (addI .i64 c 1) d e f g h i j k (l ++ ([(Trust.mk x1.Threshold x1.Nodes x1.Inner)] : List Trust))
 else
 some (Trust.mk j k l)
 ) :=
 gL o11' (q0c Try.f20 [1,1,0,1,0,0])
theorem qpr a b c d : eL (z2f a b c d) (
 bif ltB d c then
 nth b d fun y0 =>
 bif ltB y0 0 then
 some (0, 5)
 else
 bif leB 10 y0 then
 some (0, 5)
 else
 Option.bind (z2o a y0) fun x1 =>
 bif x1 then
 some (0, 6)
 else
 chk (0 ≤ y0) <|
 z2f (orI .i64 a (shlI .i64 1 y0)) b c (addI .i64 d 1)
 else
 some (a, 0)
 ) :=
 gL o5' (q0c Try.f36 [1,1,0,1,0,0])
theorem qx9 a b c d e f g h : eL (z25 a b c d e f g h) (
 bif ltB e d then
 Option.bind (z30 (Trust.mk f g h) a b (addI .i64 e 1)) fun x0 =>
 chk (0 ≤ x0) <|
 z25 a b (orI .i64 c (shlI .i64 1 x0)) d (addI .i64 e 1) f g h
 else
 some (c, 0)
 ) :=
 gL o5' (q0c Try.f38 [1,1,1,0,1,0,0])
theorem y1h a b c d : eL (z30 a b c d) (
 z1e b c d b 0 0 a.Threshold a.Nodes a.Inner
 ) :=
 cL o1' Try.func50
theorem qxq a b c : eL (z26 a b c) (
 bif ltB c 10 then
 Option.bind (z2o a c) fun x0 =>
 bif x0 then
 capOk (List.length b + List.length ([c] : List Int)) <|
 z26 a (b ++ ([c] : List Int)) (addI .i64 c 1)
 else
 z26 a b (addI .i64 c 1)
 else
 some b
 ) :=
 gL o13' (q0c Try.f39 [1,1,0,1,0,0])
theorem qxs a b c d : eL (z2b a b c d) (
 bif ltB d c then
 nth b d fun y0 =>
 capOk (List.length a + List.length y0.Votes) <|
 capOk (List.length (a ++ y0.Votes) + List.length y0.Accepts) <|
 z2b ((a ++ y0.Votes) ++ y0.Accepts) b c (addI .i64 d 1)
 else
 Option.bind (z14 a) fun x1 =>
 Option.bind (z3i x1) fun x2 =>
 some x2.1
 ) :=
 gL o4' (q0c Try.f40 [1,1,0,1,0,0])
theorem y1g a : eL (z14 a) (
 Option.bind (z3z (IntKind.wrap .u64 (a.length : Int))) fun x0 =>
 Option.bind (z01 0 (a.length : Int) x0 a) fun x1 =>
 some x1
 ) :=
 cL o2' Try.func51
theorem qzq a : eL (z3z a) (
 Option.bind (z3y a) fun x0 =>
 some x0
 ) :=
 cL o1' Try.func65
theorem qwv a b c d : eL (z01 a b c d) (
 z00 a b c true true d
 ) :=
 cL o2' Try.func64
theorem y01 a : eL (z3y a) (
 bif leB 4294967296 a then
 bif leB 65536 (shrI .u64 a 32) then
 bif (leB 256 (shrI .u64 (shrI .u64 a 32) 16)) then
 nth ([0, 1, 2, 2, 3, 3, 3, 3, 4, 4, 4, 4, 4, 4, 4, 4, 5, 5, 5, 5, 5, 5, 5, 5, 5, 5, 5, 5, 5, 5, 5, 5, 6, 6, 6, 6, 6, 6, 6, 6, 6, 6, 6, 6, 6, 6, 6, 6, 6, 6, 6, 6, 6, 6, 6, 6, 6, 6, 6, 6, 6, 6, 6, 6, 7, 7, 7, 7, 7, 7, 7, 7, 7, 7, 7, 7, 7, 7, 7, 7, 7, 7, 7, 7, 7, 7, 7, 7, 7, 7, 7, 7, 7, 7, 7, 7, 7, 7, 7, 7, 7, 7, 7, 7, 7, 7, 7, 7, 7, 7, 7, 7, 7, 7, 7, 7, 7, 7, 7, 7, 7, 7, 7, 7, 7, 7, 7, 7, 8, 8, 8, 8, 8, 8, 8, 8, 8, 8, 8, 8, 8, 8, 8, 8, 8, 8, 8, 8, 8, 8, 8, 8, 8, 8, 8, 8, 8, 8, 8, 8, 8, 8, 8, 8, 8, 8, 8, 8, 8, 8, 8, 8, 8, 8, 8, 8, 8, 8, 8, 8, 8, 8, 8, 8, 8, 8, 8, 8, 8, 8, 8, 8, 8, 8, 8, 8, 8, 8, 8, 8, 8, 8, 8, 8, 8, 8, 8, 8, 8, 8, 8, 8, 8, 8, 8, 8, 8, 8, 8, 8, 8, 8, 8, 8, 8, 8, 8, 8, 8, 8, 8, 8, 8, 8, 8, 8, 8, 8, 8, 8, 8, 8, 8, 8, 8, 8, 8, 8, 8, 8, 8, 8, 8, 8, 8, 8] : List UInt8) (IntKind.wrap .u8 (shrI .u64 (shrI .u64 (shrI .u64 a 32) 16) 8)) fun y0 =>
 some (addI .i64 56 (IntKind.wrap .i64 ((y0.toNat : Nat) : Int)))
 else
 nth ([0, 1, 2, 2, 3, 3, 3, 3, 4, 4, 4, 4, 4, 4, 4, 4, 5, 5, 5, 5, 5, 5, 5, 5, 5, 5, 5, 5, 5, 5, 5, 5, 6, 6, 6, 6, 6, 6, 6, 6, 6, 6, 6, 6, 6, 6, 6, 6, 6, 6, 6, 6, 6, 6, 6, 6, 6, 6, 6, 6, 6, 6, 6, 6, 7, 7, 7, 7, 7, 7, 7, 7, 7, 7, 7, 7, 7, 7, 7, 7, 7, 7, 7, 7, 7, 7, 7, 7, 7, 7, 7, 7, 7, 7, 7, 7, 7, 7, 7, 7, 7, 7, 7, 7, 7, 7, 7, 7, 7, 7, 7, 7, 7, 7, 7, 7, 7, 7, 7, 7, 7, 7, 7, 7, 7, 7, 7, 7, 8, 8, 8, 8, 8, 8, 8, 8, 8, 8, 8, 8, 8, 8, 8, 8, 8, 8, 8, 8, 8, 8, 8, 8, 8, 8, 8, 8, 8, 8, 8, 8, 8, 8, 8, 8, 8, 8, 8, 8, 8, 8, 8, 8, 8, 8, 8, 8, 8, 8, 8, 8, 8, 8, 8, 8, 8, 8, 8, 8, 8, 8, 8, 8, 8, 8, 8, 8, 8, 8, 8, 8, 8, 8, 8, 8, 8, 8, 8, 8, 8, 8, 8, 8, 8, 8, 8, 8, 8, 8, 8, 8, 8, 8, 8, 8, 8, 8, 8, 8, 8, 8, 8, 8, 8, 8, 8, 8, 8, 8, 8, 8, 8, 8, 8, 8, 8, 8, 8, 8, 8, 8, 8, 8, 8, 8, 8, 8] : List UInt8) (IntKind.wrap .u8 (shrI .u64 (shrI .u64 a 32) 16)) fun y1 =>
 some (addI .i64 48 (IntKind.wrap .i64 ((y1.toNat : Nat) : Int)))
 else
 bif leB 256 (shrI .u64 a 32) then
 nth ([0, 1, 2, 2, 3, 3, 3, 3, 4, 4, 4, 4, 4, 4, 4, 4, 5, 5, 5, 5, 5, 5, 5, 5, 5, 5, 5, 5, 5, 5, 5, 5, 6, 6, 6, 6, 6, 6, 6, 6, 6, 6, 6, 6, 6, 6, 6, 6, 6, 6, 6, 6, 6, 6, 6, 6, 6, 6, 6, 6, 6, 6, 6, 6, 7, 7, 7, 7, 7, 7, 7, 7, 7, 7, 7, 7, 7, 7, 7, 7, 7, 7, 7, 7, 7, 7, 7, 7, 7, 7, 7, 7, 7, 7, 7, 7, 7, 7, 7, 7, 7, 7, 7, 7, 7, 7, 7, 7, 7, 7, 7, 7, 7, 7, 7, 7, 7, 7, 7, 7, 7, 7, 7, 7, 7, 7, 7, 7, 8, 8, 8, 8, 8, 8, 8, 8, 8, 8, 8, 8, 8, 8, 8, 8, 8, 8, 8, 8, 8, 8, 8, 8, 8, 8, 8, 8, 8, 8, 8, 8, 8, 8, 8, 8, 8, 8, 8, 8, 8, 8, 8, 8, 8, 8, 8, 8, 8, 8, 8, 8, 8, 8, 8, 8, 8, 8, 8, 8, 8, 8, 8, 8, 8, 8, 8, 8, 8, 8, 8, 8, 8, 8, 8, 8, 8, 8, 8, 8, 8, 8, 8, 8, 8, 8, 8, 8, 8, 8, 8, 8, 8, 8, 8, 8, 8, 8, 8, 8, 8, 8, 8, 8, 8, 8, 8, 8, 8, 8, 8, 8, 8, 8, 8, 8, 8, 8, 8, 8, 8, 8, 8, 8, 8, 8, 8, 8] : List UInt8) (IntKind.wrap .u8 (shrI .u64 (shrI .u64 a 32) 8)) fun y2 =>
 some (addI .i64 40 (IntKind.wrap .i64 ((y2.toNat : Nat) : Int)))
 else
 nth ([0, 1, 2, 2, 3, 3, 3, 3, 4, 4, 4, 4, 4, 4, 4, 4, 5, 5, 5, 5, 5, 5, 5, 5, 5, 5, 5, 5, 5, 5, 5, 5, 6, 6, 6, 6, 6, 6, 6, 6, 6, 6, 6, 6, 6, 6, 6, 6, 6, 6, 6, 6, 6, 6, 6, 6, 6, 6, 6, 6, 6, 6, 6, 6, 7, 7, 7, 7, 7, 7, 7, 7, 7, 7, 7, 7, 7, 7, 7, 7, 7, 7, 7, 7, 7, 7, 7, 7, 7, 7, 7, 7, 7, 7, 7, 7, 7, 7, 7, 7, 7, 7, 7, 7, 7, 7, 7, 7, 7, 7, 7, 7, 7, 7, 7, 7, 7, 7, 7, 7, 7, 7, 7, 7, 7, 7, 7, 7, 8, 8, 8, 8, 8, 8, 8, 8, 8, 8, 8, 8, 8, 8, 8, 8, 8, 8, 8, 8, 8, 8, 8, 8, 8, 8, 8, 8, 8, 8, 8, 8, 8, 8, 8, 8, 8, 8, 8, 8, 8, 8, 8, 8, 8, 8, 8, 8, 8, 8, 8, 8, 8, 8, 8, 8, 8, 8, 8, 8, 8, 8, 8, 8, 8, 8, 8, 8, 8, 8, 8, 8, 8, 8, 8, 8, 8, 8, 8, 8, 8, 8, 8, 8, 8, 8, 8, 8, 8, 8, 8, 8, 8, 8, 8, 8, 8, 8, 8, 8, 8, 8, 8, 8, 8, 8, 8, 8, 8, 8, 8, 8, 8, 8, 8, 8, 8, 8, 8, 8, 8, 8, 8, 8, 8, 8, 8, 8] : List UInt8) (IntKind.wrap .u8 (shrI .u64 a 32)) fun y3 =>
 some (addI .i64 32 (IntKind.wrap .i64 ((y3.toNat : Nat) : Int)))
 else
 bif leB 65536 a then
 bif leB 256 (shrI .u64 a 16) then
 nth ([0, 1, 2, 2, 3, 3, 3, 3, 4, 4, 4, 4, 4, 4, 4, 4, 5, 5, 5, 5, 5, 5, 5, 5, 5, 5, 5, 5, 5, 5, 5, 5, 6, 6, 6, 6, 6, 6, 6, 6, 6, 6, 6, 6, 6, 6, 6, 6, 6, 6, 6, 6, 6, 6, 6, 6, 6, 6, 6, 6, 6, 6, 6, 6, 7, 7, 7, 7, 7, 7, 7, 7, 7, 7, 7, 7, 7, 7, 7, 7, 7, 7, 7, 7, 7, 7, 7, 7, 7, 7, 7, 7, 7, 7, 7, 7, 7, 7, 7, 7, 7, 7, 7, 7, 7, 7, 7, 7, 7, 7, 7, 7, 7, 7, 7, 7, 7, 7, 7, 7, 7, 7, 7, 7, 7, 7, 7, 7, 8, 8, 8, 8, 8, 8, 8, 8, 8, 8, 8, 8, 8, 8, 8, 8, 8, 8, 8, 8, 8, 8, 8, 8, 8, 8, 8, 8, 8, 8, 8, 8, 8, 8, 8, 8, 8, 8, 8, 8, 8, 8, 8, 8, 8, 8, 8, 8, 8, 8, 8, 8, 8, 8, 8, 8, 8, 8, 8, 8, 8, 8, 8, 8, 8, 8, 8, 8, 8, 8, 8, 8, 8, 8, 8, 8, 8, 8, 8, 8, 8, 8, 8, 8, 8, 8, 8, 8, 8, 8, 8, 8, 8, 8, 8, 8, 8, 8, 8, 8, 8, 8, 8, 8, 8, 8, 8, 8, 8, 8, 8, 8, 8, 8, 8, 8, 8, 8, 8, 8, 8, 8, 8, 8, 8, 8, 8, 8] : List UInt8) (IntKind.wrap .u8 (shrI .u64 (shrI .u64 a 16) 8)) fun y4 =>
 some (addI .i64 24 (IntKind.wrap .i64 ((y4.toNat : Nat) : Int)))
 else
 nth ([0, 1, 2, 2, 3, 3, 3, 3, 4, 4, 4, 4, 4, 4, 4, 4, 5, 5, 5, 5, 5, 5, 5, 5, 5, 5, 5, 5, 5, 5, 5, 5, 6, 6, 6, 6, 6, 6, 6, 6, 6, 6, 6, 6, 6, 6, 6, 6, 6, 6, 6, 6, 6, 6, 6, 6, 6, 6, 6, 6, 6, 6, 6, 6, 7, 7, 7, 7, 7, 7, 7, 7, 7, 7, 7, 7, 7, 7, 7, 7, 7, 7, 7, 7, 7, 7, 7, 7, 7, 7, 7, 7, 7, 7, 7, 7, 7, 7, 7, 7, 7, 7, 7, 7, 7, 7, 7, 7, 7, 7, 7, 7, 7, 7, 7, 7, 7, 7, 7, 7, 7, 7, 7, 7, 7, 7, 7, 7, 8, 8, 8, 8, 8, 8, 8, 8, 8, 8, 8, 8, 8, 8, 8, 8, 8, 8, 8, 8, 8, 8, 8, 8, 8, 8, 8, 8, 8, 8, 8, 8, 8, 8, 8, 8, 8, 8, 8, 8, 8, 8, 8, 8, 8, 8, 8, 8, 8, 8, 8, 8, 8, 8, 8, 8, 8, 8, 8, 8, 8, 8, 8, 8, 8, 8, 8, 8, 8, 8, 8, 8, 8, 8, 8, 8, 8, 8, 8, 8, 8, 8, 8, 8, 8, 8, 8, 8, 8, 8, 8, 8, 8, 8, 8, 8, 8, 8, 8, 8, 8, 8, 8, 8, 8, 8, 8, 8, 8, 8, 8, 8, 8, 8, 8, 8, 8, 8, 8, 8, 8, 8, 8, 8, 8, 8, 8, 8] : List UInt8) (IntKind.wrap .u8 (shrI .u64 a 16)) fun y5 =>
 some (addI .i64 16 (IntKind.wrap .i64 ((y5.toNat : Nat) : Int)))
 else
 bif leB 256 a then
 nth ([0, 1, 2, 2, 3, 3, 3, 3, 4, 4, 4, 4, 4, 4, 4, 4, 5, 5, 5, 5, 5, 5, 5, 5, 5, 5, 5, 5, 5, 5, 5, 5, 6, 6, 6, 6, 6, 6, 6, 6, 6, 6, 6, 6, 6, 6, 6, 6, 6, 6, 6, 6, 6, 6, 6, 6, 6, 6, 6, 6, 6, 6, 6, 6, 7, 7, 7, 7, 7, 7, 7, 7, 7, 7, 7, 7, 7, 7, 7, 7, 7, 7, 7, 7, 7, 7, 7, 7, 7, 7, 7, 7, 7, 7, 7, 7, 7, 7, 7, 7, 7, 7, 7, 7, 7, 7, 7, 7, 7, 7, 7, 7, 7, 7, 7, 7, 7, 7, 7, 7, 7, 7, 7, 7, 7, 7, 7, 7, 8, 8, 8, 8, 8, 8, 8, 8, 8, 8, 8, 8, 8, 8, 8, 8, 8, 8, 8, 8, 8, 8, 8, 8, 8, 8, 8, 8, 8, 8, 8, 8, 8, 8, 8, 8, 8, 8, 8, 8, 8, 8, 8, 8, 8, 8, 8, 8, 8, 8, 8, 8, 8, 8, 8, 8, 8, 8, 8, 8, 8, 8, 8, 8, 8, 8, 8, 8, 8, 8, 8, 8, 8, 8, 8, 8, 8, 8, 8, 8, 8, 8, 8, 8, 8, 8, 8, 8, 8, 8, 8, 8, 8, 8, 8, 8, 8, 8, 8, 8, 8, 8, 8, 8, 8, 8, 8, 8, 8, 8, 8, 8, 8, 8, 8, 8, 8, 8, 8, 8, 8, 8, 8, 8, 8, 8, 8, 8] : List UInt8) (IntKind.wrap .u8 (shrI .u64 a 8)) fun y6 =>
 some (addI .i64 8 (IntKind.wrap .i64 ((y6.toNat : Nat) : Int)))
 else
 nth ([0, 1, 2, 2, 3, 3, 3, 3, 4, 4, 4, 4, 4, 4, 4, 4, 5, 5, 5, 5, 5, 5, 5, 5, 5, 5, 5, 5, 5, 5, 5, 5, 6, 6, 6, 6, 6, 6, 6, 6, 6, 6, 6, 6, 6, 6, 6, 6, 6, 6, 6, 6, 6, 6, 6, 6, 6, 6, 6, 6, 6, 6, 6, 6, 7, 7, 7, 7, 7, 7, 7, 7, 7, 7, 7, 7, 7, 7, 7, 7, 7, 7, 7, 7, 7, 7, 7, 7, 7, 7, 7, 7, 7, 7, 7, 7, 7, 7, 7, 7, 7, 7, 7, 7, 7, 7, 7, 7, 7, 7, 7, 7, 7, 7, 7, 7, 7, 7, 7, 7, 7, 7, 7, 7, 7, 7, 7, 7, 8, 8, 8, 8, 8, 8, 8, 8, 8, 8, 8, 8, 8, 8, 8, 8, 8, 8, 8, 8, 8, 8, 8, 8, 8, 8, 8, 8, 8, 8, 8, 8, 8, 8, 8, 8, 8, 8, 8, 8, 8, 8, 8, 8, 8, 8, 8, 8, 8, 8, 8, 8, 8, 8, 8, 8, 8, 8, 8, 8, 8, 8, 8, 8, 8, 8, 8, 8, 8, 8, 8, 8, 8, 8, 8, 8, 8, 8, 8, 8, 8, 8, 8, 8, 8, 8, 8, 8, 8, 8, 8, 8, 8, 8, 8, 8, 8, 8, 8, 8, 8, 8, 8, 8, 8, 8, 8, 8, 8, 8, 8, 8, 8, 8, 8, 8, 8, 8, 8, 8, 8, 8, 8, 8, 8, 8, 8, 8] : List UInt8) (IntKind.wrap .u8 a) fun y7 =>
 some (addI .i64 0 (IntKind.wrap .i64 ((y7.toNat : Nat) : Int)))
 ) :=
 cL o1' Try.func83
theorem qrl a b c : eL (z0m a b c) (
 bif ltB c b then
 nth a c fun y0 =>
 Option.bind (z39 y0) fun x1 =>
 bif x1 then
 some c
 else
 z0m a b (addI .i64 c 1)
 else
 some (-1)
 ) :=
 gL o1' (q0c Try.f48 [1,0,1,0,0])
theorem y2j a : eL (z39 a) (
 Option.bind (z3r a) fun x0 =>
 some (!x0)
 ) :=
 cL o0' Try.func34
theorem qzz a : eL (z3r a) (
 bif leB 0 a then
 some (ltB a 10)
 else
 some false
 ) :=
 cL o0' Try.func35
theorem qti a b c d : eL (z31 a b c d) (
 bif ltB d c then
 nth b d fun y0 =>
 bif neB y0 a then
 some y0
 else
 z31 a b c (addI .i64 d 1)
 else
 some a
 ) :=
 gL o1' (q0c Try.f14 [1,1,0,1,0,0])
theorem qxf a b c d e f g h i : eL (z2u a b c d e f g h i) (
 bif ltB i h then
 nth g i fun y0 =>
 bif c then
 z2u a b true d e f g h (addI .i64 i 1)
 else
 z2u a b (eqS b y0) d e f g h (addI .i64 i 1)
 else
 bif !c then
 some false
 else
 z2t a d e (addI .i64 f 1)
 ) :=
 gL o0' (q0c Try.f6 [1,0,1,0,0,1,1,0,0,1,1,0,1,0,0])
theorem qx5 a b c d e f g h i j k l m n o p q r s t u v w x y z A B C : eL (z1m a b c d e f g h i j k l m n o p q r s t u v w x y z A B C) (
 bif ltB d c then
 nth b d fun y0 =>
 Option.bind (z2r a y0) fun x1 =>
 Option.bind (z2m (Config.mk C) e x1.2) fun x2 =>
 bif x2 then
 Option.bind (z2k o y0) fun x3 =>
 z1m a b c (addI .i64 d 1) e f g h i j k l m n x3 p q r s t u v w x y z A B C
 else
 z1m a b c (addI .i64 d 1) e f g h i j k l m n o p q r s t u v w x y z A B C
 else
 some (Nominator.mk e f g h (Trust.mk i j k) l m n o p)
 ) :=
 gL o7' (q0c Try.f13 [1,1,1,1,1,0,1,0,0])
theorem qzg a b c : eL (z2m a b c) (
 Option.bind (z2z a c) fun x0 =>
 Option.bind (z2o x0 b) fun x1 =>
 some x1
 ) :=
 cL o0' Try.func30
theorem y24 a b c d e : eL (z0c a b c d e) (
 bif ltB d e then
 nth a (IntKind.wrap .i64 (shrI .u64 (IntKind.wrap .u64 (addI .i64 d e)) 1)) fun y0 =>
 Option.bind (z06 y0 b) fun x1 =>
 bif ltB x1 0 then
 z0c a b c (addI .i64 (IntKind.wrap .i64 (shrI .u64 (IntKind.wrap .u64 (addI .i64 d e)) 1)) 1) e
 else
 z0c a b c d (IntKind.wrap .i64 (shrI .u64 (IntKind.wrap .u64 (addI .i64 d e)) 1))
 else
 bif ltB d c then
 nth a d fun y2 =>
 Option.bind (z06 y2 b) fun x3 =>
 some (d, (eqB x3 0))
 else
 some (d, false)
 ) :=
 gL o12' (q0c Try.f44 [1,1,1,0,0,0])
theorem qx8 a b c d e f g h i j k l m n o p q r s t : eL (z1l a b c d e f g h i j k l m n o p q r s t) (
 bif ltB h g then
 nth f h fun y0 =>
 bif neB y0.Node b then
 z1l a b c d e f g (addI .i64 h 1) i j k l m n o p q r s t
 else
 Option.bind (z2y ([(Nomination.mk y0.Node y0.Seq (Trust.mk y0.Trust.Threshold y0.Trust.Nodes y0.Trust.Inner) y0.Votes y0.Accepts)] : List Nomination)) fun x1 =>
 z20 a b c d e f g h x1 (x1.length : Int) 0 i j k l m n o p q r s t y0.Node y0.Seq y0.Trust.Threshold y0.Trust.Nodes y0.Trust.Inner y0.Votes y0.Accepts
 else
 z1h a c d (addI .i64 e 1) i j k l m n o p q r s t
 ) :=
 gL o4' (q0c Try.f23 [1,1,1,0,1,0,0,1,1,0,0,1,1,1,0,0])
end Go.Proofs.Ytglokalgdbegeaa
