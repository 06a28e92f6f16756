/- What the functions come to, printed by a program and checked by the kernel. -/
import Derived.Test.YtglokalgdbegeaaGreatP22Df
namespace Go.Proofs.YtglokalgdbegeaaGreat
open Go Go.Ab
set_option maxRecDepth 100000
theorem y65 a b c : eL (z56 a b c) (
 z26 a c (c.length : Int) 0 b.Threshold b.Nodes b.Inner [] (List.replicate (Int.toNat 10) (Member.mk false (Trust.mk 0 [] [])))
 ) :=
 cL o12' Tryz.func142
theorem y1g a b c d e f g h i j k l m n o p q : eL (z24 a b c d e f g h i j k l m n o p q) (
 bif ltB d c then
 nth b d fun y0 =>
 Option.bind (z3s a y0) fun x1 =>
 Option.bind (z31 n y0) fun x2 =>
 bif !x2 then
 bif (ltB (n.length : Int) 40) then
 Option.bind (z3t (Config.mk q) e x1.1 x1.2) fun x3 =>
 bif x3 then
 some (y0, true)
 else
 z24 a b c (addI .i64 d 1) e f g h i j k l m n o p q
 else
 z24 a b c (addI .i64 d 1) e f g h i j k l m n o p q
 else
 z24 a b c (addI .i64 d 1) e f g h i j k l m n o p q
 else
 some ([], false)
 ) :=
 gL o13' (q0b Tryz.f104 [1,1,0,1,0,0])
theorem y9n a b : eL (z3s a b) (
 z1p b 0 0 a (a.length : Int) 0
 ) :=
 cL o3' Tryz.func106
theorem y5a a b : eL (z31 a b) (
 Option.bind (z1z a b) fun x0 =>
 some x0
 ) :=
 cL o0' Tryz.func82
theorem y4z a b c d : eL (z3t a b c d) (
 Option.bind (z27 c) fun x0 =>
 bif !x0 then
 some false
 else
 Option.bind (z27 d) fun x1 =>
 bif !x1 then
 some false
 else
 Option.bind (z4i a b d) fun x2 =>
 bif x2 then
 some true
 else
 Option.bind (z44 a (orI .i64 c d)) fun x3 =>
 Option.bind (z3m x3 b) fun x4 =>
 some x4
 ) :=
 cL o0' Tryz.func143
theorem y8z a b : eL (z1z a b) (
 Option.bind (z25 a b) fun x0 =>
 some (leB 0 x0)
 ) :=
 cL o0' Tryz.func122
theorem y1r a : eL (z27 a) (
 Option.bind (z4k a 10) fun x0 =>
 some x0
 ) :=
 cL o0' Tryz.func171
theorem y7b a b c : eL (z4i a b c) (
 Option.bind (z27 c) fun x0 =>
 bif !x0 then
 some false
 else
 Option.bind (z2h a) fun x1 =>
 Option.bind (z3m x1 b) fun x2 =>
 bif !x2 then
 some false
 else
 chk (0 <= b) <|
 nth a.Members b fun y3 =>
 Option.bind (z2k y3.Trust (orI .i64 (qhi .i64 1023 c) (shlI .i64 1 b))) fun x4 =>
 some (!x4)
 ) :=
 cL o0' Tryz.func172
theorem y8e a b : eL (z44 a b) (
 Option.bind (z4m a b) fun x0 =>
 some x0.1
 ) :=
 cL o1' Tryz.func147
theorem y7a a b : eL (z3m a b) (
 Option.bind (z27 a) fun x0 =>
 bif x0 then
 bif leB 0 b then
 bif ltB b 10 then
 chk (0 <= b) <|
 some (neB (andI .i64 a (shlI .i64 1 b)) 0)
 else
 some false
 else
 some false
 else
 some false
 ) :=
 cL o0' Tryz.func146
theorem y8k a b : eL (z25 a b) (
 z1f a b (a.length : Int) 0
 ) :=
 cL o1' Tryz.func158
theorem y1u a b : eL (z4k a b) (
 bif leB 0 a then
 chk (0 <= b) <|
 some (ltB a (shlI .i64 1 b))
 else
 some false
 ) :=
 cL o0' Tryz.func191
theorem y7o a : eL (z2h a) (
 z1i 0 a.Members (a.Members.length : Int) 0 a.Members
 ) :=
 cL o1' Tryz.func192
theorem y7v a b : eL (z2k a b) (
 Option.bind (z27 b) fun x0 =>
 bif !x0 then
 some false
 else
 z1w b 0 a.Nodes (a.Nodes.length : Int) 0 a.Threshold a.Nodes a.Inner
 ) :=
 cL o0' Tryz.func193
theorem y54 a b : eL (z4m a b) (
 Option.bind (z27 b) fun x0 =>
 bif !x0 then
 some (0, [])
 else
 Option.bind (z2h a) fun x1 =>
 z2e (andI .i64 b x1) [] a.Members
 ) :=
 cL o22' Tryz.func175
theorem y2l a b c d e f g h i j k l : eL (z2l a b c d e f g h i j k l) (
 bif ltB c b then
 nth a c fun y0 =>
 Option.bind (z3c y0) fun x1 =>
 capOk (List.length l + List.length ([(Trust.mk x1.Threshold x1.Nodes x1.Inner)] : List Trust)) <|
 z2l a b (addI .i64 c 1) d e f g h i j k (l ++ ([(Trust.mk x1.Threshold x1.Nodes x1.Inner)] : List Trust))
 else
 some (Trust.mk j k l)
 ) :=
 gL o14' (q0b Tryz.f100 [1,1,0,1,0,0])
theorem qtb a b c d : eL (z3a a b c d) (
 bif ltB d c then
 nth b d fun y0 =>
 bif ltB y0 0 then
 some (0, 5)
 else
 bif leB 10 y0 then
 some (0, 5)
 else
 Option.bind (z3m a y0) fun x1 =>
 bif x1 then
 some (0, 6)
 else
 chk (0 <= y0) <|
 z3a (orI .i64 a (shlI .i64 1 y0)) b c (addI .i64 d 1)
 else
 some (a, 0)
 ) :=
 gL o3' (q0b Tryz.f137 [1,1,0,1,0,0])
theorem y1t a b c d e f g h : eL (z2v a b c d e f g h) (
 bif ltB e d then
 Option.bind (z45 (Trust.mk f g h) a b (addI .i64 e 1)) fun x0 =>
 chk (0 <= x0) <|
 z2v a b (orI .i64 c (shlI .i64 1 x0)) d (addI .i64 e 1) f g h
 else
 some (c, 0)
 ) :=
 gL o3' (q0b Tryz.f139 [1,1,1,0,1,0,0])
theorem y7m a b c d : eL (z45 a b c d) (
 z1o b c d b 0 0 a.Threshold a.Nodes a.Inner
 ) :=
 cL o1' Tryz.func165
theorem y2r a b c : eL (z2w a b c) (
 bif ltB c 10 then
 Option.bind (z3m a c) fun x0 =>
 bif x0 then
 capOk (List.length b + List.length ([c] : List Int)) <|
 z2w a (b ++ ([c] : List Int)) (addI .i64 c 1)
 else
 z2w a b (addI .i64 c 1)
 else
 some b
 ) :=
 gL o17' (q0b Tryz.f140 [1,1,0,1,0,0])
theorem y23 a b c d : eL (z36 a b c d) (
 bif ltB d c then
 nth b d fun y0 =>
 capOk (List.length a + List.length y0.Votes) <|
 capOk (List.length (a ++ y0.Votes) + List.length y0.Accepts) <|
 z36 ((a ++ y0.Votes) ++ y0.Accepts) b c (addI .i64 d 1)
 else
 Option.bind (z1a a) fun x1 =>
 Option.bind (z4x x1) fun x2 =>
 some x2.1
 ) :=
 gL o5' (q0b Tryz.f141 [1,1,0,1,0,0])
theorem y6p a : eL (z1a a) (
 Option.bind (z5w (IntKind.wrap .u64 (a.length : Int))) fun x0 =>
 Option.bind (z01 0 (a.length : Int) x0 a) fun x1 =>
 some x1
 ) :=
 cL o2' Tryz.func166
theorem y5n a : eL (z5w a) (
 Option.bind (z5u a) fun x0 =>
 some x0
 ) :=
 cL o1' Tryz.func189
theorem y1n a b c d : eL (z01 a b c d) (
 z00 a b c true true d
 ) :=
 cL o2' Tryz.func188
theorem y5e a : eL (z5u a) (
 bif leB 4294967296 a then
 bif leB 65536 (shrI .u64 a 32) then
 bif (leB 256 (shrI .u64 (shrI .u64 a 32) 16)) then
 nth ([0, 1, 2, 2, 3, 3, 3, 3, 4, 4, 4, 4, 4, 4, 4, 4, 5, 5, 5, 5, 5, 5, 5, 5, 5, 5, 5, 5, 5, 5, 5, 5, 6, 6, 6, 6, 6, 6, 6, 6, 6, 6, 6, 6, 6, 6, 6, 6, 6, 6, 6, 6, 6, 6, 6, 6, 6, 6, 6, 6, 6, 6, 6, 6, 7, 7, 7, 7, 7, 7, 7, 7, 7, 7, 7, 7, 7, 7, 7, 7, 7, 7, 7, 7, 7, 7, 7, 7, 7, 7, 7, 7, 7, 7, 7, 7, 7, 7, 7, 7, 7, 7, 7, 7, 7, 7, 7, 7, 7, 7, 7, 7, 7, 7, 7, 7, 7, 7, 7, 7, 7, 7, 7, 7, 7, 7, 7, 7, 8, 8, 8, 8, 8, 8, 8, 8, 8, 8, 8, 8, 8, 8, 8, 8, 8, 8, 8, 8, 8, 8, 8, 8, 8, 8, 8, 8, 8, 8, 8, 8, 8, 8, 8, 8, 8, 8, 8, 8, 8, 8, 8, 8, 8, 8, 8, 8, 8, 8, 8, 8, 8, 8, 8, 8, 8, 8, 8, 8, 8, 8, 8, 8, 8, 8, 8, 8, 8, 8, 8, 8, 8, 8, 8, 8, 8, 8, 8, 8, 8, 8, 8, 8, 8, 8, 8, 8, 8, 8, 8, 8, 8, 8, 8, 8, 8, 8, 8, 8, 8, 8, 8, 8, 8, 8, 8, 8, 8, 8, 8, 8, 8, 8, 8, 8, 8, 8, 8, 8, 8, 8, 8, 8, 8, 8, 8, 8] : List UInt8) (IntKind.wrap .u8 (shrI .u64 (shrI .u64 (shrI .u64 a 32) 16) 8)) fun y0 =>
 some (addI .i64 56 (IntKind.wrap .i64 ((y0.toNat : Nat) : Int)))
 else
 nth ([0, 1, 2, 2, 3, 3, 3, 3, 4, 4, 4, 4, 4, 4, 4, 4, 5, 5, 5, 5, 5, 5, 5, 5, 5, 5, 5, 5, 5, 5, 5, 5, 6, 6, 6, 6, 6, 6, 6, 6, 6, 6, 6, 6, 6, 6, 6, 6, 6, 6, 6, 6, 6, 6, 6, 6, 6, 6, 6, 6, 6, 6, 6, 6, 7, 7, 7, 7, 7, 7, 7, 7, 7, 7, 7, 7, 7, 7, 7, 7, 7, 7, 7, 7, 7, 7, 7, 7, 7, 7, 7, 7, 7, 7, 7, 7, 7, 7, 7, 7, 7, 7, 7, 7, 7, 7, 7, 7, 7, 7, 7, 7, 7, 7, 7, 7, 7, 7, 7, 7, 7, 7, 7, 7, 7, 7, 7, 7, 8, 8, 8, 8, 8, 8, 8, 8, 8, 8, 8, 8, 8, 8, 8, 8, 8, 8, 8, 8, 8, 8, 8, 8, 8, 8, 8, 8, 8, 8, 8, 8, 8, 8, 8, 8, 8, 8, 8, 8, 8, 8, 8, 8, 8, 8, 8, 8, 8, 8, 8, 8, 8, 8, 8, 8, 8, 8, 8, 8, 8, 8, 8, 8, 8, 8, 8, 8, 8, 8, 8, 8, 8, 8, 8, 8, 8, 8, 8, 8, 8, 8, 8, 8, 8, 8, 8, 8, 8, 8, 8, 8, 8, 8, 8, 8, 8, 8, 8, 8, 8, 8, 8, 8, 8, 8, 8, 8, 8, 8, 8, 8, 8, 8, 8, 8, 8, 8, 8, 8, 8, 8, 8, 8, 8, 8, 8, 8] : List UInt8) (IntKind.wrap .u8 (shrI .u64 (shrI .u64 a 32) 16)) fun y1 =>
 some (addI .i64 48 (IntKind.wrap .i64 ((y1.toNat : Nat) : Int)))
 else
 bif leB 256 (shrI .u64 a 32) then
 nth ([0, 1, 2, 2, 3, 3, 3, 3, 4, 4, 4, 4, 4, 4, 4, 4, 5, 5, 5, 5, 5, 5, 5, 5, 5, 5, 5, 5, 5, 5, 5, 5, 6, 6, 6, 6, 6, 6, 6, 6, 6, 6, 6, 6, 6, 6, 6, 6, 6, 6, 6, 6, 6, 6, 6, 6, 6, 6, 6, 6, 6, 6, 6, 6, 7, 7, 7, 7, 7, 7, 7, 7, 7, 7, 7, 7, 7, 7, 7, 7, 7, 7, 7, 7, 7, 7, 7, 7, 7, 7, 7, 7, 7, 7, 7, 7, 7, 7, 7, 7, 7, 7, 7, 7, 7, 7, 7, 7, 7, 7, 7, 7, 7, 7, 7, 7, 7, 7, 7, 7, 7, 7, 7, 7, 7, 7, 7, 7, 8, 8, 8, 8, 8, 8, 8, 8, 8, 8, 8, 8, 8, 8, 8, 8, 8, 8, 8, 8, 8, 8, 8, 8, 8, 8, 8, 8, 8, 8, 8, 8, 8, 8, 8, 8, 8, 8, 8, 8, 8, 8, 8, 8, 8, 8, 8, 8, 8, 8, 8, 8, 8, 8, 8, 8, 8, 8, 8, 8, 8, 8, 8, 8, 8, 8, 8, 8, 8, 8, 8, 8, 8, 8, 8, 8, 8, 8, 8, 8, 8, 8, 8, 8, 8, 8, 8, 8, 8, 8, 8, 8, 8, 8, 8, 8, 8, 8, 8, 8, 8, 8, 8, 8, 8, 8, 8, 8, 8, 8, 8, 8, 8, 8, 8, 8, 8, 8, 8, 8, 8, 8, 8, 8, 8, 8, 8, 8] : List UInt8) (IntKind.wrap .u8 (shrI .u64 (shrI .u64 a 32) 8)) fun y2 =>
 some (addI .i64 40 (IntKind.wrap .i64 ((y2.toNat : Nat) : Int)))
 else
 nth ([0, 1, 2, 2, 3, 3, 3, 3, 4, 4, 4, 4, 4, 4, 4, 4, 5, 5, 5, 5, 5, 5, 5, 5, 5, 5, 5, 5, 5, 5, 5, 5, 6, 6, 6, 6, 6, 6, 6, 6, 6, 6, 6, 6, 6, 6, 6, 6, 6, 6, 6, 6, 6, 6, 6, 6, 6, 6, 6, 6, 6, 6, 6, 6, 7, 7, 7, 7, 7, 7, 7, 7, 7, 7, 7, 7, 7, 7, 7, 7, 7, 7, 7, 7, 7, 7, 7, 7, 7, 7, 7, 7, 7, 7, 7, 7, 7, 7, 7, 7, 7, 7, 7, 7, 7, 7, 7, 7, 7, 7, 7, 7, 7, 7, 7, 7, 7, 7, 7, 7, 7, 7, 7, 7, 7, 7, 7, 7, 8, 8, 8, 8, 8, 8, 8, 8, 8, 8, 8, 8, 8, 8, 8, 8, 8, 8, 8, 8, 8, 8, 8, 8, 8, 8, 8, 8, 8, 8, 8, 8, 8, 8, 8, 8, 8, 8, 8, 8, 8, 8, 8, 8, 8, 8, 8, 8, 8, 8, 8, 8, 8, 8, 8, 8, 8, 8, 8, 8, 8, 8, 8, 8, 8, 8, 8, 8, 8, 8, 8, 8, 8, 8, 8, 8, 8, 8, 8, 8, 8, 8, 8, 8, 8, 8, 8, 8, 8, 8, 8, 8, 8, 8, 8, 8, 8, 8, 8, 8, 8, 8, 8, 8, 8, 8, 8, 8, 8, 8, 8, 8, 8, 8, 8, 8, 8, 8, 8, 8, 8, 8, 8, 8, 8, 8, 8, 8] : List UInt8) (IntKind.wrap .u8 (shrI .u64 a 32)) fun y3 =>
 some (addI .i64 32 (IntKind.wrap .i64 ((y3.toNat : Nat) : Int)))
 else
 bif leB 65536 a then
 bif leB 256 (shrI .u64 a 16) then
 nth ([0, 1, 2, 2, 3, 3, 3, 3, 4, 4, 4, 4, 4, 4, 4, 4, 5, 5, 5, 5, 5, 5, 5, 5, 5, 5, 5, 5, 5, 5, 5, 5, 6, 6, 6, 6, 6, 6, 6, 6, 6, 6, 6, 6, 6, 6, 6, 6, 6, 6, 6, 6, 6, 6, 6, 6, 6, 6, 6, 6, 6, 6, 6, 6, 7, 7, 7, 7, 7, 7, 7, 7, 7, 7, 7, 7, 7, 7, 7, 7, 7, 7, 7, 7, 7, 7, 7, 7, 7, 7, 7, 7, 7, 7, 7, 7, 7, 7, 7, 7, 7, 7, 7, 7, 7, 7, 7, 7, 7, 7, 7, 7, 7, 7, 7, 7, 7, 7, 7, 7, 7, 7, 7, 7, 7, 7, 7, 7, 8, 8, 8, 8, 8, 8, 8, 8, 8, 8, 8, 8, 8, 8, 8, 8, 8, 8, 8, 8, 8, 8, 8, 8, 8, 8, 8, 8, 8, 8, 8, 8, 8, 8, 8, 8, 8, 8, 8, 8, 8, 8, 8, 8, 8, 8, 8, 8, 8, 8, 8, 8, 8, 8, 8, 8, 8, 8, 8, 8, 8, 8, 8, 8, 8, 8, 8, 8, 8, 8, 8, 8, 8, 8, 8, 8, 8, 8, 8, 8, 8, 8, 8, 8, 8, 8, 8, 8, 8, 8, 8, 8, 8, 8, 8, 8, 8, 8, 8, 8, 8, 8, 8, 8, 8, 8, 8, 8, 8, 8, 8, 8, 8, 8, 8, 8, 8, 8, 8, 8, 8, 8, 8, 8, 8, 8, 8, 8] : List UInt8) (IntKind.wrap .u8 (shrI .u64 (shrI .u64 a 16) 8)) fun y4 =>
 some (addI .i64 24 (IntKind.wrap .i64 ((y4.toNat : Nat) : Int)))
 else
 nth ([0, 1, 2, 2, 3, 3, 3, 3, 4, 4, 4, 4, 4, 4, 4, 4, 5, 5, 5, 5, 5, 5, 5, 5, 5, 5, 5, 5, 5, 5, 5, 5, 6, 6, 6, 6, 6, 6, 6, 6, 6, 6, 6, 6, 6, 6, 6, 6, 6, 6, 6, 6, 6, 6, 6, 6, 6, 6, 6, 6, 6, 6, 6, 6, 7, 7, 7, 7, 7, 7, 7, 7, 7, 7, 7, 7, 7, 7, 7, 7, 7, 7, 7, 7, 7, 7, 7, 7, 7, 7, 7, 7, 7, 7, 7, 7, 7, 7, 7, 7, 7, 7, 7, 7, 7, 7, 7, 7, 7, 7, 7, 7, 7, 7, 7, 7, 7, 7, 7, 7, 7, 7, 7, 7, 7, 7, 7, 7, 8, 8, 8, 8, 8, 8, 8, 8, 8, 8, 8, 8, 8, 8, 8, 8, 8, 8, 8, 8, 8, 8, 8, 8, 8, 8, 8, 8, 8, 8, 8, 8, 8, 8, 8, 8, 8, 8, 8, 8, 8, 8, 8, 8, 8, 8, 8, 8, 8, 8, 8, 8, 8, 8, 8, 8, 8, 8, 8, 8, 8, 8, 8, 8, 8, 8, 8, 8, 8, 8, 8, 8, 8, 8, 8, 8, 8, 8, 8, 8, 8, 8, 8, 8, 8, 8, 8, 8, 8, 8, 8, 8, 8, 8, 8, 8, 8, 8, 8, 8, 8, 8, 8, 8, 8, 8, 8, 8, 8, 8, 8, 8, 8, 8, 8, 8, 8, 8, 8, 8, 8, 8, 8, 8, 8, 8, 8, 8] : List UInt8) (IntKind.wrap .u8 (shrI .u64 a 16)) fun y5 =>
 some (addI .i64 16 (IntKind.wrap .i64 ((y5.toNat : Nat) : Int)))
 else
 bif leB 256 a then
 nth ([0, 1, 2, 2, 3, 3, 3, 3, 4, 4, 4, 4, 4, 4, 4, 4, 5, 5, 5, 5, 5, 5, 5, 5, 5, 5, 5, 5, 5, 5, 5, 5, 6, 6, 6, 6, 6, 6, 6, 6, 6, 6, 6, 6, 6, 6, 6, 6, 6, 6, 6, 6, 6, 6, 6, 6, 6, 6, 6, 6, 6, 6, 6, 6, 7, 7, 7, 7, 7, 7, 7, 7, 7, 7, 7, 7, 7, 7, 7, 7, 7, 7, 7, 7, 7, 7, 7, 7, 7, 7, 7, 7, 7, 7, 7, 7, 7, 7, 7, 7, 7, 7, 7, 7, 7, 7, 7, 7, 7, 7, 7, 7, 7, 7, 7, 7, 7, 7, 7, 7, 7, 7, 7, 7, 7, 7, 7, 7, 8, 8, 8, 8, 8, 8, 8, 8, 8, 8, 8, 8, 8, 8, 8, 8, 8, 8, 8, 8, 8, 8, 8, 8, 8, 8, 8, 8, 8, 8, 8, 8, 8, 8, 8, 8, 8, 8, 8, 8, 8, 8, 8, 8, 8, 8, 8, 8, 8, 8, 8, 8, 8, 8, 8, 8, 8, 8, 8, 8, 8, 8, 8, 8, 8, 8, 8, 8, 8, 8, 8, 8, 8, 8, 8, 8, 8, 8, 8, 8, 8, 8, 8, 8, 8, 8, 8, 8, 8, 8, 8, 8, 8, 8, 8, 8, 8, 8, 8, 8, 8, 8, 8, 8, 8, 8, 8, 8, 8, 8, 8, 8, 8, 8, 8, 8, 8, 8, 8, 8, 8, 8, 8, 8, 8, 8, 8, 8] : List UInt8) (IntKind.wrap .u8 (shrI .u64 a 8)) fun y6 =>
 some (addI .i64 8 (IntKind.wrap .i64 ((y6.toNat : Nat) : Int)))
 else
 nth ([0, 1, 2, 2, 3, 3, 3, 3, 4, 4, 4, 4, 4, 4, 4, 4, 5, 5, 5, 5, 5, 5, 5, 5, 5, 5, 5, 5, 5, 5, 5, 5, 6, 6, 6, 6, 6, 6, 6, 6, 6, 6, 6, 6, 6, 6, 6, 6, 6, 6, 6, 6, 6, 6, 6, 6, 6, 6, 6, 6, 6, 6, 6, 6, 7, 7, 7, 7, 7, 7, 7, 7, 7, 7, 7, 7, 7, 7, 7, 7, 7, 7, 7, 7, 7, 7, 7, 7, 7, 7, 7, 7, 7, 7, 7, 7, 7, 7, 7, 7, 7, 7, 7, 7, 7, 7, 7, 7, 7, 7, 7, 7, 7, 7, 7, 7, 7, 7, 7, 7, 7, 7, 7, 7, 7, 7, 7, 7, 8, 8, 8, 8, 8, 8, 8, 8, 8, 8, 8, 8, 8, 8, 8, 8, 8, 8, 8, 8, 8, 8, 8, 8, 8, 8, 8, 8, 8, 8, 8, 8, 8, 8, 8, 8, 8, 8, 8, 8, 8, 8, 8, 8, 8, 8, 8, 8, 8, 8, 8, 8, 8, 8, 8, 8, 8, 8, 8, 8, 8, 8, 8, 8, 8, 8, 8, 8, 8, 8, 8, 8, 8, 8, 8, 8, 8, 8, 8, 8, 8, 8, 8, 8, 8, 8, 8, 8, 8, 8, 8, 8, 8, 8, 8, 8, 8, 8, 8, 8, 8, 8, 8, 8, 8, 8, 8, 8, 8, 8, 8, 8, 8, 8, 8, 8, 8, 8, 8, 8, 8, 8, 8, 8, 8, 8, 8, 8] : List UInt8) (IntKind.wrap .u8 a) fun y7 =>
 some (addI .i64 0 (IntKind.wrap .i64 ((y7.toNat : Nat) : Int)))
 ) :=
 cL o1' Tryz.func210
theorem qyq a b c : eL (z0p a b c) (
 bif ltB c b then
 nth a c fun y0 =>
 Option.bind (z4n y0) fun x1 =>
 bif x1 then
 some c
 else
 z0p a b (addI .i64 c 1)
 else
 some (-1)
 ) :=
 gL o1' (q0b Tryz.f163 [1,0,1,0,0])
theorem y6q a : eL (z4n a) (
 Option.bind (z57 a) fun x0 =>
 some (!x0)
 ) :=
 cL o0' Tryz.func135
theorem y69 a : eL (z57 a) (
 bif leB 0 a then
 some (ltB a 10)
 else
 some false
 ) :=
 cL o0' Tryz.func136
theorem y25 a b c d e f g h i j k l m n o : eL (z3i a b c d e f g h i j k l m n o) (
 bif ltB c b then
 nth a c fun y0 =>
 Option.bind (z5x m y0) fun x1 =>
 bif !x1 then
 some false
 else
 z3i a b (addI .i64 c 1) d e f g h i j k l m n o
 else
 z29 o (o.length : Int) 0 d e f g h i j k l m n o
 ) :=
 gL o0' (q0b Tryz.f29 [1,1,1,0,1,0,0])
theorem y5i a b : eL (z5x a b) (
 z4w b a (a.length : Int) 0
 ) :=
 cL o0' Tryz.func77
theorem qt1 a b c d e f g h i j k l m n o : eL (z1n a b c d e f g h i j k l m n o) (
 bif ltB c b then
 nth a c fun y0 =>
 Option.bind (z42 y0) fun x1 =>
 bif !x1 then
 some false
 else
 bif eqB y0.Node d then
 some false
 else
 bif ltB 0 c then
 nth o (subI .i64 c 1) fun y2 =>
 bif leB y0.Node y2.Node then
 some false
 else
 z1n a b (addI .i64 c 1) d e f g h i j k l m n o
 else
 z1n a b (addI .i64 c 1) d e f g h i j k l m n o
 else
 some true
 ) :=
 gL o0' (q0b Tryz.f30 [1,1,1,1,0,1,0,0])
theorem y2a a b c d : eL (z3w a b c d) (
 bif ltB d c then
 nth b d fun y0 =>
 z3z a y0 false b c d a (a.length : Int) 0
 else
 some true
 ) :=
 gL o0' (q0b Tryz.f26 [1,0,1,0,0])
theorem y2t a b c d e f g h i j k l m n o p q r s t u v w x y z : eL (z3x a b c d e f g h i j k l m n o p q r s t u v w x y z) (
 bif ltB b a then
 nth n b fun y0 =>
 nth z b fun y1 =>
 Option.bind (z3q y0 y1) fun x2 =>
 bif !x2 then
 some false
 else
 z3x a (addI .i64 b 1) c d e f g h i j k l m n o p q r s t u v w x y z
 else
 some true
 ) :=
 gL o0' (q0b Tryz.f31 [1,1,0,1,0,0])
theorem y7e a b : eL (z3q a b) (
 bif eqB a.Node b.Node then
 bif eqB a.Seq b.Seq then
 Option.bind (z3o a.Trust b.Trust) fun x0 =>
 bif x0 then
 Option.bind (z4p a.Votes b.Votes) fun x1 =>
 bif x1 then
 Option.bind (z4p a.Accepts b.Accepts) fun x2 =>
 some x2
 else
 some false
 else
 some false
 else
 some false
 else
 some false
 ) :=
 cL o0' Tryz.func39
theorem qte a b c d : eL (z2i a b c d) (
 bif ltB d c then
 nth b d fun y0 =>
 Option.bind (z5n y0) fun x1 =>
 bif !x1 then
 some false
 else
 bif ltB 0 d then
 nth a (subI .i64 d 1) fun y2 =>
 Option.bind (z5e y2 y0) fun x3 =>
 bif leB 0 x3 then
 some false
 else
 z2i a b c (addI .i64 d 1)
 else
 z2i a b c (addI .i64 d 1)
 else
 some (leB (a.length : Int) 40)
 ) :=
 gL o0' (q0b Tryz.f76 [1,0,1,0,0])
theorem y5p a : eL (z5n a) (
 bif (leB 1 (a.length : Int)) then
 some (leB (a.length : Int) 200)
 else
 some false
 ) :=
 cL o0' Tryz.func93
theorem y8t a b : eL (z5e a b) (
 bif eqS a b then
 some 0
 else
 bif (ltB (a.length : Int) (b.length : Int)) then
 some (-1)
 else
 bif (eqB (a.length : Int) (b.length : Int)) then
 bif ltS a b then
 some (-1)
 else
 some 1
 else
 some 1
 ) :=
 cL o1' Tryz.func51
theorem qt3 a b c d : eL (z1v a b c d) (
 bif ltB d c then
 nth b d fun y0 =>
 Option.bind (z46 y0) fun x1 =>
 bif !x1 then
 some false
 else
 bif ltB 0 d then
 nth a (subI .i64 d 1) fun y2 =>
 Option.bind (z06 y2 y0) fun x3 =>
 bif leB 0 x3 then
 some false
 else
 z1v a b c (addI .i64 d 1)
 else
 z1v a b c (addI .i64 d 1)
 else
 some (leB (a.length : Int) 40)
 ) :=
 gL o0' (q0b Tryz.f79 [1,0,1,0,0])
theorem y6f a : eL (z46 a) (
 bif (leB 1 (a.length : Int)) then
 some (leB (a.length : Int) 200)
 else
 some false
 ) :=
 cL o0' Tryz.func73
theorem y52 a b : eL (z06 a b) (
 Option.bind (z2x (a.length : Int) (b.length : Int)) fun x0 =>
 Option.bind (z40 a b) fun x1 =>
 Option.bind (z5g ([x0, x1] : List Int)) fun x2 =>
 some x2
 ) :=
 cL o1' Tryz.func50
end Go.Proofs.YtglokalgdbegeaaGreat
