/- What the functions come to, printed by a program and checked by the kernel. -/
import Derived.Test.YtkeiaodiibageaaDoorE08Df
namespace Go.Proofs.YtkeiaodiibageaaDoor
open Go Go.Ab
set_option maxRecDepth 100000
theorem law08_RegistryExposes_le a : eL (law08_RegistryExposes a) (
 Option.bind (z32 a) fun x0 =>
 Option.bind (z0i 1 4 x0.2.1 x0.2.2) fun x1 =>
 Option.bind (z33 x1.1 x1.2.1 x1.2.2) fun x2 =>
 Option.bind (z25 x2.1 10 x2.2.1 x2.2.2) fun x3 =>
 Option.bind (z15 (x2.1.length : Int)) fun x4 =>
 z0f x2.1 x3.1 0 x3.1 (x3.1.length : Int) 0 x3.2.1 x3.2.2 x4.2.2
 ) :=
 cL o1' Tryd.func3
theorem qtf a : eL (z32 a) (
 hiK (List.length a) (if 400 < (a.length : Int) then 400 else (a.length : Int)) fun b0 =>
 some ((), (List.drop 0 (List.take b0 a)), 0)
 ) :=
 cL o14' Tryd.func4
theorem qvc a b c d : eL (z0i a b c d) (
 Option.bind (z0l (addI .i64 (subI .i64 b a) 1) c d) fun x0 =>
 some ((addI .i64 a x0.1), x0.2.1, x0.2.2)
 ) :=
 cL o7' Tryd.func6
theorem quz a b c : eL (z33 a b c) (
 z2d a [] 0 b c
 ) :=
 cL o9' Tryd.func5
theorem qwq a b c d : eL (z25 a b c d) (
 Option.bind (z0l (addI .i64 b 1) c d) fun x0 =>
 z0b a [] x0.1 x0.2.1 x0.2.2
 ) :=
 cL o10' Tryd.func7
theorem qvq a : eL (z15 a) (
 bif ltB a 1 then
 some ((), (), ([] : List (List Declaration)))
 else
 bif ltB 10 a then
 some ((), (), ([] : List (List Declaration)))
 else
 chk (a = a ∧ 0 ≤ a ∧ a ≤ 65536) <|
 some ((), (), (List.replicate (Int.toNat a) []))
 ) :=
 cL o15' Tryd.func8
theorem qoy a b c : eL (z0l a b c) (
 bif (leB (b.length : Int) c) then
 some (0, b, c)
 else
 nth b c fun y0 =>
 chk (a ≠ 0) <|
 bif ltB (remI .i64 y0 a) 0 then
 some ((addI .i64 (remI .i64 y0 a) a), b, (addI .i64 c 1))
 else
 some ((remI .i64 y0 a), b, (addI .i64 c 1))
 ) :=
 cL o7' Tryd.func15
theorem qtl a b c d e f g h i : eL (z0f a b c d e f g h i) (
 bif ltB f e then
 nth d f fun y0 =>
 hiK (List.length b) f fun b1 =>
 z0a a b c d e f (List.drop 0 (List.take b1 b)) ((List.length (List.drop 0 (List.take b1 b)) : Nat) : Int) 0 g h i y0.Node y0.Seq y0.Trust.Threshold y0.Trust.Nodes y0.Trust.Inner y0.Tag
 else
 z0d a c (a.length : Int) 0 g h i
 ) :=
 gL o1' (q0v Tryd.f3 [1,1,1,1,1,1,0,1,0,0])
theorem qt7 a b c d e : eL (z2d a b c d e) (
 bif ltB c a then
 Option.bind (z0l 1000 d e) fun x0 =>
 capOk (List.length b + List.length ([(addI .u64 (mulI .u64 (IntKind.wrap .u64 x0.1) 2654435761) (mulI .u64 (IntKind.wrap .u64 c) 97))] : List Int)) <|
 z2d a (b ++ ([(addI .u64 (mulI .u64 (IntKind.wrap .u64 x0.1) 2654435761) (mulI .u64 (IntKind.wrap .u64 c) 97))] : List Int)) (addI .i64 c 1) x0.2.1 x0.2.2
 else
 some (b, d, e)
 ) :=
 gL o9' (q0v Tryd.f5 [1,1,0,1,0,0])
theorem qls a b c d e : eL (z0b a b c d e) (
 bif ltB 0 c then
 Option.bind (z2a a d e) fun x0 =>
 bif (ltB 0 (b.length : Int)) then
 Option.bind (z0l 4 x0.2.1 x0.2.2) fun x1 =>
 bif eqB x1.1 0 then
 Option.bind (z0l (b.length : Int) x1.2.1 x1.2.2) fun x2 =>
 nth b x2.1 fun _ =>
 nthN b (Int.toNat x2.1) fun y3 =>
 capOk (List.length b + List.length ([(Declaration.mk y3.Node y3.Seq (Trust.mk y3.Trust.Threshold y3.Trust.Nodes y3.Trust.Inner) y3.Tag)] : List Declaration)) <|
 z0b a (b ++ ([(Declaration.mk y3.Node y3.Seq (Trust.mk y3.Trust.Threshold y3.Trust.Nodes y3.Trust.Inner) y3.Tag)] : List Declaration)) (subI .i64 c 1) x2.2.1 x2.2.2
 else
 capOk (List.length b + List.length ([(Declaration.mk x0.1.Node x0.1.Seq (Trust.mk x0.1.Trust.Threshold x0.1.Trust.Nodes x0.1.Trust.Inner) x0.1.Tag)] : List Declaration)) <|
 z0b a (b ++ ([(Declaration.mk x0.1.Node x0.1.Seq (Trust.mk x0.1.Trust.Threshold x0.1.Trust.Nodes x0.1.Trust.Inner) x0.1.Tag)] : List Declaration)) (subI .i64 c 1) x1.2.1 x1.2.2
 else
 capOk (List.length b + List.length ([(Declaration.mk x0.1.Node x0.1.Seq (Trust.mk x0.1.Trust.Threshold x0.1.Trust.Nodes x0.1.Trust.Inner) x0.1.Tag)] : List Declaration)) <|
 z0b a (b ++ ([(Declaration.mk x0.1.Node x0.1.Seq (Trust.mk x0.1.Trust.Threshold x0.1.Trust.Nodes x0.1.Trust.Inner) x0.1.Tag)] : List Declaration)) (subI .i64 c 1) x0.2.1 x0.2.2
 else
 some (b, d, e)
 ) :=
 gL o10' (q0v Tryd.f7 [1,1,0,1,0,0])
theorem qw9 a b c : eL (z2a a b c) (
 Option.bind (z0l (a.length : Int) b c) fun x0 =>
 nth a x0.1 fun y1 =>
 Option.bind (z0i 1 4 x0.2.1 x0.2.2) fun x2 =>
 Option.bind (z28 (a.length : Int) x2.2.1 x2.2.2) fun x3 =>
 Option.bind (z2o y1 x0.1 x2.1 x3.1) fun x4 =>
 some ((Declaration.mk x4.1.Node x4.1.Seq (Trust.mk x4.1.Trust.Threshold x4.1.Trust.Nodes x4.1.Trust.Inner) x4.1.Tag), x3.2.1, x3.2.2)
 ) :=
 cL o16' Tryd.func16
theorem qqj a b c : eL (z28 a b c) (
 Option.bind (z2v a 2 b c) fun x0 =>
 Option.bind (z26 x0.1) fun x1 =>
 bif ltB 40 x1 then
 some ((Trust.mk 1 ([0] : List Int) []), x0.2.1, x0.2.2)
 else
 Option.bind (z1w x0.1) fun x2 =>
 bif ltB 3 x2 then
 some ((Trust.mk 1 ([0] : List Int) []), x0.2.1, x0.2.2)
 else
 some ((Trust.mk x0.1.Threshold x0.1.Nodes x0.1.Inner), x0.2.1, x0.2.2)
 ) :=
 cL o5' Tryd.func27
theorem qwi a b c d : eL (z2o a b c d) (
 Option.bind (z29 (Declaration.mk b c (Trust.mk d.Threshold d.Nodes d.Inner) 0)) fun x0 =>
 bif neB x0 0 then
 some ((Declaration.mk 0 0 (Trust.mk 0 [] []) 0), x0)
 else
 Option.bind (z1x (Declaration.mk b c (Trust.mk d.Threshold d.Nodes d.Inner) 0)) fun x1 =>
 Option.bind (z34 a x1) fun x2 =>
 some ((Declaration.mk b c (Trust.mk d.Threshold d.Nodes d.Inner) x2), 0)
 ) :=
 cL o17' Tryd.func25
theorem qsp a b c d : eL (z2v a b c d) (
 Option.bind (z2l a b c d) fun x0 =>
 Option.bind (z17 x0.1) fun x1 =>
 bif neB x1 0 then
 Option.bind (z0l a x0.2.1 x0.2.2) fun x2 =>
 some ((Trust.mk 1 ([x2.1] : List Int) []), x2.2.1, x2.2.2)
 else
 some ((Trust.mk x0.1.Threshold x0.1.Nodes x0.1.Inner), x0.2.1, x0.2.2)
 ) :=
 cL o5' Tryd.func38
theorem qx4 a : eL (z26 a) (
 z1q (addI .i64 (a.Nodes.length : Int) (a.Inner.length : Int)) a.Inner (a.Inner.length : Int) 0 a.Threshold a.Nodes a.Inner
 ) :=
 cL o0' Tryd.func39
theorem qw0 a : eL (z1w a) (
 z1i 0 a.Inner (a.Inner.length : Int) 0 a.Threshold a.Nodes a.Inner
 ) :=
 cL o0' Tryd.func40
theorem qvb a : eL (z29 a) (
 bif ltB a.Node 0 then
 some 5
 else
 bif leB 10 a.Node then
 some 5
 else
 bif ltB a.Seq 1 then
 some 1
 else
 bif ltB 30 a.Seq then
 some 1
 else
 Option.bind (z17 a.Trust) fun x0 =>
 bif neB x0 0 then
 some x0
 else
 Option.bind (z1w a.Trust) fun x1 =>
 bif ltB 3 x1 then
 some 3
 else
 Option.bind (z26 a.Trust) fun x2 =>
 bif ltB 40 x2 then
 some 3
 else
 some 0
 ) :=
 cL o0' Tryd.func28
theorem qvr a : eL (z1x a) (
 Option.bind (z29 a) fun x0 =>
 bif neB x0 0 then
 some []
 else
 Option.bind (z0k a.Node) fun x1 =>
 chk (List.length ([100, 32] : List UInt8) + List.length x1 ≤ 9223372036854775807) <|
 chk (List.length (([100, 32] : List UInt8) ++ x1) + List.length ([32] : List UInt8) ≤ 9223372036854775807) <|
 Option.bind (z0k a.Seq) fun x2 =>
 chk (List.length ((([100, 32] : List UInt8) ++ x1) ++ ([32] : List UInt8)) + List.length x2 ≤ 9223372036854775807) <|
 chk (List.length (((([100, 32] : List UInt8) ++ x1) ++ ([32] : List UInt8)) ++ x2) + List.length ([32] : List UInt8) ≤ 9223372036854775807) <|
 Option.bind (z2t a.Trust) fun x3 =>
 chk (List.length ((((([100, 32] : List UInt8) ++ x1) ++ ([32] : List UInt8)) ++ x2) ++ ([32] : List UInt8)) + List.length x3 ≤ 9223372036854775807) <|
 some (((((([100, 32] : List UInt8) ++ x1) ++ ([32] : List UInt8)) ++ x2) ++ ([32] : List UInt8)) ++ x3)
 ) :=
 cL o2' Tryd.func17
theorem qt9 a b c d : eL (z2l a b c d) (
 Option.bind (z2e a c d) fun x0 =>
 Option.bind (z0i 1 (if 5 < a then 5 else a) x0.2.1 x0.2.2) fun x1 =>
 hiK (List.length x0.1) x1.1 fun b2 =>
 z1k a b (List.drop 0 (List.take b2 x0.1)) ((List.length (List.drop 0 (List.take b2 x0.1)) : Nat) : Int) 0 x1.2.1 x1.2.2 0 [] [] 0 [] []
 ) :=
 cL o5' Tryd.func54
theorem qod a : eL (z17 a) (
 Option.bind (z1w a) fun x0 =>
 bif ltB 4 x0 then
 some 3
 else
 Option.bind (z26 a) fun x1 =>
 bif ltB 200 x1 then
 some 3
 else
 Option.bind (z1y a) fun x2 =>
 some x2
 ) :=
 cL o0' Tryd.func41
theorem qvw a : eL (z0k a) (
 Option.bind (z2k a) fun x0 =>
 some x0
 ) :=
 cL o2' Tryd.func29
theorem qwk a : eL (z2t a) (
 Option.bind (z17 a) fun x0 =>
 bif neB x0 0 then
 some ([63] : List UInt8)
 else
 Option.bind (z2p a) fun x1 =>
 some x1
 ) :=
 cL o2' Tryd.func30
theorem qvx a b c : eL (z2e a b c) (
 z13 a [] 0 b c
 ) :=
 cL o8' Tryd.func64
theorem qpq a : eL (z1y a) (
 bif ltB a.Threshold 1 then
 some 4
 else
 bif (ltB (addI .i64 (a.Nodes.length : Int) (a.Inner.length : Int)) a.Threshold) then
 some 4
 else
 z0r a.Nodes (a.Nodes.length : Int) 0 a.Threshold a.Nodes a.Inner
 ) :=
 cL o0' Tryd.func55
theorem qvh a : eL (z2k a) (
 Option.bind (z2x a 10) fun x0 =>
 some x0
 ) :=
 cL o2' Tryd.func42
theorem qvz a : eL (z2p a) (
 Option.bind (z0k a.Threshold) fun x0 =>
 chk (List.length x0 + List.length ([32, 111, 102, 32, 40] : List UInt8) ≤ 9223372036854775807) <|
 z1r (x0 ++ ([32, 111, 102, 32, 40] : List UInt8)) [] a.Nodes (a.Nodes.length : Int) 0 a.Threshold a.Nodes a.Inner
 ) :=
 cL o2' Tryd.func43
theorem qt6 a b c d e f g h i j k l m n o p q r : eL (z0a a b c d e f g h i j k l m n o p q r) (
 bif ltB i h then
 nth g i fun y0 =>
 bif eqB m y0.Node then
 bif eqB n y0.Seq then
 Option.bind (z24 (Declaration.mk m n (Trust.mk o p q) r) y0) fun x1 =>
 bif neB x1 0 then
 chk (0 ≤ m) <|
 z0a a b (orI .i64 c (shlI .i64 1 m)) d e f g h (addI .i64 i 1) j k l m n o p q r
 else
 z0a a b c d e f g h (addI .i64 i 1) j k l m n o p q r
 else
 z0a a b c d e f g h (addI .i64 i 1) j k l m n o p q r
 else
 z0a a b c d e f g h (addI .i64 i 1) j k l m n o p q r
 else
 Option.bind (z2b a (Registry.mk l) (Declaration.mk m n (Trust.mk o p q) r)) fun x2 =>
 z0f a b c d e (addI .i64 f 1) j k x2.1.Entries
 ) :=
 gL o1' (q0v Tryd.f3 [1,1,1,1,1,1,0,1,0,0,1,1,0,0,1,0,1,0,0])
theorem qws a b : eL (z24 a b) (
 Option.bind (z1x a) fun x0 =>
 Option.bind (z1x b) fun x1 =>
 bif neB a.Node b.Node then
 Option.bind (z1v (ltB a.Node b.Node)) fun x2 =>
 some x2
 else
 bif neB a.Seq b.Seq then
 Option.bind (z1v (ltB a.Seq b.Seq)) fun x3 =>
 some x3
 else
 bif !eqS x0 x1 then
 Option.bind (z1v (ltS x0 x1)) fun x4 =>
 some x4
 else
 some 0
 ) :=
 cL o0' Tryd.func9
theorem qx2 a b c : eL (z2b a b c) (
 Option.bind (z1d b) fun x0 =>
 bif neB x0 0 then
 some ((Registry.mk ([] : List (List Declaration))), x0)
 else
 Option.bind (z1t a c) fun x1 =>
 bif neB x1 0 then
 some ((Registry.mk ([] : List (List Declaration))), x1)
 else
 bif (leB (b.Entries.length : Int) c.Node) then
 some ((Registry.mk ([] : List (List Declaration))), 5)
 else
 Option.bind (z15 (b.Entries.length : Int)) fun x2 =>
 nth x2.2.2 c.Node fun _ =>
 nthN x2.2.2 (Int.toNat c.Node) fun _y3 =>
 Option.bind (z1z b (Registry.mk (List.set x2.2.2 (Int.toNat c.Node) ([(Declaration.mk c.Node c.Seq (Trust.mk c.Trust.Threshold c.Trust.Nodes c.Trust.Inner) c.Tag)] : List Declaration)))) fun x4 =>
 some ((Registry.mk x4.Entries), 0)
 ) :=
 cL o18' Tryd.func10
theorem qti a : eL (z1v a) (
 bif a then
 some (-1)
 else
 some 1
 ) :=
 cL o0' Tryd.func18
theorem qw3 a : eL (z1d a) (
 bif (ltB 10 (a.Entries.length : Int)) then
 some 3
 else
 z0x a.Entries (a.Entries.length : Int) 0 a.Entries
 ) :=
 cL o0' Tryd.func19
theorem qwf a b : eL (z1t a b) (
 Option.bind (z0v b) fun x0 =>
 bif neB x0 0 then
 some x0
 else
 bif (leB (a.length : Int) b.Node) then
 some 10
 else
 nth a b.Node fun y1 =>
 Option.bind (z0w b) fun x2 =>
 Option.bind (z30 y1 x2) fun x3 =>
 bif neB b.Tag x3 then
 some 8
 else
 some 0
 ) :=
 cL o0' Tryd.func20
theorem qwt a b : eL (z1z a b) (
 chk ((a.Entries.length : Int) = (a.Entries.length : Int) ∧ 0 ≤ (a.Entries.length : Int) ∧ (a.Entries.length : Int) ≤ 65536) <|
 z0m (a.Entries.length : Int) 0 a.Entries b.Entries ([] : List (List Declaration)) (List.replicate (Int.toNat (a.Entries.length : Int)) [])
 ) :=
 cL o11' Tryd.func21
theorem qwl a : eL (z0v a) (
 bif ltB a.Node 0 then
 some 5
 else
 bif leB 10 a.Node then
 some 5
 else
 bif ltB a.Seq 1 then
 some 1
 else
 bif ltB 30 a.Seq then
 some 1
 else
 Option.bind (z1n a.Trust) fun x0 =>
 bif neB x0 0 then
 some x0
 else
 Option.bind (z18 a.Trust) fun x1 =>
 bif ltB 3 x1 then
 some 3
 else
 Option.bind (z1e a.Trust) fun x2 =>
 bif ltB 40 x2 then
 some 3
 else
 some 0
 ) :=
 cL o0' Tryd.func32
theorem qx5 a : eL (z0w a) (
 Option.bind (z0v a) fun x0 =>
 bif neB x0 0 then
 some []
 else
 Option.bind (z0k a.Node) fun x1 =>
 chk (List.length ([100, 32] : List UInt8) + List.length x1 ≤ 9223372036854775807) <|
 chk (List.length (([100, 32] : List UInt8) ++ x1) + List.length ([32] : List UInt8) ≤ 9223372036854775807) <|
 Option.bind (z0k a.Seq) fun x2 =>
 chk (List.length ((([100, 32] : List UInt8) ++ x1) ++ ([32] : List UInt8)) + List.length x2 ≤ 9223372036854775807) <|
 chk (List.length (((([100, 32] : List UInt8) ++ x1) ++ ([32] : List UInt8)) ++ x2) + List.length ([32] : List UInt8) ≤ 9223372036854775807) <|
 Option.bind (z2f a.Trust) fun x3 =>
 chk (List.length ((((([100, 32] : List UInt8) ++ x1) ++ ([32] : List UInt8)) ++ x2) ++ ([32] : List UInt8)) + List.length x3 ≤ 9223372036854775807) <|
 some (((((([100, 32] : List UInt8) ++ x1) ++ ([32] : List UInt8)) ++ x2) ++ ([32] : List UInt8)) ++ x3)
 ) :=
 cL o2' Tryd.func34
theorem qw4 a : eL (z1n a) (
 Option.bind (z18 a) fun x0 =>
 bif ltB 4 x0 then
 some 3
 else
 Option.bind (z1e a) fun x1 =>
 bif ltB 200 x1 then
 some 3
 else
 Option.bind (z1o a) fun x2 =>
 some x2
 ) :=
 cL o0' Tryd.func45
theorem qv3 a : eL (z18 a) (
 z0o 0 a.Inner (a.Inner.length : Int) 0 a.Threshold a.Nodes a.Inner
 ) :=
 cL o0' Tryd.func46
theorem qww a : eL (z1e a) (
 z0y (addI .i64 (a.Nodes.length : Int) (a.Inner.length : Int)) a.Inner (a.Inner.length : Int) 0 a.Threshold a.Nodes a.Inner
 ) :=
 cL o0' Tryd.func47
theorem qvv a : eL (z2f a) (
 Option.bind (z1n a) fun x0 =>
 bif neB x0 0 then
 some ([63] : List UInt8)
 else
 Option.bind (z21 a) fun x1 =>
 some x1
 ) :=
 cL o2' Tryd.func49
theorem qwj a : eL (z1o a) (
 bif ltB a.Threshold 1 then
 some 4
 else
 bif (ltB (addI .i64 (a.Nodes.length : Int) (a.Inner.length : Int)) a.Threshold) then
 some 4
 else
 Option.bind (z09 a.Nodes) fun x0 =>
 bif x0 then
 some 5
 else
 Option.bind (z2u a.Nodes) fun x1 =>
 bif neB x1.2 0 then
 some x1.2
 else
 z0p a.Inner (a.Inner.length : Int) 0 a.Threshold a.Nodes a.Inner
 ) :=
 cL o0' Tryd.func60
end Go.Proofs.YtkeiaodiibageaaDoor
