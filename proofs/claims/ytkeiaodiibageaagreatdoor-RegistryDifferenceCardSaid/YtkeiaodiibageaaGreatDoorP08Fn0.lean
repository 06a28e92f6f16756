/- What the functions come to, printed by a program and checked by the kernel. -/
import Derived.Test.YtkeiaodiibageaaGreatDoorP08Df
namespace Go.Proofs.YtkeiaodiibageaaGreatDoor
open Go Go.Ab
set_option maxRecDepth 100000
theorem law08_RegistryMerges_le a : eL (law08_RegistryMerges a) (
 Option.bind (z3s a) fun x0 =>
 Option.bind (z0l 1 4 x0.2.1 x0.2.2) fun x1 =>
 Option.bind (z3q x1.1 x1.2.1 x1.2.2) fun x2 =>
 Option.bind (z26 x2.1 8 x2.2.1 x2.2.2) fun x3 =>
 Option.bind (z26 x2.1 8 x3.2.1 x3.2.2) fun x4 =>
 Option.bind (z26 x2.1 8 x4.2.1 x4.2.2) fun x5 =>
 Option.bind (z0p x3.1 x4.1) fun x6 =>
 Option.bind (z0p x4.1 x3.1) fun x7 =>
 Option.bind (z0p x6.1 x5.1) fun x8 =>
 Option.bind (z0p x4.1 x5.1) fun x9 =>
 Option.bind (z0p x3.1 x9.1) fun x10 =>
 Option.bind (z0p x3.1 x3.1) fun x11 =>
 bif neB x6.2 0 then
 some false
 else
 bif neB x7.2 0 then
 some false
 else
 bif neB x8.2 0 then
 some false
 else
 bif neB x9.2 0 then
 some false
 else
 bif neB x10.2 0 then
 some false
 else
 bif neB x11.2 0 then
 some false
 else
 Option.bind (z12 x6.1 x7.1) fun x12 =>
 bif x12 then
 Option.bind (z12 x8.1 x10.1) fun x13 =>
 bif x13 then
 Option.bind (z12 x11.1 x3.1) fun x14 =>
 bif x14 then
 Option.bind (z17 x6.1) fun x15 =>
 bif eqB x15 0 then
 Option.bind (z3a x6.1) fun x16 =>
 bif eqB x16 0 then
 Option.bind (law08_awake) fun x17 =>
 some x17
 else
 some false
 else
 some false
 else
 some false
 else
 some false
 else
 some false
 ) :=
 cL o1' Tryz.func3
theorem law08_RegistryArrives_le a : eL (law08_RegistryArrives a) (
 Option.bind (z3s a) fun x0 =>
 Option.bind (z0l 1 4 x0.2.1 x0.2.2) fun x1 =>
 Option.bind (z3q x1.1 x1.2.1 x1.2.2) fun x2 =>
 Option.bind (z2a x2.1 9 x2.2.1 x2.2.2) fun x3 =>
 Option.bind (z0t (x2.1.length : Int)) fun x4 =>
 Option.bind (z0t (x2.1.length : Int)) fun x5 =>
 Option.bind (z0t (x2.1.length : Int)) fun x6 =>
 Option.bind (z0t (x2.1.length : Int)) fun x7 =>
 z0i x2.1 x3.1 x3.1 (x3.1.length : Int) 0 x3.2.1 x3.2.2 x4.2.2 x5.2.2 x6.2.2 x7.2.2
 ) :=
 cL o1' Tryz.func4
theorem law08_RegistryDifference_le a : eL (law08_RegistryDifference a) (
 Option.bind (z3s a) fun x0 =>
 Option.bind (z0l 1 4 x0.2.1 x0.2.2) fun x1 =>
 Option.bind (z3q x1.1 x1.2.1 x1.2.2) fun x2 =>
 Option.bind (z26 x2.1 8 x2.2.1 x2.2.2) fun x3 =>
 Option.bind (z26 x2.1 8 x3.2.1 x3.2.2) fun x4 =>
 Option.bind (z0p x3.1 x4.1) fun x5 =>
 Option.bind (z1j x3.1 x4.1) fun x6 =>
 z0e x2.1 x5.2 x6 (x6.length : Int) 0 x4.2.1 x4.2.2 x3.1.Entries x4.1.Entries x5.1.Entries x4.1.Entries
 ) :=
 cL o1' Tryz.func5
theorem qut a : eL (z3s a) (
 hiK (List.length a) (if 400 < (a.length : Int) then 400 else (a.length : Int)) fun b0 =>
 some ((), (List.drop 0 (List.take b0 a)), 0)
 ) :=
 cL o19' Tryz.func7
theorem qx6 a b c d : eL (z0l a b c d) (
 Option.bind (z0z (addI .i64 (subI .i64 b a) 1) c d) fun x0 =>
 some ((addI .i64 a x0.1), x0.2.1, x0.2.2)
 ) :=
 cL o8' Tryz.func9
theorem qxj a b c : eL (z3q a b c) (
 z34 a [] 0 b c
 ) :=
 cL o11' Tryz.func8
theorem qwl a b c d : eL (z26 a b c d) (
 Option.bind (z3i (a.length : Int)) fun x0 =>
 Option.bind (z2a a b c d) fun x1 =>
 z23 a x1.1 (x1.1.length : Int) 0 x1.2.1 x1.2.2 ([] : List (List Declaration)) x0.2.2
 ) :=
 cL o12' Tryz.func10
theorem qyi a b : eL (z0p a b) (
 Option.bind (z1u a b) fun x0 =>
 bif neB x0 0 then
 some ((Registry.mk ([] : List (List Declaration))), x0)
 else
 Option.bind (z0x a b) fun x1 =>
 some ((Registry.mk x1.Entries), 0)
 ) :=
 cL o9' Tryz.func11
theorem qtr a b : eL (z12 a b) (
 bif (neB (a.Entries.length : Int) (b.Entries.length : Int)) then
 some false
 else
 z1l (a.Entries.length : Int) 0 a.Entries b.Entries
 ) :=
 cL o1' Tryz.func12
theorem qyh a : eL (z17 a) (
 bif (ltB 10 (a.Entries.length : Int)) then
 some 3
 else
 z1e a.Entries (a.Entries.length : Int) 0 a.Entries
 ) :=
 cL o0' Tryz.func13
theorem qyg a : eL (z3a a) (
 bif (ltB 10 (a.Entries.length : Int)) then
 some 3
 else
 z1o a.Entries (a.Entries.length : Int) 0 a.Entries
 ) :=
 cL o0' Tryz.func14
theorem law08_awake_le  : Le (
 Option.bind (z0t 3) fun x0 =>
 z18 ([1, 2, 3] : List Int) ([1, 2, 1] : List Int) ((List.length ([1, 2, 1] : List Int) : Nat) : Int) 0 x0.2.2
 ) (law08_awake) :=
 cL o1' Tryz.func15
theorem qwy a b c d : eL (z2a a b c d) (
 Option.bind (z0z (addI .i64 b 1) c d) fun x0 =>
 z0f a [] x0.1 x0.2.1 x0.2.2
 ) :=
 cL o13' Tryz.func16
theorem qyt a : eL (z0t a) (
 bif ltB a 1 then
 some ((), (), ([] : List (List Declaration)))
 else
 bif ltB 10 a then
 some ((), (), ([] : List (List Declaration)))
 else
 chk (a = a ∧ 0 ≤ a ∧ a ≤ 65536) <|
 some ((), (), (List.replicate (Int.toNat a) []))
 ) :=
 cL o6' Tryz.func17
theorem qws a b : eL (z1j a b) (
 Option.bind (z1u a b) fun x0 =>
 bif neB x0 0 then
 some []
 else
 Option.bind (z0x a b) fun x1 =>
 z0k [] a.Entries (a.Entries.length : Int) 0 a.Entries b.Entries x1.Entries
 ) :=
 cL o2' Tryz.func20
theorem qrm a b c : eL (z0z a b c) (
 bif (leB (b.length : Int) c) then
 some (0, b, c)
 else
 nth b c fun y0 =>
 chk (a ≠ 0) <|
 bif ltB (remI .i64 y0 a) 0 then
 some ((addI .i64 (remI .i64 y0 a) a), b, (addI .i64 c 1))
 else
 some ((remI .i64 y0 a), b, (addI .i64 c 1))
 ) :=
 cL o8' Tryz.func24
theorem qxm a : eL (z3i a) (
 bif ltB a 1 then
 some ((), (), ([] : List (List Declaration)))
 else
 bif ltB 10 a then
 some ((), (), ([] : List (List Declaration)))
 else
 chk (a = a ∧ 0 ≤ a ∧ a ≤ 65536) <|
 some ((), (), (List.replicate (Int.toNat a) []))
 ) :=
 cL o6' Tryz.func29
theorem qwn a b : eL (z1u a b) (
 Option.bind (z17 a) fun x0 =>
 bif neB x0 0 then
 some x0
 else
 Option.bind (z17 b) fun x1 =>
 bif neB x1 0 then
 some x1
 else
 bif (neB (a.Entries.length : Int) (b.Entries.length : Int)) then
 some 1
 else
 some 0
 ) :=
 cL o0' Tryz.func31
theorem qxx a b : eL (z0x a b) (
 chk ((a.Entries.length : Int) = (a.Entries.length : Int) ∧ 0 ≤ (a.Entries.length : Int) ∧ (a.Entries.length : Int) ≤ 65536) <|
 z10 (a.Entries.length : Int) 0 a.Entries b.Entries ([] : List (List Declaration)) (List.replicate (Int.toNat (a.Entries.length : Int)) [])
 ) :=
 cL o14' Tryz.func32
theorem qtl a b c d e f g h i j k : eL (z0i a b c d e f g h i j k) (
 bif ltB e d then
 nth c e fun y0 =>
 Option.bind (z1k a (Registry.mk h) y0) fun x1 =>
 bif neB x1.2 0 then
 some false
 else
 bif eqB (remI .i64 e 2) 0 then
 Option.bind (z1k a (Registry.mk j) y0) fun x2 =>
 z0i a b c d (addI .i64 e 1) f g x1.1.Entries i x2.1.Entries k
 else
 Option.bind (z1k a (Registry.mk k) y0) fun x3 =>
 z0i a b c d (addI .i64 e 1) f g x1.1.Entries i j x3.1.Entries
 else
 z0j a b 0 f g h i j k
 ) :=
 gL o1' (q0i Tryz.f4 [1,1,1,1,1,0,1,0,0])
theorem qwt a b c : eL (z1k a b c) (
 Option.bind (z17 b) fun x0 =>
 bif neB x0 0 then
 some ((Registry.mk ([] : List (List Declaration))), x0)
 else
 Option.bind (z2h a c) fun x1 =>
 bif neB x1 0 then
 some ((Registry.mk ([] : List (List Declaration))), x1)
 else
 bif (leB (b.Entries.length : Int) c.Node) then
 some ((Registry.mk ([] : List (List Declaration))), 5)
 else
 Option.bind (z0t (b.Entries.length : Int)) fun x2 =>
 nth x2.2.2 c.Node fun _ =>
 nthN x2.2.2 (Int.toNat c.Node) fun _y3 =>
 Option.bind (z0x b (Registry.mk (List.set x2.2.2 (Int.toNat c.Node) ([(Declaration.mk c.Node c.Seq (Trust.mk c.Trust.Threshold c.Trust.Nodes c.Trust.Inner) c.Tag)] : List Declaration)))) fun x4 =>
 some ((Registry.mk x4.Entries), 0)
 ) :=
 cL o9' Tryz.func18
theorem qy4 a b : eL (z2h a b) (
 Option.bind (z1c b) fun x0 =>
 bif neB x0 0 then
 some x0
 else
 bif (leB (a.length : Int) b.Node) then
 some 10
 else
 nth a b.Node fun y1 =>
 Option.bind (z1d b) fun x2 =>
 Option.bind (z3y y1 x2) fun x3 =>
 bif neB b.Tag x3 then
 some 8
 else
 some 0
 ) :=
 cL o0' Tryz.func41
theorem qwq a : eL (z1c a) (
 bif ltB a.Node 0 then
 some 5
 else
 bif leB 10 a.Node then
 some 5
 else
 bif ltB a.Seq 1 then
 some 1
 else
 bif ltB 30 a.Seq then
 some 1
 else
 Option.bind (z2b a.Trust) fun x0 =>
 bif neB x0 0 then
 some x0
 else
 Option.bind (z1r a.Trust) fun x1 =>
 bif ltB 3 x1 then
 some 3
 else
 Option.bind (z22 a.Trust) fun x2 =>
 bif ltB 40 x2 then
 some 3
 else
 some 0
 ) :=
 cL o0' Tryz.func59
theorem qx8 a : eL (z1d a) (
 Option.bind (z1c a) fun x0 =>
 bif neB x0 0 then
 some []
 else
 Option.bind (z0v a.Node) fun x1 =>
 chk (List.length ([100, 32] : List UInt8) + List.length x1 ≤ 9223372036854775807) <|
 chk (List.length (([100, 32] : List UInt8) ++ x1) + List.length ([32] : List UInt8) ≤ 9223372036854775807) <|
 Option.bind (z0v a.Seq) fun x2 =>
 chk (List.length ((([100, 32] : List UInt8) ++ x1) ++ ([32] : List UInt8)) + List.length x2 ≤ 9223372036854775807) <|
 chk (List.length (((([100, 32] : List UInt8) ++ x1) ++ ([32] : List UInt8)) ++ x2) + List.length ([32] : List UInt8) ≤ 9223372036854775807) <|
 Option.bind (z35 a.Trust) fun x3 =>
 chk (List.length ((((([100, 32] : List UInt8) ++ x1) ++ ([32] : List UInt8)) ++ x2) ++ ([32] : List UInt8)) + List.length x3 ≤ 9223372036854775807) <|
 some (((((([100, 32] : List UInt8) ++ x1) ++ ([32] : List UInt8)) ++ x2) ++ ([32] : List UInt8)) ++ x3)
 ) :=
 cL o3' Tryz.func68
theorem qxg a : eL (z2b a) (
 Option.bind (z1r a) fun x0 =>
 bif ltB 4 x0 then
 some 3
 else
 Option.bind (z22 a) fun x1 =>
 bif ltB 200 x1 then
 some 3
 else
 Option.bind (z2c a) fun x2 =>
 some x2
 ) :=
 cL o0' Tryz.func78
theorem qwo a : eL (z1r a) (
 z13 0 a.Inner (a.Inner.length : Int) 0 a.Threshold a.Nodes a.Inner
 ) :=
 cL o0' Tryz.func79
theorem qxw a : eL (z22 a) (
 z1f (addI .i64 (a.Nodes.length : Int) (a.Inner.length : Int)) a.Inner (a.Inner.length : Int) 0 a.Threshold a.Nodes a.Inner
 ) :=
 cL o0' Tryz.func80
theorem qww a : eL (z0v a) (
 Option.bind (z3b a) fun x0 =>
 some x0
 ) :=
 cL o3' Tryz.func85
theorem qwz a : eL (z35 a) (
 Option.bind (z2b a) fun x0 =>
 bif neB x0 0 then
 some ([63] : List UInt8)
 else
 Option.bind (z2p a) fun x1 =>
 some x1
 ) :=
 cL o3' Tryz.func89
theorem qyo a : eL (z2c a) (
 bif ltB a.Threshold 1 then
 some 4
 else
 bif (ltB (addI .i64 (a.Nodes.length : Int) (a.Inner.length : Int)) a.Threshold) then
 some 4
 else
 Option.bind (z0a a.Nodes) fun x0 =>
 bif x0 then
 some 5
 else
 Option.bind (z3o a.Nodes) fun x1 =>
 bif neB x1.2 0 then
 some x1.2
 else
 z14 a.Inner (a.Inner.length : Int) 0 a.Threshold a.Nodes a.Inner
 ) :=
 cL o0' Tryz.func98
theorem qxy a : eL (z3b a) (
 Option.bind (z3v a 10) fun x0 =>
 some x0
 ) :=
 cL o3' Tryz.func102
theorem qyk a : eL (z2p a) (
 z1g ([] : List (List UInt8)) a.Nodes (a.Nodes.length : Int) 0 a.Threshold a.Nodes a.Inner
 ) :=
 cL o3' Tryz.func104
theorem qwk a : eL (z0a a) (
 Option.bind (z0g a) fun x0 =>
 some (leB 0 x0)
 ) :=
 cL o1' Tryz.func112
theorem qyc a : eL (z3o a) (
 z1m 0 a (a.length : Int) 0
 ) :=
 cL o7' Tryz.func114
theorem qyr a : eL (z0g a) (
 z04 a (a.length : Int) 0
 ) :=
 cL o0' Tryz.func119
theorem qus a b c d e f g h i j k : eL (z0e a b c d e f g h i j k) (
 bif ltB e d then
 nth c e fun y0 =>
 Option.bind (z1k a (Registry.mk k) y0) fun x1 =>
 bif neB x1.2 0 then
 some false
 else
 Option.bind (z12 x1.1 (Registry.mk i)) fun x2 =>
 bif x2 then
 some false
 else
 z0e a b c d (addI .i64 e 1) f g h i j x1.1.Entries
 else
 bif eqB b 0 then
 Option.bind (z12 (Registry.mk k) (Registry.mk j)) fun x3 =>
 bif x3 then
 Option.bind (z1j (Registry.mk h) (Registry.mk h)) fun x4 =>
 bif (eqB (x4.length : Int) 0) then
 Option.bind (law08_awake) fun x5 =>
 some x5
 else
 some false
 else
 some false
 else
 some false
 ) :=
 gL o1' (q0i Tryz.f5 [1,1,1,1,1,1,0,1,0,0])
theorem quk a b c d e : eL (z34 a b c d e) (
 bif ltB c a then
 Option.bind (z0z 1000 d e) fun x0 =>
 capOk (List.length b + List.length ([(addI .u64 (mulI .u64 (IntKind.wrap .u64 x0.1) 2654435761) (mulI .u64 (IntKind.wrap .u64 c) 97))] : List Int)) <|
 z34 a (b ++ ([(addI .u64 (mulI .u64 (IntKind.wrap .u64 x0.1) 2654435761) (mulI .u64 (IntKind.wrap .u64 c) 97))] : List Int)) (addI .i64 c 1) x0.2.1 x0.2.2
 else
 some (b, d, e)
 ) :=
 gL o11' (q0i Tryz.f8 [1,1,0,1,0,0])
theorem qu8 a b c d e f g h : eL (z23 a b c d e f g h) (
 bif ltB d c then
 nth b d fun y0 =>
 Option.bind (z3t a (Registry.mk h) y0) fun x1 =>
 z23 a b c (addI .i64 d 1) e f g x1.1.Entries
 else
 some ((Registry.mk h), e, f)
 ) :=
 gL o12' (q0i Tryz.f10 [1,1,0,1,0,0])
theorem qxa a b c : eL (z3t a b c) (
 Option.bind (z3a b) fun x0 =>
 bif neB x0 0 then
 some ((Registry.mk ([] : List (List Declaration))), x0)
 else
 Option.bind (z3j a c) fun x1 =>
 bif neB x1 0 then
 some ((Registry.mk ([] : List (List Declaration))), x1)
 else
 bif (leB (b.Entries.length : Int) c.Node) then
 some ((Registry.mk ([] : List (List Declaration))), 5)
 else
 Option.bind (z3c b) fun x2 =>
 nth x2.2.2 c.Node fun _ =>
 nthN x2.2.2 (Int.toNat c.Node) fun y3 =>
 Option.bind (z3n y3 c) fun x4 =>
 nth x2.2.2 c.Node fun _ =>
 nthN x2.2.2 (Int.toNat c.Node) fun _y5 =>
 some ((Registry.mk (List.set x2.2.2 (Int.toNat c.Node) x4)), 0)
 ) :=
 cL o9' Tryz.func30
theorem qwj a b : eL (z3j a b) (
 Option.bind (z2l b) fun x0 =>
 bif neB x0 0 then
 some x0
 else
 bif (leB (a.length : Int) b.Node) then
 some 10
 else
 nth a b.Node fun y1 =>
 Option.bind (z2m b) fun x2 =>
 Option.bind (z3z y1 x2) fun x3 =>
 bif neB x3 b.Tag then
 some 8
 else
 some 0
 ) :=
 cL o0' Tryz.func55
end Go.Proofs.YtkeiaodiibageaaGreatDoor
