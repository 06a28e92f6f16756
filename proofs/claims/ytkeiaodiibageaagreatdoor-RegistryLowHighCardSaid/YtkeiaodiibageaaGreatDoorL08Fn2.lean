/- What the functions come to, printed by a program and checked by the kernel. -/
import Derived.Test.YtkeiaodiibageaaGreatDoorL08Df
namespace Go.Proofs.YtkeiaodiibageaaGreatDoor
open Go Go.Ab
set_option maxRecDepth 100000
theorem qw8 a b c d e f g h : eL (z1v a b c d e f g h) (
 bif ltB b a then
 nth e b fun y0 =>
 nth h b fun y1 =>
 Option.bind (z2l y0 y1) fun x2 =>
 bif !x2 then
 some false
 else
 z1v a (addI .i64 b 1) c d e f g h
 else
 some true
 ) :=
 gL o1' (q0h Tryz.f28 [1,1,0,1,0,0])
theorem qvz a b c d e : eL (z1j a b c d e) (
 bif ltB d c then
 nth b d fun y0 =>
 Option.bind (law08_declared (Registry.mk e) 2) fun x1 =>
 Option.bind (z42 3 2 y0 (Trust.mk 1 ([(remI .i64 (x1.length : Int) 3)] : List Int) [])) fun x2 =>
 Option.bind (z3x a (Registry.mk e) x2.1) fun x3 =>
 bif neB x3.2 0 then
 some false
 else
 z1j a b c (addI .i64 d 1) x3.1.Entries
 else
 Option.bind (z2e (Registry.mk e)) fun x4 =>
 bif eqB x4 4 then
 Option.bind (law08_declared (Registry.mk e) 2) fun x5 =>
 some (eqB (x5.length : Int) 3)
 else
 some false
 ) :=
 gL o1' (q0h Tryz.f15 [1,1,1,0,1,0,0])
theorem law08_declared_le a b : eL (law08_declared a b) (
 bif (leB (a.Entries.length : Int) b) then
 some []
 else
 nth a.Entries b fun y0 =>
 some y0
 ) :=
 cL o3' Tryz.func38
theorem y0g a b c : eL (z3x a b c) (
 Option.bind (z2d b) fun x0 =>
 bif neB x0 0 then
 some ((Registry.mk ([] : List (List Declaration))), x0)
 else
 Option.bind (z2v a c) fun x1 =>
 bif neB x1 0 then
 some ((Registry.mk ([] : List (List Declaration))), x1)
 else
 bif (leB (b.Entries.length : Int) c.Node) then
 some ((Registry.mk ([] : List (List Declaration))), 5)
 else
 Option.bind (z2f (b.Entries.length : Int)) fun x2 =>
 nth x2.2.2 c.Node fun _ =>
 nthN x2.2.2 (Int.toNat c.Node) fun _y3 =>
 Option.bind (z33 b (Registry.mk (List.set x2.2.2 (Int.toNat c.Node) ([(Declaration.mk c.Node c.Seq (Trust.mk c.Trust.Threshold c.Trust.Nodes c.Trust.Inner) c.Tag)] : List Declaration)))) fun x4 =>
 some ((Registry.mk x4.Entries), 0)
 ) :=
 cL o18' Tryz.func18
theorem y03 a b : eL (z2v a b) (
 Option.bind (z1o b) fun x0 =>
 bif neB x0 0 then
 some x0
 else
 bif (leB (a.length : Int) b.Node) then
 some 10
 else
 nth a b.Node fun y1 =>
 Option.bind (z1p b) fun x2 =>
 Option.bind (z4i y1 x2) fun x3 =>
 bif neB b.Tag x3 then
 some 8
 else
 some 0
 ) :=
 cL o0' Tryz.func41
theorem y19 a b : eL (z33 a b) (
 chk ((a.Entries.length : Int) = (a.Entries.length : Int) ∧ 0 ≤ (a.Entries.length : Int) ∧ (a.Entries.length : Int) ≤ 65536) <|
 z1a (a.Entries.length : Int) 0 a.Entries b.Entries ([] : List (List Declaration)) (List.replicate (Int.toNat (a.Entries.length : Int)) [])
 ) :=
 cL o22' Tryz.func32
theorem qz3 a : eL (z1o a) (
 bif ltB a.Node 0 then
 some 5
 else
 bif leB 10 a.Node then
 some 5
 else
 bif ltB a.Seq 1 then
 some 1
 else
 bif ltB 30 a.Seq then
 some 1
 else
 Option.bind (z1d a.Trust) fun x0 =>
 bif neB x0 0 then
 some x0
 else
 Option.bind (z24 a.Trust) fun x1 =>
 bif ltB 3 x1 then
 some 3
 else
 Option.bind (z2i a.Trust) fun x2 =>
 bif ltB 40 x2 then
 some 3
 else
 some 0
 ) :=
 cL o0' Tryz.func59
theorem y02 a : eL (z1p a) (
 Option.bind (z1o a) fun x0 =>
 bif neB x0 0 then
 some []
 else
 Option.bind (z13 a.Node) fun x1 =>
 chk (List.length ([100, 32] : List UInt8) + List.length x1 ≤ 9223372036854775807) <|
 chk (List.length (([100, 32] : List UInt8) ++ x1) + List.length ([32] : List UInt8) ≤ 9223372036854775807) <|
 Option.bind (z13 a.Seq) fun x2 =>
 chk (List.length ((([100, 32] : List UInt8) ++ x1) ++ ([32] : List UInt8)) + List.length x2 ≤ 9223372036854775807) <|
 chk (List.length (((([100, 32] : List UInt8) ++ x1) ++ ([32] : List UInt8)) ++ x2) + List.length ([32] : List UInt8) ≤ 9223372036854775807) <|
 Option.bind (z3l a.Trust) fun x3 =>
 chk (List.length ((((([100, 32] : List UInt8) ++ x1) ++ ([32] : List UInt8)) ++ x2) ++ ([32] : List UInt8)) + List.length x3 ≤ 9223372036854775807) <|
 some (((((([100, 32] : List UInt8) ++ x1) ++ ([32] : List UInt8)) ++ x2) ++ ([32] : List UInt8)) ++ x3)
 ) :=
 cL o2' Tryz.func68
theorem y12 a : eL (z3l a) (
 Option.bind (z1d a) fun x0 =>
 bif neB x0 0 then
 some ([63] : List UInt8)
 else
 Option.bind (z34 a) fun x1 =>
 some x1
 ) :=
 cL o2' Tryz.func89
theorem y0t a : eL (z34 a) (
 z1r ([] : List (List UInt8)) a.Nodes (a.Nodes.length : Int) 0 a.Threshold a.Nodes a.Inner
 ) :=
 cL o2' Tryz.func104
theorem qwk a b c d : eL (z21 a b c d) (
 bif ltB c b then
 nth a c fun y0 =>
 z16 c y0 a b c y0 (y0.length : Int) 0 d
 else
 some 0
 ) :=
 gL o0' (q0h Tryz.f14 [1,1,0,1,0,0])
theorem qrn a b c d : eL (z28 a b c d) (
 bif ltB d c then
 nth a d fun y0 =>
 nth b d fun y1 =>
 bif neB y0 y1 then
 some false
 else
 z28 a b c (addI .i64 d 1)
 else
 some true
 ) :=
 gL o1' (q0h Tryz.f54 [1,1,0,1,0,0])
theorem qx5 a b c d e f : eL (z26 a b c d e f) (
 bif ltB c b then
 nth a c fun y0 =>
 capOk (List.length ([] : List Declaration) + List.length y0) <|
 nth f c fun _ =>
 nthN f (Int.toNat c) fun _y1 =>
 z26 a b (addI .i64 c 1) d e (List.set f (Int.toNat c) (([] : List Declaration) ++ y0))
 else
 some ((), (), f)
 ) :=
 gL o7' (q0h Tryz.f56 [1,1,0,1,0,0])
theorem qnn a b c d e f g h i j k l : eL (z14 a b c d e f g h i j k l) (
 bif ltB f e then
 nth d f fun y0 =>
 Option.bind (z29 y0 (Declaration.mk g h (Trust.mk i j k) l)) fun x1 =>
 bif eqB x1 0 then
 some a
 else
 bif ltB 0 x1 then
 bif !c then
 capOk (List.length b + List.length ([(Declaration.mk g h (Trust.mk i j k) l)] : List Declaration)) <|
 capOk (List.length (b ++ ([(Declaration.mk g h (Trust.mk i j k) l)] : List Declaration)) + List.length ([(Declaration.mk y0.Node y0.Seq (Trust.mk y0.Trust.Threshold y0.Trust.Nodes y0.Trust.Inner) y0.Tag)] : List Declaration)) <|
 z14 a ((b ++ ([(Declaration.mk g h (Trust.mk i j k) l)] : List Declaration)) ++ ([(Declaration.mk y0.Node y0.Seq (Trust.mk y0.Trust.Threshold y0.Trust.Nodes y0.Trust.Inner) y0.Tag)] : List Declaration)) true d e (addI .i64 f 1) g h i j k l
 else
 capOk (List.length b + List.length ([(Declaration.mk y0.Node y0.Seq (Trust.mk y0.Trust.Threshold y0.Trust.Nodes y0.Trust.Inner) y0.Tag)] : List Declaration)) <|
 z14 a (b ++ ([(Declaration.mk y0.Node y0.Seq (Trust.mk y0.Trust.Threshold y0.Trust.Nodes y0.Trust.Inner) y0.Tag)] : List Declaration)) c d e (addI .i64 f 1) g h i j k l
 else
 capOk (List.length b + List.length ([(Declaration.mk y0.Node y0.Seq (Trust.mk y0.Trust.Threshold y0.Trust.Nodes y0.Trust.Inner) y0.Tag)] : List Declaration)) <|
 z14 a (b ++ ([(Declaration.mk y0.Node y0.Seq (Trust.mk y0.Trust.Threshold y0.Trust.Nodes y0.Trust.Inner) y0.Tag)] : List Declaration)) c d e (addI .i64 f 1) g h i j k l
 else
 bif !c then
 capOk (List.length b + List.length ([(Declaration.mk g h (Trust.mk i j k) l)] : List Declaration)) <|
 z1i [] (b ++ ([(Declaration.mk g h (Trust.mk i j k) l)] : List Declaration)) ((List.length (b ++ ([(Declaration.mk g h (Trust.mk i j k) l)] : List Declaration)) : Nat) : Int) 0 g h i j k l
 else
 z1i [] b (b.length : Int) 0 g h i j k l
 ) :=
 gL o3' (q0h Tryz.f57 [1,1,1,0,1,0,0])
theorem y0h a b : eL (z29 a b) (
 Option.bind (z30 a) fun x0 =>
 Option.bind (z30 b) fun x1 =>
 bif neB a.Node b.Node then
 Option.bind (z2y (ltB a.Node b.Node)) fun x2 =>
 some x2
 else
 bif neB a.Seq b.Seq then
 Option.bind (z2y (ltB a.Seq b.Seq)) fun x3 =>
 some x3
 else
 bif !eqS x0 x1 then
 Option.bind (z2y (ltS x0 x1)) fun x4 =>
 some x4
 else
 some 0
 ) :=
 cL o0' Tryz.func36
theorem qwq a : eL (z2y a) (
 bif a then
 some (-1)
 else
 some 1
 ) :=
 cL o0' Tryz.func63
theorem qxf a b c d e f g : eL (z2j a b c d e f g) (
 bif ltB d c then
 nth b d fun y0 =>
 Option.bind (z2m y0) fun x1 =>
 z2j (if x1 > a then x1 else a) b c (addI .i64 d 1) e f g
 else
 some (addI .i64 a 1)
 ) :=
 gL o0' (q0h Tryz.f46 [1,1,0,1,0,0])
theorem qwj a b c d e f g : eL (z2s a b c d e f g) (
 bif ltB d c then
 nth b d fun y0 =>
 Option.bind (z2x y0) fun x1 =>
 z2s (addI .i64 a x1) b c (addI .i64 d 1) e f g
 else
 some a
 ) :=
 gL o0' (q0h Tryz.f45 [1,1,0,1,0,0])
theorem qod a b c d e f : eL (z1k a b c d e f) (
 bif ltB c b then
 nth a c fun y0 =>
 bif ltB y0 0 then
 some 5
 else
 bif leB 10 y0 then
 some 5
 else
 z1k a b (addI .i64 c 1) d e f
 else
 Option.bind (z4g e) fun x1 =>
 bif neB x1.2 0 then
 some x1.2
 else
 z1l f (f.length : Int) 0 d e f
 ) :=
 gL o0' (q0h Tryz.f84 [1,1,0,1,0,0])
theorem qzv a : eL (z4g a) (
 z2o 0 a (a.length : Int) 0
 ) :=
 cL o8' Tryz.func101
theorem qw3 a b c d e f g h : eL (z2t a b c d e f g h) (
 bif ltB e d then
 nth c e fun y0 =>
 chk (List.length a + List.length b ≤ 9223372036854775807) <|
 Option.bind (z13 y0) fun x1 =>
 chk (List.length (a ++ b) + List.length x1 ≤ 9223372036854775807) <|
 z2t ((a ++ b) ++ x1) ([44, 32] : List UInt8) c d (addI .i64 e 1) f g h
 else
 z2u a b h (h.length : Int) 0 f g h
 ) :=
 gL o2' (q0h Tryz.f103 [1,1,1,0,1,0,0])
theorem qw0 a b c d e f g : eL (z18 a b c d e f g) (
 bif ltB d c then
 nth b d fun y0 =>
 Option.bind (z35 y0) fun x1 =>
 bif x1 then
 chk (0 ≤ y0) <|
 z18 (orI .i64 a (shlI .i64 1 y0)) b c (addI .i64 d 1) e f g
 else
 z18 a b c (addI .i64 d 1) e f g
 else
 z1b a g (g.length : Int) 0 e f g
 ) :=
 gL o0' (q0h Tryz.f52 [1,1,0,1,0,0])
theorem y1v a : eL (z35 a) (
 bif leB 0 a then
 some (ltB a 10)
 else
 some false
 ) :=
 cL o1' Tryz.func74
theorem qwu a b c d e f g h i j k l : eL (z1f a b c d e f g h i j k l) (
 bif ltB c b then
 nth a c fun y0 =>
 Option.bind (z1u y0) fun x1 =>
 capOk (List.length l + List.length ([(Trust.mk x1.Threshold x1.Nodes x1.Inner)] : List Trust)) <|
 z1f a b (addI .i64 c 1) d e f g h i j k (l ++ ([(Trust.mk x1.Threshold x1.Nodes x1.Inner)] : List Trust))
 else
 some (Trust.mk j k l)
 ) :=
 gL o19' (q0h Tryz.f53 [1,1,0,1,0,0])
theorem qu2 a b c d e f g h i j k l m : eL (z2n a b c d e f g h i j k l m) (
 bif ltB e d then
 nth c e fun y0 =>
 capOk (List.length l + List.length ([y0] : List Int)) <|
 z2n a b c d (addI .i64 e 1) f g h i j k (l ++ ([y0] : List Int)) m
 else
 bif ltB 1 b then
 Option.bind (z3y ([0, 0, 1, 1, 2, 3] : List Int) f g) fun x1 =>
 z2p a b x1.1 x1.2.1 x1.2.2 h i j k l m
 else
 Option.bind (z0u 1 (addI .i64 (l.length : Int) (m.length : Int)) f g) fun x2 =>
 some ((Trust.mk x2.1 l m), x2.2.1, x2.2.2)
 ) :=
 gL o6' (q0h Tryz.f71 [1,1,1,0,1,0,0])
theorem y13 a b c : eL (z3y a b c) (
 Option.bind (z0r (a.length : Int) b c) fun x0 =>
 nth a x0.1 fun y1 =>
 some (y1, x0.2.1, x0.2.2)
 ) :=
 cL o9' Tryz.func91
theorem qw4 a b c d e : eL (z1x a b c d e) (
 bif ltB c a then
 capOk (List.length b + List.length ([c] : List Int)) <|
 z1x a (b ++ ([c] : List Int)) (addI .i64 c 1) d e
 else
 z1y b (subI .i64 a 1) d e
 ) :=
 gL o11' (q0h Tryz.f19 [1,1,0,1,0,0])
theorem qxb a b c d e : eL (z0x a b c d e) (
 bif ltB e d then
 nth c e fun y0 =>
 Option.bind (z1o y0) fun x1 =>
 bif neB x1 0 then
 some x1
 else
 bif neB y0.Node a then
 some 5
 else
 bif ltB 0 e then
 nth b (subI .i64 e 1) fun y2 =>
 Option.bind (z0q y2 y0) fun x3 =>
 bif leB 0 x3 then
 some 7
 else
 bif ltB 1 e then
 nth b (subI .i64 e 2) fun y4 =>
 bif eqB y4.Seq y0.Seq then
 some 3
 else
 z0x a b c d (addI .i64 e 1)
 else
 z0x a b c d (addI .i64 e 1)
 else
 bif ltB 1 e then
 nth b (subI .i64 e 2) fun y5 =>
 bif eqB y5.Seq y0.Seq then
 some 3
 else
 z0x a b c d (addI .i64 e 1)
 else
 z0x a b c d (addI .i64 e 1)
 else
 some 0
 ) :=
 gL o0' (q0h Tryz.f34 [1,0,1,0,0])
theorem qzc a b : eL (z0q a b) (
 Option.bind (z12 a.Node b.Node) fun x0 =>
 Option.bind (z12 a.Seq b.Seq) fun x1 =>
 Option.bind (z1p a) fun x2 =>
 Option.bind (z1p b) fun x3 =>
 Option.bind (z2c x2 x3) fun x4 =>
 Option.bind (z3q ([x0, x1, x4] : List Int)) fun x5 =>
 some x5
 ) :=
 cL o0' Tryz.func60
theorem qz4 a b : eL (z12 a b) (
 Option.bind (z36 a) fun x0 =>
 Option.bind (z36 b) fun x1 =>
 bif x0 then
 bif x1 then
 some 0
 else
 some (-1)
 else
 bif x1 then
 some 1
 else
 bif ltB a b then
 some (-1)
 else
 bif ltB b a then
 some 1
 else
 some 0
 ) :=
 cL o0' Tryz.func82
theorem qz1 a b : eL (z2c a b) (
 Option.bind (z27 a) fun x0 =>
 Option.bind (z27 b) fun x1 =>
 bif x0 then
 bif x1 then
 some 0
 else
 some (-1)
 else
 bif x1 then
 some 1
 else
 bif ltS a b then
 some (-1)
 else
 bif !leS a b then
 some 1
 else
 some 0
 ) :=
 cL o0' Tryz.func83
theorem qze a : eL (z3q a) (
 z1m 0 a (a.length : Int) 0
 ) :=
 cL o0' Tryz.func81
theorem y01 a : eL (z36 a) (
 some (neB a a)
 ) :=
 cL o1' Tryz.func99
theorem qzn a : eL (z27 a) (
 some (!eqS a a)
 ) :=
 cL o1' Tryz.func100
theorem qtt a b : eL (z19 a b) (
 bif (ltB b (a.length : Int)) then
 nth a b fun y0 =>
 nth a (subI .i64 b 1) fun y1 =>
 bif eqB y0.Seq y1.Seq then
 some ((subI .i64 b 1), true)
 else
 z19 a (addI .i64 b 1)
 else
 some (0, false)
 ) :=
 gL o20' (q0h Tryz.f65 [1,0,1,0,0])
theorem qof a b c d e f g : eL (z01 a b c d e f g) (
 bif ltB b c then
 nth d (IntKind.wrap .i64 (shrI .u64 (IntKind.wrap .u64 (addI .i64 b c)) 1)) fun _ =>
 nthN d (Int.toNat (IntKind.wrap .i64 (shrI .u64 (IntKind.wrap .u64 (addI .i64 b c)) 1))) fun y0 =>
 Option.bind (z2k y0 (Trust.mk e f g)) fun x1 =>
 bif ltB x1 0 then
 z01 a (addI .i64 (IntKind.wrap .i64 (shrI .u64 (IntKind.wrap .u64 (addI .i64 b c)) 1)) 1) c d e f g
 else
 z01 a b (IntKind.wrap .i64 (shrI .u64 (IntKind.wrap .u64 (addI .i64 b c)) 1)) d e f g
 else
 bif ltB b a then
 nth d b fun _ =>
 nthN d (Int.toNat b) fun y2 =>
 Option.bind (z2k y2 (Trust.mk e f g)) fun x3 =>
 some (b, (eqB x3 0), d)
 else
 some (b, false, d)
 ) :=
 gL o21' (q0h Tryz.f92 [1,1,1,0,0,0])
theorem y1u a b : eL (z2k a b) (
 Option.bind (z12 a.Threshold b.Threshold) fun x0 =>
 Option.bind (z1e a.Nodes b.Nodes) fun x1 =>
 Option.bind (z0c a.Inner b.Inner) fun x2 =>
 Option.bind (z3q ([x0, x1, x2] : List Int)) fun x3 =>
 some x3
 ) :=
 cL o0' Tryz.func93
theorem qzg a b : eL (z1e a b) (
 z0g a b a (a.length : Int) 0
 ) :=
 cL o0' Tryz.func105
theorem qzj a b : eL (z0c a b) (
 z02 a b a (a.length : Int) 0
 ) :=
 cL o0' Tryz.func106
theorem qwh a b c d e f g : eL (z1g a b c d e f g) (
 bif ltB d c then
 nth b d fun y0 =>
 Option.bind (z24 y0) fun x1 =>
 z1g (if x1 > a then x1 else a) b c (addI .i64 d 1) e f g
 else
 some (addI .i64 a 1)
 ) :=
 gL o0' (q0h Tryz.f79 [1,1,0,1,0,0])
end Go.Proofs.YtkeiaodiibageaaGreatDoor
