/- What the functions come to, printed by a program and checked by the kernel. -/
import Derived.Test.YtkeiaodiibageaaGreatDoorP08Df
namespace Go.Proofs.YtkeiaodiibageaaGreatDoor
open Go Go.Ab
set_option maxRecDepth 100000
theorem qxt a : eL (z3c a) (
 chk ((a.Entries.length : Int) = (a.Entries.length : Int) ∧ 0 ≤ (a.Entries.length : Int) ∧ (a.Entries.length : Int) ≤ 65536) <|
 z1s a.Entries (a.Entries.length : Int) 0 a.Entries ([] : List (List Declaration)) (List.replicate (Int.toNat (a.Entries.length : Int)) [])
 ) :=
 cL o6' Tryz.func56
theorem qyv a b : eL (z3n a b) (
 z0w a [] false a (a.length : Int) 0 b.Node b.Seq b.Trust.Threshold b.Trust.Nodes b.Trust.Inner b.Tag
 ) :=
 cL o2' Tryz.func57
theorem qyj a : eL (z2l a) (
 bif ltB a.Node 0 then
 some 5
 else
 bif leB 10 a.Node then
 some 5
 else
 bif ltB a.Seq 1 then
 some 1
 else
 bif ltB 30 a.Seq then
 some 1
 else
 Option.bind (z1q a.Trust) fun x0 =>
 bif neB x0 0 then
 some x0
 else
 Option.bind (z2n a.Trust) fun x1 =>
 bif ltB 3 x1 then
 some 3
 else
 Option.bind (z2u a.Trust) fun x2 =>
 bif ltB 40 x2 then
 some 3
 else
 some 0
 ) :=
 cL o0' Tryz.func35
theorem qwp a : eL (z2m a) (
 Option.bind (z2l a) fun x0 =>
 bif neB x0 0 then
 some []
 else
 Option.bind (z0v a.Node) fun x1 =>
 chk (List.length ([100, 32] : List UInt8) + List.length x1 ≤ 9223372036854775807) <|
 chk (List.length (([100, 32] : List UInt8) ++ x1) + List.length ([32] : List UInt8) ≤ 9223372036854775807) <|
 Option.bind (z0v a.Seq) fun x2 =>
 chk (List.length ((([100, 32] : List UInt8) ++ x1) ++ ([32] : List UInt8)) + List.length x2 ≤ 9223372036854775807) <|
 chk (List.length (((([100, 32] : List UInt8) ++ x1) ++ ([32] : List UInt8)) ++ x2) + List.length ([32] : List UInt8) ≤ 9223372036854775807) <|
 Option.bind (z3p a.Trust) fun x3 =>
 chk (List.length ((((([100, 32] : List UInt8) ++ x1) ++ ([32] : List UInt8)) ++ x2) ++ ([32] : List UInt8)) + List.length x3 ≤ 9223372036854775807) <|
 some (((((([100, 32] : List UInt8) ++ x1) ++ ([32] : List UInt8)) ++ x2) ++ ([32] : List UInt8)) ++ x3)
 ) :=
 cL o3' Tryz.func62
theorem qpl a : eL (z1q a) (
 Option.bind (z2n a) fun x0 =>
 bif ltB 4 x0 then
 some 3
 else
 Option.bind (z2u a) fun x1 =>
 bif ltB 200 x1 then
 some 3
 else
 Option.bind (z2o a) fun x2 =>
 some x2
 ) :=
 cL o0' Tryz.func61
theorem qys a : eL (z2n a) (
 z24 0 a.Inner (a.Inner.length : Int) 0 a.Threshold a.Nodes a.Inner
 ) :=
 cL o0' Tryz.func46
theorem qx0 a : eL (z2u a) (
 z2e (addI .i64 (a.Nodes.length : Int) (a.Inner.length : Int)) a.Inner (a.Inner.length : Int) 0 a.Threshold a.Nodes a.Inner
 ) :=
 cL o0' Tryz.func45
theorem qy1 a : eL (z3p a) (
 Option.bind (z1q a) fun x0 =>
 bif neB x0 0 then
 some ([63] : List UInt8)
 else
 Option.bind (z3f a) fun x1 =>
 some x1
 ) :=
 cL o3' Tryz.func86
theorem qqy a : eL (z2o a) (
 bif ltB a.Threshold 1 then
 some 4
 else
 bif (ltB (addI .i64 (a.Nodes.length : Int) (a.Inner.length : Int)) a.Threshold) then
 some 4
 else
 z19 a.Nodes (a.Nodes.length : Int) 0 a.Threshold a.Nodes a.Inner
 ) :=
 cL o0' Tryz.func84
theorem qwr a : eL (z3f a) (
 Option.bind (z0v a.Threshold) fun x0 =>
 chk (List.length x0 + List.length ([32, 111, 102, 32, 40] : List UInt8) ≤ 9223372036854775807) <|
 z2f (x0 ++ ([32, 111, 102, 32, 40] : List UInt8)) [] a.Nodes (a.Nodes.length : Int) 0 a.Threshold a.Nodes a.Inner
 ) :=
 cL o3' Tryz.func103
theorem quy a b c d : eL (z1l a b c d) (
 bif ltB b a then
 nth c b fun y0 =>
 nth d b fun y1 =>
 bif (neB (y0.length : Int) (y1.length : Int)) then
 some false
 else
 nth c b fun y2 =>
 z1x b a b (y2.length : Int) 0 c d
 else
 some true
 ) :=
 gL o1' (q0i Tryz.f12 [1,1,0,1,0,0])
theorem quu a b c d : eL (z1e a b c d) (
 bif ltB c b then
 nth a c fun y0 =>
 Option.bind (z36 c y0) fun x1 =>
 bif neB x1 0 then
 some x1
 else
 z1e a b (addI .i64 c 1) d
 else
 some 0
 ) :=
 gL o0' (q0i Tryz.f13 [1,1,0,1,0,0])
theorem qyp a b : eL (z36 a b) (
 z0q a b b (b.length : Int) 0
 ) :=
 cL o0' Tryz.func34
theorem qu2 a b c d : eL (z1o a b c d) (
 bif ltB c b then
 nth a c fun y0 =>
 z0y c y0 a b c y0 (y0.length : Int) 0 d
 else
 some 0
 ) :=
 gL o0' (q0i Tryz.f14 [1,1,0,1,0,0])
theorem qtz a b c d e : eL (z18 a b c d e) (
 bif ltB d c then
 nth b d fun y0 =>
 Option.bind (law08_declared (Registry.mk e) 2) fun x1 =>
 Option.bind (z3g 3 2 y0 (Trust.mk 1 ([(remI .i64 (x1.length : Int) 3)] : List Int) [])) fun x2 =>
 Option.bind (z1k a (Registry.mk e) x2.1) fun x3 =>
 bif neB x3.2 0 then
 some false
 else
 z18 a b c (addI .i64 d 1) x3.1.Entries
 else
 Option.bind (z2s (Registry.mk e)) fun x4 =>
 bif eqB x4 4 then
 Option.bind (law08_declared (Registry.mk e) 2) fun x5 =>
 some (eqB (x5.length : Int) 3)
 else
 some false
 ) :=
 gL o1' (q0i Tryz.f15 [1,1,1,0,1,0,0])
theorem law08_declared_le a b : eL (law08_declared a b) (
 bif (leB (a.Entries.length : Int) b) then
 some []
 else
 nth a.Entries b fun y0 =>
 some y0
 ) :=
 cL o2' Tryz.func38
theorem qym a b c d : eL (z3g a b c d) (
 Option.bind (z2l (Declaration.mk b c (Trust.mk d.Threshold d.Nodes d.Inner) 0)) fun x0 =>
 bif neB x0 0 then
 some ((Declaration.mk 0 0 (Trust.mk 0 [] []) 0), x0)
 else
 Option.bind (z2m (Declaration.mk b c (Trust.mk d.Threshold d.Nodes d.Inner) 0)) fun x1 =>
 Option.bind (z3z a x1) fun x2 =>
 some ((Declaration.mk b c (Trust.mk d.Threshold d.Nodes d.Inner) x2), 0)
 ) :=
 cL o20' Tryz.func37
theorem qxd a : eL (z2s a) (
 Option.bind (z17 a) fun x0 =>
 bif neB x0 0 then
 some 0
 else
 z0o 0 a.Entries (a.Entries.length : Int) 0 a.Entries
 ) :=
 cL o0' Tryz.func39
theorem qn1 a b c d e : eL (z0f a b c d e) (
 bif ltB 0 c then
 Option.bind (z2y a d e) fun x0 =>
 bif (ltB 0 (b.length : Int)) then
 Option.bind (z0z 4 x0.2.1 x0.2.2) fun x1 =>
 bif eqB x1.1 0 then
 Option.bind (z0z (b.length : Int) x1.2.1 x1.2.2) fun x2 =>
 nth b x2.1 fun _ =>
 nthN b (Int.toNat x2.1) fun y3 =>
 capOk (List.length b + List.length ([(Declaration.mk y3.Node y3.Seq (Trust.mk y3.Trust.Threshold y3.Trust.Nodes y3.Trust.Inner) y3.Tag)] : List Declaration)) <|
 z0f a (b ++ ([(Declaration.mk y3.Node y3.Seq (Trust.mk y3.Trust.Threshold y3.Trust.Nodes y3.Trust.Inner) y3.Tag)] : List Declaration)) (subI .i64 c 1) x2.2.1 x2.2.2
 else
 capOk (List.length b + List.length ([(Declaration.mk x0.1.Node x0.1.Seq (Trust.mk x0.1.Trust.Threshold x0.1.Trust.Nodes x0.1.Trust.Inner) x0.1.Tag)] : List Declaration)) <|
 z0f a (b ++ ([(Declaration.mk x0.1.Node x0.1.Seq (Trust.mk x0.1.Trust.Threshold x0.1.Trust.Nodes x0.1.Trust.Inner) x0.1.Tag)] : List Declaration)) (subI .i64 c 1) x1.2.1 x1.2.2
 else
 capOk (List.length b + List.length ([(Declaration.mk x0.1.Node x0.1.Seq (Trust.mk x0.1.Trust.Threshold x0.1.Trust.Nodes x0.1.Trust.Inner) x0.1.Tag)] : List Declaration)) <|
 z0f a (b ++ ([(Declaration.mk x0.1.Node x0.1.Seq (Trust.mk x0.1.Trust.Threshold x0.1.Trust.Nodes x0.1.Trust.Inner) x0.1.Tag)] : List Declaration)) (subI .i64 c 1) x0.2.1 x0.2.2
 else
 some (b, d, e)
 ) :=
 gL o13' (q0i Tryz.f16 [1,1,0,1,0,0])
theorem qwh a b c : eL (z2y a b c) (
 Option.bind (z0z (a.length : Int) b c) fun x0 =>
 nth a x0.1 fun y1 =>
 Option.bind (z0l 1 4 x0.2.1 x0.2.2) fun x2 =>
 Option.bind (z2x (a.length : Int) x2.2.1 x2.2.2) fun x3 =>
 Option.bind (z3g y1 x0.1 x2.1 x3.1) fun x4 =>
 some ((Declaration.mk x4.1.Node x4.1.Seq (Trust.mk x4.1.Trust.Threshold x4.1.Trust.Nodes x4.1.Trust.Inner) x4.1.Tag), x3.2.1, x3.2.2)
 ) :=
 cL o21' Tryz.func40
theorem qrs a b c : eL (z2x a b c) (
 Option.bind (z3r a 2 b c) fun x0 =>
 Option.bind (z2u x0.1) fun x1 =>
 bif ltB 40 x1 then
 some ((Trust.mk 1 ([0] : List Int) []), x0.2.1, x0.2.2)
 else
 Option.bind (z2n x0.1) fun x2 =>
 bif ltB 3 x2 then
 some ((Trust.mk 1 ([0] : List Int) []), x0.2.1, x0.2.2)
 else
 some ((Trust.mk x0.1.Threshold x0.1.Nodes x0.1.Inner), x0.2.1, x0.2.2)
 ) :=
 cL o5' Tryz.func66
theorem quf a b c d : eL (z3r a b c d) (
 Option.bind (z3d a b c d) fun x0 =>
 Option.bind (z1q x0.1) fun x1 =>
 bif neB x1 0 then
 Option.bind (z0z a x0.2.1 x0.2.2) fun x2 =>
 some ((Trust.mk 1 ([x2.1] : List Int) []), x2.2.1, x2.2.2)
 else
 some ((Trust.mk x0.1.Threshold x0.1.Nodes x0.1.Inner), x0.2.1, x0.2.2)
 ) :=
 cL o5' Tryz.func44
theorem qtq a b c d : eL (z3d a b c d) (
 Option.bind (z1v a c d) fun x0 =>
 Option.bind (z0l 1 (if 5 < a then 5 else a) x0.2.1 x0.2.2) fun x1 =>
 hiK (List.length x0.1) x1.1 fun b2 =>
 z27 a b (List.drop 0 (List.take b2 x0.1)) ((List.length (List.drop 0 (List.take b2 x0.1)) : Nat) : Int) 0 x1.2.1 x1.2.2 0 [] [] 0 [] []
 ) :=
 cL o5' Tryz.func71
theorem qv1 a b c : eL (z1v a b c) (
 z0r a [] 0 b c
 ) :=
 cL o10' Tryz.func19
theorem qub a b c d e f g : eL (z0k a b c d e f g) (
 bif ltB d c then
 nth b d fun y0 =>
 z0c a d b c d y0 (y0.length : Int) 0 e f g
 else
 Option.bind (z2q a) fun x1 =>
 some x1
 ) :=
 gL o2' (q0i Tryz.f20 [1,1,1,1,0,1,0,0])
theorem qy6 a : eL (z2q a) (
 z1h [] a (a.length : Int) 0
 ) :=
 cL o2' Tryz.func43
theorem qtp a b c d e f : eL (z10 a b c d e f) (
 bif ltB b a then
 nth c b fun y0 =>
 nth d b fun y1 =>
 Option.bind (z2v y0 y1) fun x2 =>
 Option.bind (z2q x2) fun x3 =>
 nth f b fun _ =>
 nthN f (Int.toNat b) fun _y4 =>
 z10 a (addI .i64 b 1) c d e (List.set f (Int.toNat b) x3)
 else
 some (Registry.mk f)
 ) :=
 gL o14' (q0i Tryz.f32 [1,1,0,1,0,0])
theorem qyf a b : eL (z2v a b) (
 Option.bind (z2t ([a, b] : List (List Declaration))) fun x0 =>
 Option.bind (z07 x0.2) fun x1 =>
 z0u [] x1 (x1.length : Int) 0
 ) :=
 cL o2' Tryz.func58
theorem qxb a : eL (z07 a) (
 Option.bind (z08 (a.length : Int) a) fun x0 =>
 some x0
 ) :=
 cL o4' Tryz.func77
theorem qx5 a b : eL (z08 a b) (
 z06 a 20 0 20 b
 ) :=
 cL o4' Tryz.func97
theorem quq a b c d e f g h i : eL (z0j a b c d e f g h i) (
 bif ltB c 2 then
 Option.bind (z1v (b.length : Int) d e) fun x0 =>
 z0m a b c x0.1 (x0.1.length : Int) 0 x0.2.1 x0.2.2 f g h i
 else
 Option.bind (z0p (Registry.mk h) (Registry.mk i)) fun x1 =>
 bif eqB x1.2 0 then
 Option.bind (z12 (Registry.mk f) (Registry.mk g)) fun x2 =>
 bif x2 then
 Option.bind (z12 (Registry.mk f) x1.1) fun x3 =>
 bif x3 then
 bif (eqB (f.length : Int) (a.length : Int)) then
 Option.bind (law08_awake) fun x4 =>
 some x4
 else
 some false
 else
 some false
 else
 some false
 else
 some false
 ) :=
 gL o1' (q0i Tryz.f4 [1,1,1,1,1,1,0,1,0,0])
theorem qux a b c d e f g : eL (z13 a b c d e f g) (
 bif ltB d c then
 nth b d fun y0 =>
 Option.bind (z1r y0) fun x1 =>
 z13 (if x1 > a then x1 else a) b c (addI .i64 d 1) e f g
 else
 some (addI .i64 a 1)
 ) :=
 gL o0' (q0i Tryz.f79 [1,1,0,1,0,0])
theorem qtx a b c d e f g : eL (z1f a b c d e f g) (
 bif ltB d c then
 nth b d fun y0 =>
 Option.bind (z22 y0) fun x1 =>
 z1f (addI .i64 a x1) b c (addI .i64 d 1) e f g
 else
 some a
 ) :=
 gL o0' (q0i Tryz.f80 [1,1,0,1,0,0])
theorem qv5 a b c d e f : eL (z14 a b c d e f) (
 bif ltB c b then
 nth a c fun y0 =>
 Option.bind (z2c y0) fun x1 =>
 bif neB x1 0 then
 some x1
 else
 z14 a b (addI .i64 c 1) d e f
 else
 some 0
 ) :=
 gL o0' (q0i Tryz.f98 [1,1,1,1,0,1,0,0])
theorem qv4 a b c d e f g : eL (z1g a b c d e f g) (
 bif ltB d c then
 nth b d fun y0 =>
 Option.bind (z0v y0) fun x1 =>
 capOk (List.length a + List.length ([x1] : List (List UInt8))) <|
 z1g (a ++ ([x1] : List (List UInt8))) b c (addI .i64 d 1) e f g
 else
 z1i a g (g.length : Int) 0 e f g
 ) :=
 gL o3' (q0i Tryz.f104 [1,1,0,1,0,0])
theorem qmi a b c d : eL (z1m a b c d) (
 bif ltB d c then
 nth b d fun y0 =>
 bif ltB y0 0 then
 some (0, 5)
 else
 bif leB 10 y0 then
 some (0, 5)
 else
 Option.bind (z3k a y0) fun x1 =>
 bif x1 then
 some (0, 6)
 else
 chk (0 ≤ y0) <|
 z1m (orI .i64 a (shlI .i64 1 y0)) b c (addI .i64 d 1)
 else
 some (a, 0)
 ) :=
 gL o7' (q0i Tryz.f114 [1,1,0,1,0,0])
theorem qy0 a b : eL (z3k a b) (
 Option.bind (z38 a) fun x0 =>
 bif x0 then
 bif leB 0 b then
 bif ltB b 10 then
 chk (0 ≤ b) <|
 some (neB (andI .i64 a (shlI .i64 1 b)) 0)
 else
 some false
 else
 some false
 else
 some false
 ) :=
 cL o1' Tryz.func120
theorem qye a : eL (z38 a) (
 Option.bind (z39 a 10) fun x0 =>
 some x0
 ) :=
 cL o1' Tryz.func130
theorem qxe a b : eL (z39 a b) (
 bif leB 0 a then
 chk (0 ≤ b) <|
 some (ltB a (shlI .i64 1 b))
 else
 some false
 ) :=
 cL o1' Tryz.func138
theorem qqe a b c : eL (z04 a b c) (
 bif ltB c b then
 nth a c fun y0 =>
 Option.bind (z2i y0) fun x1 =>
 bif x1 then
 some c
 else
 z04 a b (addI .i64 c 1)
 else
 some (-1)
 ) :=
 gL o0' (q0i Tryz.f119 [1,0,1,0,0])
end Go.Proofs.YtkeiaodiibageaaGreatDoor
