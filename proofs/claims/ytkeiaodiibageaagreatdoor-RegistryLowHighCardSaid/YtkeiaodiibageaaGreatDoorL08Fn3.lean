/- What the functions come to, printed by a program and checked by the kernel. -/
import Derived.Test.YtkeiaodiibageaaGreatDoorL08Df
namespace Go.Proofs.YtkeiaodiibageaaGreatDoor
open Go Go.Ab
set_option maxRecDepth 100000
theorem qww a b c d e f g : eL (z1q a b c d e f g) (
 bif ltB d c then
 nth b d fun y0 =>
 Option.bind (z2i y0) fun x1 =>
 z1q (addI .i64 a x1) b c (addI .i64 d 1) e f g
 else
 some a
 ) :=
 gL o0' (q0h Tryz.f80 [1,1,0,1,0,0])
theorem qxe a b c d e f : eL (z1h a b c d e f) (
 bif ltB c b then
 nth a c fun y0 =>
 Option.bind (z2r y0) fun x1 =>
 bif neB x1 0 then
 some x1
 else
 z1h a b (addI .i64 c 1) d e f
 else
 some 0
 ) :=
 gL o0' (q0h Tryz.f98 [1,1,1,1,0,1,0,0])
theorem qoj a b c d : eL (z1w a b c d) (
 bif ltB d c then
 nth b d fun y0 =>
 bif ltB y0 0 then
 some (0, 5)
 else
 bif leB 10 y0 then
 some (0, 5)
 else
 Option.bind (z47 a y0) fun x1 =>
 bif x1 then
 some (0, 6)
 else
 chk (0 ≤ y0) <|
 z1w (orI .i64 a (shlI .i64 1 y0)) b c (addI .i64 d 1)
 else
 some (a, 0)
 ) :=
 gL o8' (q0h Tryz.f114 [1,1,0,1,0,0])
theorem qzz a b : eL (z47 a b) (
 Option.bind (z3m a) fun x0 =>
 bif x0 then
 bif leB 0 b then
 bif ltB b 10 then
 chk (0 ≤ b) <|
 some (neB (andI .i64 a (shlI .i64 1 b)) 0)
 else
 some false
 else
 some false
 else
 some false
 ) :=
 cL o1' Tryz.func120
theorem y1y a : eL (z3m a) (
 Option.bind (z3n a 10) fun x0 =>
 some x0
 ) :=
 cL o1' Tryz.func130
theorem qzw a b : eL (z3n a b) (
 bif leB 0 a then
 chk (0 ≤ b) <|
 some (ltB a (shlI .i64 1 b))
 else
 some false
 ) :=
 cL o1' Tryz.func138
theorem qu3 a b c : eL (z05 a b c) (
 bif ltB c b then
 nth a c fun y0 =>
 Option.bind (z2w y0) fun x1 =>
 bif x1 then
 some c
 else
 z05 a b (addI .i64 c 1)
 else
 some (-1)
 ) :=
 gL o0' (q0h Tryz.f119 [1,0,1,0,0])
theorem y06 a : eL (z2w a) (
 Option.bind (z35 a) fun x0 =>
 some (!x0)
 ) :=
 cL o1' Tryz.func113
theorem qwi a b c d e f g h : eL (z0z a b c d e f g h) (
 bif ltB e d then
 nth c e fun y0 =>
 Option.bind (z4a a y0) fun x1 =>
 bif x1 then
 z0z a (addI .i64 b 1) c d (addI .i64 e 1) f g h
 else
 z0z a b c d (addI .i64 e 1) f g h
 else
 z0v a b h (h.length : Int) 0 f g h
 ) :=
 gL o1' (q0h Tryz.f25 [1,1,1,0,1,0,0])
theorem y05 a b : eL (z4a a b) (
 Option.bind (z3p a) fun x0 =>
 bif x0 then
 bif leB 0 b then
 bif ltB b 10 then
 chk (0 ≤ b) <|
 some (eqB (andI .i64 (shrI .i64 a b) 1) 1)
 else
 some false
 else
 some false
 else
 some false
 ) :=
 cL o1' Tryz.func51
theorem qxd a b c d e f : eL (z1a a b c d e f) (
 bif ltB b a then
 nth c b fun y0 =>
 nth d b fun y1 =>
 Option.bind (z3a y0 y1) fun x2 =>
 Option.bind (z3f x2) fun x3 =>
 nth f b fun _ =>
 nthN f (Int.toNat b) fun _y4 =>
 z1a a (addI .i64 b 1) c d e (List.set f (Int.toNat b) x3)
 else
 some (Registry.mk f)
 ) :=
 gL o22' (q0h Tryz.f32 [1,1,0,1,0,0])
theorem y1b a b : eL (z3a a b) (
 Option.bind (z38 ([a, b] : List (List Declaration))) fun x0 =>
 Option.bind (z0a x0.2) fun x1 =>
 z10 [] x1 (x1.length : Int) 0
 ) :=
 cL o3' Tryz.func58
theorem y1p a : eL (z3f a) (
 z1s [] a (a.length : Int) 0
 ) :=
 cL o3' Tryz.func43
theorem qzo a : eL (z0a a) (
 Option.bind (z0b (a.length : Int) a) fun x0 =>
 some x0
 ) :=
 cL o4' Tryz.func77
theorem y1d a b : eL (z0b a b) (
 z08 a 20 0 20 b
 ) :=
 cL o4' Tryz.func97
theorem qwn a b c d e f g : eL (z1r a b c d e f g) (
 bif ltB d c then
 nth b d fun y0 =>
 Option.bind (z13 y0) fun x1 =>
 capOk (List.length a + List.length ([x1] : List (List UInt8))) <|
 z1r (a ++ ([x1] : List (List UInt8))) b c (addI .i64 d 1) e f g
 else
 z1t a g (g.length : Int) 0 e f g
 ) :=
 gL o2' (q0h Tryz.f104 [1,1,0,1,0,0])
theorem qwr a b c d e f g h i : eL (z16 a b c d e f g h i) (
 bif ltB h g then
 nth f h fun y0 =>
 Option.bind (z2z y0) fun x1 =>
 bif neB x1 0 then
 some x1
 else
 bif neB y0.Node a then
 some 5
 else
 bif ltB 0 h then
 nth b (subI .i64 h 1) fun y2 =>
 Option.bind (z29 y2 y0) fun x3 =>
 bif leB 0 x3 then
 some 7
 else
 bif ltB 1 h then
 nth b (subI .i64 h 2) fun y4 =>
 bif eqB y4.Seq y0.Seq then
 some 3
 else
 z16 a b c d e f g (addI .i64 h 1) i
 else
 z16 a b c d e f g (addI .i64 h 1) i
 else
 bif ltB 1 h then
 nth b (subI .i64 h 2) fun y5 =>
 bif eqB y5.Seq y0.Seq then
 some 3
 else
 z16 a b c d e f g (addI .i64 h 1) i
 else
 z16 a b c d e f g (addI .i64 h 1) i
 else
 z21 c d (addI .i64 e 1) i
 ) :=
 gL o0' (q0h Tryz.f14 [1,1,0,1,0,0,1,1,0,0,1,1,0,0])
theorem qx0 a b c d e f g h i j : eL (z1i a b c d e f g h i j) (
 bif ltB d c then
 nth b d fun y0 =>
 bif (ltB (a.length : Int) 2) then
 capOk (List.length a + List.length ([(Declaration.mk y0.Node y0.Seq (Trust.mk y0.Trust.Threshold y0.Trust.Nodes y0.Trust.Inner) y0.Tag)] : List Declaration)) <|
 z1i (a ++ ([(Declaration.mk y0.Node y0.Seq (Trust.mk y0.Trust.Threshold y0.Trust.Nodes y0.Trust.Inner) y0.Tag)] : List Declaration)) b c (addI .i64 d 1) e f g h i j
 else
 nth a (subI .i64 (a.length : Int) 1) fun y1 =>
 bif neB y1.Seq y0.Seq then
 capOk (List.length a + List.length ([(Declaration.mk y0.Node y0.Seq (Trust.mk y0.Trust.Threshold y0.Trust.Nodes y0.Trust.Inner) y0.Tag)] : List Declaration)) <|
 z0s (a ++ ([(Declaration.mk y0.Node y0.Seq (Trust.mk y0.Trust.Threshold y0.Trust.Nodes y0.Trust.Inner) y0.Tag)] : List Declaration)) b c (addI .i64 d 1) e f g h i j
 else
 nth a (subI .i64 (a.length : Int) 2) fun y2 =>
 bif neB y2.Seq y0.Seq then
 capOk (List.length a + List.length ([(Declaration.mk y0.Node y0.Seq (Trust.mk y0.Trust.Threshold y0.Trust.Nodes y0.Trust.Inner) y0.Tag)] : List Declaration)) <|
 z0s (a ++ ([(Declaration.mk y0.Node y0.Seq (Trust.mk y0.Trust.Threshold y0.Trust.Nodes y0.Trust.Inner) y0.Tag)] : List Declaration)) b c (addI .i64 d 1) e f g h i j
 else
 z0s a b c (addI .i64 d 1) e f g h i j
 else
 some a
 ) :=
 gL o3' (q0h Tryz.f57 [1,1,1,1,1,1,0,1,0,0])
theorem qrd a b c d e f : eL (z1l a b c d e f) (
 bif ltB c b then
 nth a c fun y0 =>
 Option.bind (z32 y0) fun x1 =>
 bif neB x1 0 then
 some x1
 else
 z1l a b (addI .i64 c 1) d e f
 else
 some 0
 ) :=
 gL o0' (q0h Tryz.f84 [1,1,1,1,0,1,0,0])
theorem qo5 a b c d : eL (z2o a b c d) (
 bif ltB d c then
 nth b d fun y0 =>
 bif ltB y0 0 then
 some (0, 5)
 else
 bif leB 10 y0 then
 some (0, 5)
 else
 Option.bind (z4a a y0) fun x1 =>
 bif x1 then
 some (0, 6)
 else
 chk (0 ≤ y0) <|
 z2o (orI .i64 a (shlI .i64 1 y0)) b c (addI .i64 d 1)
 else
 some (a, 0)
 ) :=
 gL o8' (q0h Tryz.f101 [1,1,0,1,0,0])
theorem qwy a b c d e f g h : eL (z2u a b c d e f g h) (
 bif ltB e d then
 nth c e fun y0 =>
 chk (List.length a + List.length b ≤ 9223372036854775807) <|
 Option.bind (z41 y0) fun x1 =>
 chk (List.length (a ++ b) + List.length x1 ≤ 9223372036854775807) <|
 z2u ((a ++ b) ++ x1) ([44, 32] : List UInt8) c d (addI .i64 e 1) f g h
 else
 chk (List.length a + List.length ([41] : List UInt8) ≤ 9223372036854775807) <|
 some (a ++ ([41] : List UInt8))
 ) :=
 gL o2' (q0h Tryz.f103 [1,1,1,1,0,1,0,0])
theorem qxg a b c d e f g : eL (z1b a b c d e f g) (
 bif ltB d c then
 nth b d fun y0 =>
 Option.bind (z2h y0) fun x1 =>
 z1b (orI .i64 a x1) b c (addI .i64 d 1) e f g
 else
 some a
 ) :=
 gL o0' (q0h Tryz.f52 [1,1,1,0,1,0,0])
theorem qp7 a b c d e f g h i j k : eL (z2p a b c d e f g h i j k) (
 bif ltB 0 c then
 Option.bind (z3w a (subI .i64 b 1) d e) fun x0 =>
 capOk (List.length k + List.length ([(Trust.mk x0.1.Threshold x0.1.Nodes x0.1.Inner)] : List Trust)) <|
 z2p a b (subI .i64 c 1) x0.2.1 x0.2.2 f g h i j (k ++ ([(Trust.mk x0.1.Threshold x0.1.Nodes x0.1.Inner)] : List Trust))
 else
 bif (ltB 0 (k.length : Int)) then
 Option.bind (z0r 3 d e) fun x1 =>
 bif eqB x1.1 0 then
 Option.bind (z0u 1 (addI .i64 ((List.length ([] : List Int) : Nat) : Int) (k.length : Int)) x1.2.1 x1.2.2) fun x2 =>
 some ((Trust.mk x2.1 [] k), x2.2.1, x2.2.2)
 else
 Option.bind (z0u 1 (addI .i64 (j.length : Int) (k.length : Int)) x1.2.1 x1.2.2) fun x3 =>
 some ((Trust.mk x3.1 j k), x3.2.1, x3.2.2)
 else
 Option.bind (z0u 1 (addI .i64 (j.length : Int) (k.length : Int)) d e) fun x4 =>
 some ((Trust.mk x4.1 j k), x4.2.1, x4.2.2)
 ) :=
 gL o6' (q0h Tryz.f71 [1,1,1,1,0,1,0,0,1,0,0])
theorem qx8 a b c d : eL (z1y a b c d) (
 bif ltB 0 b then
 Option.bind (z0r (addI .i64 b 1) c d) fun x0 =>
 nth a x0.1 fun _ =>
 nth a b fun _ =>
 nthN a (Int.toNat x0.1) fun y1 =>
 nthN a (Int.toNat b) fun y2 =>
 nth a b fun _ =>
 nthN a (Int.toNat b) fun _y3 =>
 nth (List.set a (Int.toNat b) y1) x0.1 fun _ =>
 nthN (List.set a (Int.toNat b) y1) (Int.toNat x0.1) fun _y4 =>
 z1y (List.set (List.set a (Int.toNat b) y1) (Int.toNat x0.1) y2) (subI .i64 b 1) x0.2.1 x0.2.2
 else
 some (a, c, d)
 ) :=
 gL o11' (q0h Tryz.f19 [1,1,1,0,1,0,0])
theorem qp4 a b c d : eL (z1m a b c d) (
 bif ltB d c then
 nth b d fun y0 =>
 bif neB y0 a then
 some y0
 else
 z1m a b c (addI .i64 d 1)
 else
 some a
 ) :=
 gL o0' (q0h Tryz.f81 [1,1,0,1,0,0])
theorem qo0 a b c d e : eL (z0g a b c d e) (
 bif ltB e d then
 nth c e fun y0 =>
 bif (leB (b.length : Int) e) then
 some 1
 else
 nth b e fun y1 =>
 Option.bind (z12 y0 y1) fun x2 =>
 bif neB x2 0 then
 some x2
 else
 z0g a b c d (addI .i64 e 1)
 else
 bif (ltB (a.length : Int) (b.length : Int)) then
 some (-1)
 else
 some 0
 ) :=
 gL o0' (q0h Tryz.f105 [1,0,1,0,0])
theorem qng a b c d e : eL (z02 a b c d e) (
 bif ltB e d then
 nth c e fun y0 =>
 bif (leB (b.length : Int) e) then
 some 1
 else
 nth b e fun y1 =>
 Option.bind (z2k y0 y1) fun x2 =>
 bif neB x2 0 then
 some x2
 else
 z02 a b c d (addI .i64 e 1)
 else
 bif (ltB (a.length : Int) (b.length : Int)) then
 some (-1)
 else
 some 0
 ) :=
 gL o0' (q0h Tryz.f106 [1,0,1,0,0])
theorem qx1 a b c d e f g h : eL (z0v a b c d e f g h) (
 bif ltB e d then
 nth c e fun y0 =>
 Option.bind (z0y y0 a) fun x1 =>
 bif x1 then
 z0v a (addI .i64 b 1) c d (addI .i64 e 1) f g h
 else
 z0v a b c d (addI .i64 e 1) f g h
 else
 some (leB f b)
 ) :=
 gL o1' (q0h Tryz.f25 [1,1,1,1,0,1,0,0])
theorem qwx a b c d : eL (z10 a b c d) (
 bif ltB d c then
 nth b d fun y0 =>
 bif (ltB 0 (a.length : Int)) then
 nth a (subI .i64 (a.length : Int) 1) fun y1 =>
 Option.bind (z0q y1 y0) fun x2 =>
 bif eqB x2 0 then
 z06 a b c (addI .i64 d 1)
 else
 bif (ltB 1 (a.length : Int)) then
 nth a (subI .i64 (a.length : Int) 2) fun y3 =>
 bif eqB y3.Seq y0.Seq then
 z06 a b c (addI .i64 d 1)
 else
 capOk (List.length a + List.length ([(Declaration.mk y0.Node y0.Seq (Trust.mk y0.Trust.Threshold y0.Trust.Nodes y0.Trust.Inner) y0.Tag)] : List Declaration)) <|
 z06 (a ++ ([(Declaration.mk y0.Node y0.Seq (Trust.mk y0.Trust.Threshold y0.Trust.Nodes y0.Trust.Inner) y0.Tag)] : List Declaration)) b c (addI .i64 d 1)
 else
 capOk (List.length a + List.length ([(Declaration.mk y0.Node y0.Seq (Trust.mk y0.Trust.Threshold y0.Trust.Nodes y0.Trust.Inner) y0.Tag)] : List Declaration)) <|
 z06 (a ++ ([(Declaration.mk y0.Node y0.Seq (Trust.mk y0.Trust.Threshold y0.Trust.Nodes y0.Trust.Inner) y0.Tag)] : List Declaration)) b c (addI .i64 d 1)
 else
 bif (ltB 1 (a.length : Int)) then
 nth a (subI .i64 (a.length : Int) 2) fun y4 =>
 bif eqB y4.Seq y0.Seq then
 z06 a b c (addI .i64 d 1)
 else
 capOk (List.length a + List.length ([(Declaration.mk y0.Node y0.Seq (Trust.mk y0.Trust.Threshold y0.Trust.Nodes y0.Trust.Inner) y0.Tag)] : List Declaration)) <|
 z06 (a ++ ([(Declaration.mk y0.Node y0.Seq (Trust.mk y0.Trust.Threshold y0.Trust.Nodes y0.Trust.Inner) y0.Tag)] : List Declaration)) b c (addI .i64 d 1)
 else
 capOk (List.length a + List.length ([(Declaration.mk y0.Node y0.Seq (Trust.mk y0.Trust.Threshold y0.Trust.Nodes y0.Trust.Inner) y0.Tag)] : List Declaration)) <|
 z10 (a ++ ([(Declaration.mk y0.Node y0.Seq (Trust.mk y0.Trust.Threshold y0.Trust.Nodes y0.Trust.Inner) y0.Tag)] : List Declaration)) b c (addI .i64 d 1)
 else
 some a
 ) :=
 gL o3' (q0h Tryz.f58 [1,1,1,1,0,1,0,0])
theorem qvx a b c d : eL (z1s a b c d) (
 bif ltB d c then
 nth b d fun y0 =>
 Option.bind (z1u y0.Trust) fun x1 =>
 capOk (List.length a + List.length ([(Declaration.mk y0.Node y0.Seq (Trust.mk x1.Threshold x1.Nodes x1.Inner) y0.Tag)] : List Declaration)) <|
 z1s (a ++ ([(Declaration.mk y0.Node y0.Seq (Trust.mk x1.Threshold x1.Nodes x1.Inner) y0.Tag)] : List Declaration)) b c (addI .i64 d 1)
 else
 some a
 ) :=
 gL o3' (q0h Tryz.f43 [1,1,0,1,0,0])
theorem qzx a b c d e : eL (z08 a b c d e) (
 bif leB d a then
 Option.bind (z04 c d e) fun x0 =>
 z08 a b d (addI .i64 d b) x0
 else
 Option.bind (z04 c a e) fun x1 =>
 z0e a b x1
 ) :=
 gL o4' (q0h Tryz.f97 [1,1,0,0,0])
theorem qwd a b c : eL (z04 a b c) (
 z00 a b (addI .i64 a 1) c
 ) :=
 cL o4' Tryz.func110
theorem qwm a b c d e f g : eL (z1t a b c d e f g) (
 bif ltB d c then
 nth b d fun y0 =>
 Option.bind (z34 y0) fun x1 =>
 capOk (List.length a + List.length ([x1] : List (List UInt8))) <|
 z1t (a ++ ([x1] : List (List UInt8))) b c (addI .i64 d 1) e f g
 else
 Option.bind (z13 e) fun x2 =>
 chk (List.length x2 + List.length ([32, 111, 102, 32, 40] : List UInt8) ≤ 9223372036854775807) <|
 Option.bind (z4h a ([44, 32] : List UInt8)) fun x3 =>
 chk (List.length (x2 ++ ([32, 111, 102, 32, 40] : List UInt8)) + List.length x3 ≤ 9223372036854775807) <|
 chk (List.length ((x2 ++ ([32, 111, 102, 32, 40] : List UInt8)) ++ x3) + List.length ([41] : List UInt8) ≤ 9223372036854775807) <|
 some (((x2 ++ ([32, 111, 102, 32, 40] : List UInt8)) ++ x3) ++ ([41] : List UInt8))
 ) :=
 gL o2' (q0h Tryz.f104 [1,1,1,0,1,0,0])
theorem qw7 a b c d e f g h i j : eL (z0s a b c d e f g h i j) (
 bif ltB d c then
 nth b d fun y0 =>
 bif (ltB (a.length : Int) 2) then
 capOk (List.length a + List.length ([(Declaration.mk y0.Node y0.Seq (Trust.mk y0.Trust.Threshold y0.Trust.Nodes y0.Trust.Inner) y0.Tag)] : List Declaration)) <|
 z0s (a ++ ([(Declaration.mk y0.Node y0.Seq (Trust.mk y0.Trust.Threshold y0.Trust.Nodes y0.Trust.Inner) y0.Tag)] : List Declaration)) b c (addI .i64 d 1) e f g h i j
 else
 nth a (subI .i64 (a.length : Int) 1) fun y1 =>
 bif neB y1.Seq y0.Seq then
 capOk (List.length a + List.length ([(Declaration.mk y0.Node y0.Seq (Trust.mk y0.Trust.Threshold y0.Trust.Nodes y0.Trust.Inner) y0.Tag)] : List Declaration)) <|
 z0s (a ++ ([(Declaration.mk y0.Node y0.Seq (Trust.mk y0.Trust.Threshold y0.Trust.Nodes y0.Trust.Inner) y0.Tag)] : List Declaration)) b c (addI .i64 d 1) e f g h i j
 else
 nth a (subI .i64 (a.length : Int) 2) fun y2 =>
 bif neB y2.Seq y0.Seq then
 capOk (List.length a + List.length ([(Declaration.mk y0.Node y0.Seq (Trust.mk y0.Trust.Threshold y0.Trust.Nodes y0.Trust.Inner) y0.Tag)] : List Declaration)) <|
 z0s (a ++ ([(Declaration.mk y0.Node y0.Seq (Trust.mk y0.Trust.Threshold y0.Trust.Nodes y0.Trust.Inner) y0.Tag)] : List Declaration)) b c (addI .i64 d 1) e f g h i j
 else
 z0s a b c (addI .i64 d 1) e f g h i j
 else
 some a
 ) :=
 gL o3' (q0h Tryz.f57 [1,1,1,1,1,1,0,1,0,0])
theorem qw1 a b c d : eL (z06 a b c d) (
 bif ltB d c then
 nth b d fun y0 =>
 bif (ltB 0 (a.length : Int)) then
 nth a (subI .i64 (a.length : Int) 1) fun y1 =>
 Option.bind (z0q y1 y0) fun x2 =>
 bif eqB x2 0 then
 z06 a b c (addI .i64 d 1)
 else
 bif (ltB 1 (a.length : Int)) then
 nth a (subI .i64 (a.length : Int) 2) fun y3 =>
 bif eqB y3.Seq y0.Seq then
 z06 a b c (addI .i64 d 1)
 else
 capOk (List.length a + List.length ([(Declaration.mk y0.Node y0.Seq (Trust.mk y0.Trust.Threshold y0.Trust.Nodes y0.Trust.Inner) y0.Tag)] : List Declaration)) <|
 z06 (a ++ ([(Declaration.mk y0.Node y0.Seq (Trust.mk y0.Trust.Threshold y0.Trust.Nodes y0.Trust.Inner) y0.Tag)] : List Declaration)) b c (addI .i64 d 1)
 else
 capOk (List.length a + List.length ([(Declaration.mk y0.Node y0.Seq (Trust.mk y0.Trust.Threshold y0.Trust.Nodes y0.Trust.Inner) y0.Tag)] : List Declaration)) <|
 z06 (a ++ ([(Declaration.mk y0.Node y0.Seq (Trust.mk y0.Trust.Threshold y0.Trust.Nodes y0.Trust.Inner) y0.Tag)] : List Declaration)) b c (addI .i64 d 1)
 else
 bif (ltB 1 (a.length : Int)) then
 nth a (subI .i64 (a.length : Int) 2) fun y4 =>
 bif eqB y4.Seq y0.Seq then
 z06 a b c (addI .i64 d 1)
 else
 capOk (List.length a + List.length ([(Declaration.mk y0.Node y0.Seq (Trust.mk y0.Trust.Threshold y0.Trust.Nodes y0.Trust.Inner) y0.Tag)] : List Declaration)) <|
 z06 (a ++ ([(Declaration.mk y0.Node y0.Seq (Trust.mk y0.Trust.Threshold y0.Trust.Nodes y0.Trust.Inner) y0.Tag)] : List Declaration)) b c (addI .i64 d 1)
 else
 capOk (List.length a + List.length ([(Declaration.mk y0.Node y0.Seq (Trust.mk y0.Trust.Threshold y0.Trust.Nodes y0.Trust.Inner) y0.Tag)] : List Declaration)) <|
 z06 (a ++ ([(Declaration.mk y0.Node y0.Seq (Trust.mk y0.Trust.Threshold y0.Trust.Nodes y0.Trust.Inner) y0.Tag)] : List Declaration)) b c (addI .i64 d 1)
 else
 some a
 ) :=
 gL o3' (q0h Tryz.f58 [1,1,1,1,0,1,0,0])
theorem y1c a b c : eL (z0e a b c) (
 bif ltB b a then
 z22 a b 0 (mulI .i64 2 b) c
 else
 some c
 ) :=
 gL o4' (q0h Tryz.f97 [1,1,1,1,0,0])
theorem qsg a b c d : eL (z00 a b c d) (
 bif ltB c b then
 z03 a b c c d
 else
 some d
 ) :=
 gL o4' (q0h Tryz.f110 [1,0,0])
theorem qvy a b c d e : eL (z03 a b c d e) (
 bif ltB a d then
 nth e d fun _ =>
 nth e (subI .i64 d 1) fun _ =>
 nthN e (Int.toNat d) fun y0 =>
 nthN e (Int.toNat (subI .i64 d 1)) fun y1 =>
 Option.bind (z0q y0 y1) fun x2 =>
 bif ltB x2 0 then
 nth e (subI .i64 d 1) fun _ =>
 nth e d fun _ =>
 nthN e (Int.toNat (subI .i64 d 1)) fun y3 =>
 nthN e (Int.toNat d) fun y4 =>
 nth e d fun _ =>
 nthN e (Int.toNat d) fun _y5 =>
 nth (List.set e (Int.toNat d) (Declaration.mk y3.Node y3.Seq (Trust.mk y3.Trust.Threshold y3.Trust.Nodes y3.Trust.Inner) y3.Tag)) (subI .i64 d 1) fun _ =>
 nthN (List.set e (Int.toNat d) (Declaration.mk y3.Node y3.Seq (Trust.mk y3.Trust.Threshold y3.Trust.Nodes y3.Trust.Inner) y3.Tag)) (Int.toNat (subI .i64 d 1)) fun _y6 =>
 z03 a b c (subI .i64 d 1) (List.set (List.set e (Int.toNat d) (Declaration.mk y3.Node y3.Seq (Trust.mk y3.Trust.Threshold y3.Trust.Nodes y3.Trust.Inner) y3.Tag)) (Int.toNat (subI .i64 d 1)) (Declaration.mk y4.Node y4.Seq (Trust.mk y4.Trust.Threshold y4.Trust.Nodes y4.Trust.Inner) y4.Tag))
 else
 z00 a b (addI .i64 c 1) e
 else
 z00 a b (addI .i64 c 1) e
 ) :=
 gL o4' (q0h Tryz.f110 [1,0,0,1,0,0,1,0,0])
end Go.Proofs.YtkeiaodiibageaaGreatDoor
