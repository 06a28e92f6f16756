/- What the functions come to, printed by a program and checked by the kernel. -/
import Derived.Test.YtkeiaodiibageaaGreatDoorP08Df
namespace Go.Proofs.YtkeiaodiibageaaGreatDoor
open Go Go.Ab
set_option maxRecDepth 100000
theorem qu5 a b c d e f g h i j : eL (z15 a b c d e f g h i j) (
 bif ltB d c then
 nth b d fun y0 =>
 bif (ltB (a.length : Int) 2) then
 capOk (List.length a + List.length ([(Declaration.mk y0.Node y0.Seq (Trust.mk y0.Trust.Threshold y0.Trust.Nodes y0.Trust.Inner) y0.Tag)] : List Declaration)) <|
 z15 (a ++ ([(Declaration.mk y0.Node y0.Seq (Trust.mk y0.Trust.Threshold y0.Trust.Nodes y0.Trust.Inner) y0.Tag)] : List Declaration)) b c (addI .i64 d 1) e f g h i j
 else
 nth a (subI .i64 (a.length : Int) 1) fun y1 =>
 bif neB y1.Seq y0.Seq then
 capOk (List.length a + List.length ([(Declaration.mk y0.Node y0.Seq (Trust.mk y0.Trust.Threshold y0.Trust.Nodes y0.Trust.Inner) y0.Tag)] : List Declaration)) <|
 z0n (a ++ ([(Declaration.mk y0.Node y0.Seq (Trust.mk y0.Trust.Threshold y0.Trust.Nodes y0.Trust.Inner) y0.Tag)] : List Declaration)) b c (addI .i64 d 1) e f g h i j
 else
 nth a (subI .i64 (a.length : Int) 2) fun y2 =>
 bif neB y2.Seq y0.Seq then
 capOk (List.length a + List.length ([(Declaration.mk y0.Node y0.Seq (Trust.mk y0.Trust.Threshold y0.Trust.Nodes y0.Trust.Inner) y0.Tag)] : List Declaration)) <|
 z0n (a ++ ([(Declaration.mk y0.Node y0.Seq (Trust.mk y0.Trust.Threshold y0.Trust.Nodes y0.Trust.Inner) y0.Tag)] : List Declaration)) b c (addI .i64 d 1) e f g h i j
 else
 z0n a b c (addI .i64 d 1) e f g h i j
 else
 some a
 ) :=
 gL o2' (q0i Tryz.f57 [1,1,1,1,1,1,0,1,0,0])
theorem qr3 a b c d e f : eL (z1a a b c d e f) (
 bif ltB c b then
 nth a c fun y0 =>
 Option.bind (z2o y0) fun x1 =>
 bif neB x1 0 then
 some x1
 else
 z1a a b (addI .i64 c 1) d e f
 else
 some 0
 ) :=
 gL o0' (q0i Tryz.f84 [1,1,1,1,0,1,0,0])
theorem qms a b c d : eL (z28 a b c d) (
 bif ltB d c then
 nth b d fun y0 =>
 bif ltB y0 0 then
 some (0, 5)
 else
 bif leB 10 y0 then
 some (0, 5)
 else
 Option.bind (z3u a y0) fun x1 =>
 bif x1 then
 some (0, 6)
 else
 chk (0 ≤ y0) <|
 z28 (orI .i64 a (shlI .i64 1 y0)) b c (addI .i64 d 1)
 else
 some (a, 0)
 ) :=
 gL o7' (q0i Tryz.f101 [1,1,0,1,0,0])
theorem qxo a b : eL (z3u a b) (
 Option.bind (z3m a) fun x0 =>
 bif x0 then
 bif leB 0 b then
 bif ltB b 10 then
 chk (0 ≤ b) <|
 some (eqB (andI .i64 (shrI .i64 a b) 1) 1)
 else
 some false
 else
 some false
 else
 some false
 ) :=
 cL o1' Tryz.func51
theorem qwv a : eL (z3m a) (
 bif leB 0 a then
 some (leB a 1023)
 else
 some false
 ) :=
 cL o1' Tryz.func50
theorem qts a b c d e f g h : eL (z2g a b c d e f g h) (
 bif ltB e d then
 nth c e fun y0 =>
 chk (List.length a + List.length b ≤ 9223372036854775807) <|
 Option.bind (z3f y0) fun x1 =>
 chk (List.length (a ++ b) + List.length x1 ≤ 9223372036854775807) <|
 z2g ((a ++ b) ++ x1) ([44, 32] : List UInt8) c d (addI .i64 e 1) f g h
 else
 chk (List.length a + List.length ([41] : List UInt8) ≤ 9223372036854775807) <|
 some (a ++ ([41] : List UInt8))
 ) :=
 gL o3' (q0i Tryz.f103 [1,1,1,1,0,1,0,0])
theorem qtn a b c d e f g h : eL (z1n a b c d e f g h) (
 bif ltB b a then
 nth e b fun y0 =>
 nth h b fun y1 =>
 Option.bind (z2k y0 y1) fun x2 =>
 bif !x2 then
 some false
 else
 z1n a (addI .i64 b 1) c d e f g h
 else
 some true
 ) :=
 gL o1' (q0i Tryz.f28 [1,1,0,1,0,0])
theorem qr2 a b c d : eL (z1y a b c d) (
 bif ltB d c then
 nth a d fun y0 =>
 nth b d fun y1 =>
 bif neB y0 y1 then
 some false
 else
 z1y a b c (addI .i64 d 1)
 else
 some true
 ) :=
 gL o1' (q0i Tryz.f54 [1,1,0,1,0,0])
theorem qmy a b c d : eL (z1b a b c d) (
 bif ltB d c then
 nth b d fun y0 =>
 bif neB y0 a then
 some y0
 else
 z1b a b c (addI .i64 d 1)
 else
 some a
 ) :=
 gL o0' (q0i Tryz.f81 [1,1,0,1,0,0])
theorem qrp a b : eL (z11 a b) (
 bif (ltB b (a.length : Int)) then
 nth a b fun y0 =>
 nth a (subI .i64 b 1) fun y1 =>
 bif eqB y0.Seq y1.Seq then
 some ((subI .i64 b 1), true)
 else
 z11 a (addI .i64 b 1)
 else
 some (0, false)
 ) :=
 gL o15' (q0i Tryz.f65 [1,0,1,0,0])
theorem qno a b c d e f g h i j k : eL (z29 a b c d e f g h i j k) (
 bif ltB 0 c then
 Option.bind (z3d a (subI .i64 b 1) d e) fun x0 =>
 capOk (List.length k + List.length ([(Trust.mk x0.1.Threshold x0.1.Nodes x0.1.Inner)] : List Trust)) <|
 z29 a b (subI .i64 c 1) x0.2.1 x0.2.2 f g h i j (k ++ ([(Trust.mk x0.1.Threshold x0.1.Nodes x0.1.Inner)] : List Trust))
 else
 bif (ltB 0 (k.length : Int)) then
 Option.bind (z0z 3 d e) fun x1 =>
 bif eqB x1.1 0 then
 Option.bind (z0l 1 (addI .i64 ((List.length ([] : List Int) : Nat) : Int) (k.length : Int)) x1.2.1 x1.2.2) fun x2 =>
 some ((Trust.mk x2.1 [] k), x2.2.1, x2.2.2)
 else
 Option.bind (z0l 1 (addI .i64 (j.length : Int) (k.length : Int)) x1.2.1 x1.2.2) fun x3 =>
 some ((Trust.mk x3.1 j k), x3.2.1, x3.2.2)
 else
 Option.bind (z0l 1 (addI .i64 (j.length : Int) (k.length : Int)) d e) fun x4 =>
 some ((Trust.mk x4.1 j k), x4.2.1, x4.2.2)
 ) :=
 gL o5' (q0i Tryz.f71 [1,1,1,1,0,1,0,0,1,0,0])
theorem qm6 a b c d : eL (z0s a b c d) (
 bif ltB 0 b then
 Option.bind (z0z (addI .i64 b 1) c d) fun x0 =>
 nth a x0.1 fun _ =>
 nth a b fun _ =>
 nthN a (Int.toNat x0.1) fun y1 =>
 nthN a (Int.toNat b) fun y2 =>
 nth a b fun _ =>
 nthN a (Int.toNat b) fun _y3 =>
 nth (List.set a (Int.toNat b) y1) x0.1 fun _ =>
 nthN (List.set a (Int.toNat b) y1) (Int.toNat x0.1) fun _y4 =>
 z0s (List.set (List.set a (Int.toNat b) y1) (Int.toNat x0.1) y2) (subI .i64 b 1) x0.2.1 x0.2.2
 else
 some (a, c, d)
 ) :=
 gL o10' (q0i Tryz.f19 [1,1,1,0,1,0,0])
theorem qrz a b c d e f g h i : eL (z03 a b c d e f g h i) (
 bif ltB c b then
 nth a c fun y0 =>
 Option.bind (z33 y0 d e f g h i) fun x1 =>
 bif x1.1 then
 some (c, x1.2.1, x1.2.2.1, x1.2.2.2.1, x1.2.2.2.2.1, x1.2.2.2.2.2.1, x1.2.2.2.2.2.2)
 else
 z03 a b (addI .i64 c 1) x1.2.1 x1.2.2.1 x1.2.2.2.1 x1.2.2.2.2.1 x1.2.2.2.2.2.1 x1.2.2.2.2.2.2
 else
 some ((-1), d, e, f, g, h, i)
 ) :=
 gL o17' (q0i Tryz.f90 [1,0,1,0,0])
theorem qwx a b c d e f g : eL (z33 a b c d e f g) (
 Option.bind (z0h a (Declaration.mk b c (Trust.mk d e f) g)) fun x0 =>
 some ((eqB x0 0), b, c, d, e, f, g)
 ) :=
 cL o16' Tryz.func70
theorem qto a b c d e f g h i j k l : eL (z16 a b c d e f g h i j k l) (
 bif ltB c b then
 nth a c fun y0 =>
 Option.bind (z2d y0) fun x1 =>
 capOk (List.length l + List.length ([(Trust.mk x1.Threshold x1.Nodes x1.Inner)] : List Trust)) <|
 z16 a b (addI .i64 c 1) d e f g h i j k (l ++ ([(Trust.mk x1.Threshold x1.Nodes x1.Inner)] : List Trust))
 else
 some (Trust.mk j k l)
 ) :=
 gL o18' (q0i Tryz.f53 [1,1,0,1,0,0])
theorem qu3 a b c d : eL (z05 a b c d) (
 bif ltB d c then
 nth b d fun y0 =>
 bif (ltB 0 (a.length : Int)) then
 nth a (subI .i64 (a.length : Int) 1) fun y1 =>
 Option.bind (z0h y1 y0) fun x2 =>
 bif eqB x2 0 then
 z05 a b c (addI .i64 d 1)
 else
 bif (ltB 1 (a.length : Int)) then
 nth a (subI .i64 (a.length : Int) 2) fun y3 =>
 bif eqB y3.Seq y0.Seq then
 z05 a b c (addI .i64 d 1)
 else
 capOk (List.length a + List.length ([(Declaration.mk y0.Node y0.Seq (Trust.mk y0.Trust.Threshold y0.Trust.Nodes y0.Trust.Inner) y0.Tag)] : List Declaration)) <|
 z05 (a ++ ([(Declaration.mk y0.Node y0.Seq (Trust.mk y0.Trust.Threshold y0.Trust.Nodes y0.Trust.Inner) y0.Tag)] : List Declaration)) b c (addI .i64 d 1)
 else
 capOk (List.length a + List.length ([(Declaration.mk y0.Node y0.Seq (Trust.mk y0.Trust.Threshold y0.Trust.Nodes y0.Trust.Inner) y0.Tag)] : List Declaration)) <|
 z05 (a ++ ([(Declaration.mk y0.Node y0.Seq (Trust.mk y0.Trust.Threshold y0.Trust.Nodes y0.Trust.Inner) y0.Tag)] : List Declaration)) b c (addI .i64 d 1)
 else
 bif (ltB 1 (a.length : Int)) then
 nth a (subI .i64 (a.length : Int) 2) fun y4 =>
 bif eqB y4.Seq y0.Seq then
 z05 a b c (addI .i64 d 1)
 else
 capOk (List.length a + List.length ([(Declaration.mk y0.Node y0.Seq (Trust.mk y0.Trust.Threshold y0.Trust.Nodes y0.Trust.Inner) y0.Tag)] : List Declaration)) <|
 z05 (a ++ ([(Declaration.mk y0.Node y0.Seq (Trust.mk y0.Trust.Threshold y0.Trust.Nodes y0.Trust.Inner) y0.Tag)] : List Declaration)) b c (addI .i64 d 1)
 else
 capOk (List.length a + List.length ([(Declaration.mk y0.Node y0.Seq (Trust.mk y0.Trust.Threshold y0.Trust.Nodes y0.Trust.Inner) y0.Tag)] : List Declaration)) <|
 z05 (a ++ ([(Declaration.mk y0.Node y0.Seq (Trust.mk y0.Trust.Threshold y0.Trust.Nodes y0.Trust.Inner) y0.Tag)] : List Declaration)) b c (addI .i64 d 1)
 else
 some a
 ) :=
 gL o2' (q0i Tryz.f58 [1,1,1,1,0,1,0,0])
theorem qyq a b c : eL (z09 a b c) (
 bif ltB b a then
 z1p a b 0 (mulI .i64 2 b) c
 else
 some c
 ) :=
 gL o4' (q0i Tryz.f97 [1,1,1,1,0,0])
theorem qrb a b c d : eL (z00 a b c d) (
 bif ltB c b then
 z01 a b c c d
 else
 some d
 ) :=
 gL o4' (q0i Tryz.f110 [1,0,0])
theorem qu6 a b c d e f g h i j : eL (z0n a b c d e f g h i j) (
 bif ltB d c then
 nth b d fun y0 =>
 bif (ltB (a.length : Int) 2) then
 capOk (List.length a + List.length ([(Declaration.mk y0.Node y0.Seq (Trust.mk y0.Trust.Threshold y0.Trust.Nodes y0.Trust.Inner) y0.Tag)] : List Declaration)) <|
 z0n (a ++ ([(Declaration.mk y0.Node y0.Seq (Trust.mk y0.Trust.Threshold y0.Trust.Nodes y0.Trust.Inner) y0.Tag)] : List Declaration)) b c (addI .i64 d 1) e f g h i j
 else
 nth a (subI .i64 (a.length : Int) 1) fun y1 =>
 bif neB y1.Seq y0.Seq then
 capOk (List.length a + List.length ([(Declaration.mk y0.Node y0.Seq (Trust.mk y0.Trust.Threshold y0.Trust.Nodes y0.Trust.Inner) y0.Tag)] : List Declaration)) <|
 z0n (a ++ ([(Declaration.mk y0.Node y0.Seq (Trust.mk y0.Trust.Threshold y0.Trust.Nodes y0.Trust.Inner) y0.Tag)] : List Declaration)) b c (addI .i64 d 1) e f g h i j
 else
 nth a (subI .i64 (a.length : Int) 2) fun y2 =>
 bif neB y2.Seq y0.Seq then
 capOk (List.length a + List.length ([(Declaration.mk y0.Node y0.Seq (Trust.mk y0.Trust.Threshold y0.Trust.Nodes y0.Trust.Inner) y0.Tag)] : List Declaration)) <|
 z0n (a ++ ([(Declaration.mk y0.Node y0.Seq (Trust.mk y0.Trust.Threshold y0.Trust.Nodes y0.Trust.Inner) y0.Tag)] : List Declaration)) b c (addI .i64 d 1) e f g h i j
 else
 z0n a b c (addI .i64 d 1) e f g h i j
 else
 some a
 ) :=
 gL o2' (q0i Tryz.f57 [1,1,1,1,1,1,0,1,0,0])
theorem quz a b c d e : eL (z01 a b c d e) (
 bif ltB a d then
 nth e d fun _ =>
 nth e (subI .i64 d 1) fun _ =>
 nthN e (Int.toNat d) fun y0 =>
 nthN e (Int.toNat (subI .i64 d 1)) fun y1 =>
 Option.bind (z0h y0 y1) fun x2 =>
 bif ltB x2 0 then
 nth e (subI .i64 d 1) fun _ =>
 nth e d fun _ =>
 nthN e (Int.toNat (subI .i64 d 1)) fun y3 =>
 nthN e (Int.toNat d) fun y4 =>
 nth e d fun _ =>
 nthN e (Int.toNat d) fun _y5 =>
 nth (List.set e (Int.toNat d) (Declaration.mk y3.Node y3.Seq (Trust.mk y3.Trust.Threshold y3.Trust.Nodes y3.Trust.Inner) y3.Tag)) (subI .i64 d 1) fun _ =>
 nthN (List.set e (Int.toNat d) (Declaration.mk y3.Node y3.Seq (Trust.mk y3.Trust.Threshold y3.Trust.Nodes y3.Trust.Inner) y3.Tag)) (Int.toNat (subI .i64 d 1)) fun _y6 =>
 z01 a b c (subI .i64 d 1) (List.set (List.set e (Int.toNat d) (Declaration.mk y3.Node y3.Seq (Trust.mk y3.Trust.Threshold y3.Trust.Nodes y3.Trust.Inner) y3.Tag)) (Int.toNat (subI .i64 d 1)) (Declaration.mk y4.Node y4.Seq (Trust.mk y4.Trust.Threshold y4.Trust.Nodes y4.Trust.Inner) y4.Tag))
 else
 z00 a b (addI .i64 c 1) e
 else
 z00 a b (addI .i64 c 1) e
 ) :=
 gL o4' (q0i Tryz.f110 [1,0,0,1,0,0,1,0,0])
end Go.Proofs.YtkeiaodiibageaaGreatDoor
