/- What the functions come to, printed by a program and checked by the kernel. -/
import Derived.Test.YtkeiaodiibageaaDoorE08Df
namespace Go.Proofs.YtkeiaodiibageaaDoor
open Go Go.Ab
set_option maxRecDepth 100000
theorem qoq a b : eL (z0n a b) (
 bif (ltB b (a.length : Int)) then
 nth a b fun y0 =>
 nth a (subI .i64 b 1) fun y1 =>
 bif eqB y0.Seq y1.Seq then
 some ((subI .i64 b 1), true)
 else
 z0n a (addI .i64 b 1)
 else
 some (0, false)
 ) :=
 gL o12' (q0v Tryd.f22 [1,0,1,0,0])
theorem qt3 a b c d : eL (z10 a b c d) (
 bif ltB d c then
 nth b d fun y0 =>
 Option.bind (z1p y0.Trust) fun x1 =>
 capOk (List.length a + List.length ([(Declaration.mk y0.Node y0.Seq (Trust.mk x1.Threshold x1.Nodes x1.Inner) y0.Tag)] : List Declaration)) <|
 z10 (a ++ ([(Declaration.mk y0.Node y0.Seq (Trust.mk x1.Threshold x1.Nodes x1.Inner) y0.Tag)] : List Declaration)) b c (addI .i64 d 1)
 else
 some a
 ) :=
 gL o4' (q0v Tryd.f23 [1,1,0,1,0,0])
theorem qvy a : eL (z1p a) (
 Option.bind (z1b a.Nodes) fun x0 =>
 z0q a.Inner (a.Inner.length : Int) 0 a.Threshold a.Nodes a.Inner 0 [] [] a.Threshold x0.2 []
 ) :=
 cL o13' Tryd.func36
theorem qva (a : List Int) : Le (
 capOk (List.length ([] : List Int) + List.length a) <|
 some ((), (([] : List Int) ++ a))
 ) (z1b a) :=
 qpb (T := tn) (c := qfw Tryd.f52) (rest := q0v Tryd.f52 [1,1]) (o := ⟨[.ref 0],[[.own .i64 false]]⟩) sigOk 100000 (by kernel_rfl) Tryd.func52 (by kernel_rfl) (by kernel_rfl) (by kernel_rfl) (by kernel_rfl) (fun hx r hr => by subst hx; cases hr; exact ⟨rfl, rfl⟩)
theorem qlp a b c d e f g h i j k : eL (z1l a b c d e f g h i j k) (
 bif ltB 0 c then
 Option.bind (z2l a (subI .i64 b 1) d e) fun x0 =>
 capOk (List.length k + List.length ([(Trust.mk x0.1.Threshold x0.1.Nodes x0.1.Inner)] : List Trust)) <|
 z1l a b (subI .i64 c 1) x0.2.1 x0.2.2 f g h i j (k ++ ([(Trust.mk x0.1.Threshold x0.1.Nodes x0.1.Inner)] : List Trust))
 else
 bif (ltB 0 (k.length : Int)) then
 Option.bind (z0l 3 d e) fun x1 =>
 bif eqB x1.1 0 then
 Option.bind (z0i 1 (addI .i64 ((List.length ([] : List Int) : Nat) : Int) (k.length : Int)) x1.2.1 x1.2.2) fun x2 =>
 some ((Trust.mk x2.1 [] k), x2.2.1, x2.2.2)
 else
 Option.bind (z0i 1 (addI .i64 (j.length : Int) (k.length : Int)) x1.2.1 x1.2.2) fun x3 =>
 some ((Trust.mk x3.1 j k), x3.2.1, x3.2.2)
 else
 Option.bind (z0i 1 (addI .i64 (j.length : Int) (k.length : Int)) d e) fun x4 =>
 some ((Trust.mk x4.1 j k), x4.2.1, x4.2.2)
 ) :=
 gL o5' (q0v Tryd.f54 [1,1,1,1,0,1,0,0,1,0,0])
theorem qtb a b c d : eL (z14 a b c d) (
 bif ltB 0 b then
 Option.bind (z0l (addI .i64 b 1) c d) fun x0 =>
 nth a x0.1 fun _ =>
 nth a b fun _ =>
 nthN a (Int.toNat x0.1) fun y1 =>
 nthN a (Int.toNat b) fun y2 =>
 nth a b fun _ =>
 nthN a (Int.toNat b) fun _y3 =>
 nth (List.set a (Int.toNat b) y1) x0.1 fun _ =>
 nthN (List.set a (Int.toNat b) y1) (Int.toNat x0.1) fun _y4 =>
 z14 (List.set (List.set a (Int.toNat b) y1) (Int.toNat x0.1) y2) (subI .i64 b 1) x0.2.1 x0.2.2
 else
 some (a, c, d)
 ) :=
 gL o8' (q0v Tryd.f64 [1,1,1,0,1,0,0])
theorem qq9 a b c d e f : eL (z0t a b c d e f) (
 bif ltB c b then
 nth a c fun y0 =>
 Option.bind (z1y y0) fun x1 =>
 bif neB x1 0 then
 some x1
 else
 z0t a b (addI .i64 c 1) d e f
 else
 some 0
 ) :=
 gL o0' (q0v Tryd.f55 [1,1,1,1,0,1,0,0])
theorem qn1 a b c d : eL (z1m a b c d) (
 bif ltB d c then
 nth b d fun y0 =>
 bif ltB y0 0 then
 some (0, 5)
 else
 bif leB 10 y0 then
 some (0, 5)
 else
 Option.bind (z2w a y0) fun x1 =>
 bif x1 then
 some (0, 6)
 else
 chk (0 ≤ y0) <|
 z1m (orI .i64 a (shlI .i64 1 y0)) b c (addI .i64 d 1)
 else
 some (a, 0)
 ) :=
 gL o6' (q0v Tryd.f66 [1,1,0,1,0,0])
theorem qwp a b : eL (z2w a b) (
 Option.bind (z2r a) fun x0 =>
 bif x0 then
 bif leB 0 b then
 bif ltB b 10 then
 chk (0 ≤ b) <|
 some (eqB (andI .i64 (shrI .i64 a b) 1) 1)
 else
 some false
 else
 some false
 else
 some false
 ) :=
 cL o1' Tryd.func80
theorem qwa a : eL (z2r a) (
 bif leB 0 a then
 some (leB a 1023)
 else
 some false
 ) :=
 cL o1' Tryd.func92
theorem qt4 a b c d e f g h : eL (z1s a b c d e f g h) (
 bif ltB e d then
 nth c e fun y0 =>
 chk (List.length a + List.length b ≤ 9223372036854775807) <|
 Option.bind (z2p y0) fun x1 =>
 chk (List.length (a ++ b) + List.length x1 ≤ 9223372036854775807) <|
 z1s ((a ++ b) ++ x1) ([44, 32] : List UInt8) c d (addI .i64 e 1) f g h
 else
 chk (List.length a + List.length ([41] : List UInt8) ≤ 9223372036854775807) <|
 some (a ++ ([41] : List UInt8))
 ) :=
 gL o2' (q0v Tryd.f43 [1,1,1,1,0,1,0,0])
theorem qsm a b c d e : eL (z0h a b c d e) (
 bif ltB e d then
 nth c e fun y0 =>
 Option.bind (z0v y0) fun x1 =>
 bif neB x1 0 then
 some x1
 else
 bif neB y0.Node a then
 some 5
 else
 bif ltB 0 e then
 nth b (subI .i64 e 1) fun y2 =>
 Option.bind (z0e y2 y0) fun x3 =>
 bif leB 0 x3 then
 some 7
 else
 bif ltB 1 e then
 nth b (subI .i64 e 2) fun y4 =>
 bif eqB y4.Seq y0.Seq then
 some 3
 else
 z0h a b c d (addI .i64 e 1)
 else
 z0h a b c d (addI .i64 e 1)
 else
 bif ltB 1 e then
 nth b (subI .i64 e 2) fun y5 =>
 bif eqB y5.Seq y0.Seq then
 some 3
 else
 z0h a b c d (addI .i64 e 1)
 else
 z0h a b c d (addI .i64 e 1)
 else
 some 0
 ) :=
 gL o0' (q0v Tryd.f31 [1,0,1,0,0])
theorem qv7 a b : eL (z0e a b) (
 Option.bind (z1j a.Node b.Node) fun x0 =>
 Option.bind (z1j a.Seq b.Seq) fun x1 =>
 Option.bind (z0w a) fun x2 =>
 Option.bind (z0w b) fun x3 =>
 Option.bind (z1c x2 x3) fun x4 =>
 Option.bind (z2s ([x0, x1, x4] : List Int)) fun x5 =>
 some x5
 ) :=
 cL o0' Tryd.func44
theorem qwd a b : eL (z1j a b) (
 Option.bind (z22 a) fun x0 =>
 Option.bind (z22 b) fun x1 =>
 bif x0 then
 bif x1 then
 some 0
 else
 some (-1)
 else
 bif x1 then
 some 1
 else
 bif ltB a b then
 some (-1)
 else
 bif ltB b a then
 some 1
 else
 some 0
 ) :=
 cL o0' Tryd.func58
theorem qv8 a b : eL (z1c a b) (
 Option.bind (z1a a) fun x0 =>
 Option.bind (z1a b) fun x1 =>
 bif x0 then
 bif x1 then
 some 0
 else
 some (-1)
 else
 bif x1 then
 some 1
 else
 bif ltS a b then
 some (-1)
 else
 bif !leS a b then
 some 1
 else
 some 0
 ) :=
 cL o0' Tryd.func59
theorem qwe a : eL (z2s a) (
 z0u 0 a (a.length : Int) 0
 ) :=
 cL o0' Tryd.func57
theorem qvs a : eL (z22 a) (
 some (neB a a)
 ) :=
 cL o1' Tryd.func71
theorem qvm a : eL (z1a a) (
 some (!eqS a a)
 ) :=
 cL o1' Tryd.func72
theorem qtd a b c d : eL (z0j a b c d) (
 bif ltB d c then
 nth b d fun y0 =>
 bif (ltB 0 (a.length : Int)) then
 nth a (subI .i64 (a.length : Int) 1) fun y1 =>
 Option.bind (z0e y1 y0) fun x2 =>
 bif eqB x2 0 then
 z04 a b c (addI .i64 d 1)
 else
 bif (ltB 1 (a.length : Int)) then
 nth a (subI .i64 (a.length : Int) 2) fun y3 =>
 bif eqB y3.Seq y0.Seq then
 z04 a b c (addI .i64 d 1)
 else
 capOk (List.length a + List.length ([(Declaration.mk y0.Node y0.Seq (Trust.mk y0.Trust.Threshold y0.Trust.Nodes y0.Trust.Inner) y0.Tag)] : List Declaration)) <|
 z04 (a ++ ([(Declaration.mk y0.Node y0.Seq (Trust.mk y0.Trust.Threshold y0.Trust.Nodes y0.Trust.Inner) y0.Tag)] : List Declaration)) b c (addI .i64 d 1)
 else
 capOk (List.length a + List.length ([(Declaration.mk y0.Node y0.Seq (Trust.mk y0.Trust.Threshold y0.Trust.Nodes y0.Trust.Inner) y0.Tag)] : List Declaration)) <|
 z04 (a ++ ([(Declaration.mk y0.Node y0.Seq (Trust.mk y0.Trust.Threshold y0.Trust.Nodes y0.Trust.Inner) y0.Tag)] : List Declaration)) b c (addI .i64 d 1)
 else
 bif (ltB 1 (a.length : Int)) then
 nth a (subI .i64 (a.length : Int) 2) fun y4 =>
 bif eqB y4.Seq y0.Seq then
 z04 a b c (addI .i64 d 1)
 else
 capOk (List.length a + List.length ([(Declaration.mk y0.Node y0.Seq (Trust.mk y0.Trust.Threshold y0.Trust.Nodes y0.Trust.Inner) y0.Tag)] : List Declaration)) <|
 z04 (a ++ ([(Declaration.mk y0.Node y0.Seq (Trust.mk y0.Trust.Threshold y0.Trust.Nodes y0.Trust.Inner) y0.Tag)] : List Declaration)) b c (addI .i64 d 1)
 else
 capOk (List.length a + List.length ([(Declaration.mk y0.Node y0.Seq (Trust.mk y0.Trust.Threshold y0.Trust.Nodes y0.Trust.Inner) y0.Tag)] : List Declaration)) <|
 z0j (a ++ ([(Declaration.mk y0.Node y0.Seq (Trust.mk y0.Trust.Threshold y0.Trust.Nodes y0.Trust.Inner) y0.Tag)] : List Declaration)) b c (addI .i64 d 1)
 else
 some a
 ) :=
 gL o4' (q0v Tryd.f35 [1,1,1,1,0,1,0,0])
theorem qvt a b c d e : eL (z05 a b c d e) (
 bif leB d a then
 Option.bind (z02 c d e) fun x0 =>
 z05 a b d (addI .i64 d b) x0
 else
 Option.bind (z02 c a e) fun x1 =>
 z08 a b x1
 ) :=
 gL o3' (q0v Tryd.f63 [1,1,0,0,0])
theorem qt0 a b c : eL (z02 a b c) (
 z00 a b (addI .i64 a 1) c
 ) :=
 cL o3' Tryd.func78
theorem qsr a b c d e f g : eL (z11 a b c d e f g) (
 bif ltB d c then
 nth b d fun y0 =>
 Option.bind (z21 y0) fun x1 =>
 capOk (List.length a + List.length ([x1] : List (List UInt8))) <|
 z11 (a ++ ([x1] : List (List UInt8))) b c (addI .i64 d 1) e f g
 else
 Option.bind (z0k e) fun x2 =>
 chk (List.length x2 + List.length ([32, 111, 102, 32, 40] : List UInt8) ≤ 9223372036854775807) <|
 Option.bind (z2z a ([44, 32] : List UInt8)) fun x3 =>
 chk (List.length (x2 ++ ([32, 111, 102, 32, 40] : List UInt8)) + List.length x3 ≤ 9223372036854775807) <|
 chk (List.length ((x2 ++ ([32, 111, 102, 32, 40] : List UInt8)) ++ x3) + List.length ([41] : List UInt8) ≤ 9223372036854775807) <|
 some (((x2 ++ ([32, 111, 102, 32, 40] : List UInt8)) ++ x3) ++ ([41] : List UInt8))
 ) :=
 gL o2' (q0v Tryd.f61 [1,1,1,0,1,0,0])
theorem qt5 a b c d e f g h i j k l : eL (z0q a b c d e f g h i j k l) (
 bif ltB c b then
 nth a c fun y0 =>
 Option.bind (z1p y0) fun x1 =>
 capOk (List.length l + List.length ([(Trust.mk x1.Threshold x1.Nodes x1.Inner)] : List Trust)) <|
 z0q a b (addI .i64 c 1) d e f g h i j k (l ++ ([(Trust.mk x1.Threshold x1.Nodes x1.Inner)] : List Trust))
 else
 some (Trust.mk j k l)
 ) :=
 gL o13' (q0v Tryd.f36 [1,1,0,1,0,0])
theorem qm5 a b c d : eL (z0u a b c d) (
 bif ltB d c then
 nth b d fun y0 =>
 bif neB y0 a then
 some y0
 else
 z0u a b c (addI .i64 d 1)
 else
 some a
 ) :=
 gL o0' (q0v Tryd.f57 [1,1,0,1,0,0])
theorem qtg a b c d : eL (z04 a b c d) (
 bif ltB d c then
 nth b d fun y0 =>
 bif (ltB 0 (a.length : Int)) then
 nth a (subI .i64 (a.length : Int) 1) fun y1 =>
 Option.bind (z0e y1 y0) fun x2 =>
 bif eqB x2 0 then
 z04 a b c (addI .i64 d 1)
 else
 bif (ltB 1 (a.length : Int)) then
 nth a (subI .i64 (a.length : Int) 2) fun y3 =>
 bif eqB y3.Seq y0.Seq then
 z04 a b c (addI .i64 d 1)
 else
 capOk (List.length a + List.length ([(Declaration.mk y0.Node y0.Seq (Trust.mk y0.Trust.Threshold y0.Trust.Nodes y0.Trust.Inner) y0.Tag)] : List Declaration)) <|
 z04 (a ++ ([(Declaration.mk y0.Node y0.Seq (Trust.mk y0.Trust.Threshold y0.Trust.Nodes y0.Trust.Inner) y0.Tag)] : List Declaration)) b c (addI .i64 d 1)
 else
 capOk (List.length a + List.length ([(Declaration.mk y0.Node y0.Seq (Trust.mk y0.Trust.Threshold y0.Trust.Nodes y0.Trust.Inner) y0.Tag)] : List Declaration)) <|
 z04 (a ++ ([(Declaration.mk y0.Node y0.Seq (Trust.mk y0.Trust.Threshold y0.Trust.Nodes y0.Trust.Inner) y0.Tag)] : List Declaration)) b c (addI .i64 d 1)
 else
 bif (ltB 1 (a.length : Int)) then
 nth a (subI .i64 (a.length : Int) 2) fun y4 =>
 bif eqB y4.Seq y0.Seq then
 z04 a b c (addI .i64 d 1)
 else
 capOk (List.length a + List.length ([(Declaration.mk y0.Node y0.Seq (Trust.mk y0.Trust.Threshold y0.Trust.Nodes y0.Trust.Inner) y0.Tag)] : List Declaration)) <|
 z04 (a ++ ([(Declaration.mk y0.Node y0.Seq (Trust.mk y0.Trust.Threshold y0.Trust.Nodes y0.Trust.Inner) y0.Tag)] : List Declaration)) b c (addI .i64 d 1)
 else
 capOk (List.length a + List.length ([(Declaration.mk y0.Node y0.Seq (Trust.mk y0.Trust.Threshold y0.Trust.Nodes y0.Trust.Inner) y0.Tag)] : List Declaration)) <|
 z04 (a ++ ([(Declaration.mk y0.Node y0.Seq (Trust.mk y0.Trust.Threshold y0.Trust.Nodes y0.Trust.Inner) y0.Tag)] : List Declaration)) b c (addI .i64 d 1)
 else
 some a
 ) :=
 gL o4' (q0v Tryd.f35 [1,1,1,1,0,1,0,0])
theorem qvd a b c : eL (z08 a b c) (
 bif ltB b a then
 z16 a b 0 (mulI .i64 2 b) c
 else
 some c
 ) :=
 gL o3' (q0v Tryd.f63 [1,1,1,1,0,0])
theorem qop a b c d : eL (z00 a b c d) (
 bif ltB c b then
 z01 a b c c d
 else
 some d
 ) :=
 gL o3' (q0v Tryd.f78 [1,0,0])
theorem qt1 a b c d e : eL (z01 a b c d e) (
 bif ltB a d then
 nth e d fun _ =>
 nth e (subI .i64 d 1) fun _ =>
 nthN e (Int.toNat d) fun y0 =>
 nthN e (Int.toNat (subI .i64 d 1)) fun y1 =>
 Option.bind (z0e y0 y1) fun x2 =>
 bif ltB x2 0 then
 nth e (subI .i64 d 1) fun _ =>
 nth e d fun _ =>
 nthN e (Int.toNat (subI .i64 d 1)) fun y3 =>
 nthN e (Int.toNat d) fun y4 =>
 nth e d fun _ =>
 nthN e (Int.toNat d) fun _y5 =>
 nth (List.set e (Int.toNat d) (Declaration.mk y3.Node y3.Seq (Trust.mk y3.Trust.Threshold y3.Trust.Nodes y3.Trust.Inner) y3.Tag)) (subI .i64 d 1) fun _ =>
 nthN (List.set e (Int.toNat d) (Declaration.mk y3.Node y3.Seq (Trust.mk y3.Trust.Threshold y3.Trust.Nodes y3.Trust.Inner) y3.Tag)) (Int.toNat (subI .i64 d 1)) fun _y6 =>
 z01 a b c (subI .i64 d 1) (List.set (List.set e (Int.toNat d) (Declaration.mk y3.Node y3.Seq (Trust.mk y3.Trust.Threshold y3.Trust.Nodes y3.Trust.Inner) y3.Tag)) (Int.toNat (subI .i64 d 1)) (Declaration.mk y4.Node y4.Seq (Trust.mk y4.Trust.Threshold y4.Trust.Nodes y4.Trust.Inner) y4.Tag))
 else
 z00 a b (addI .i64 c 1) e
 else
 z00 a b (addI .i64 c 1) e
 ) :=
 gL o3' (q0v Tryd.f78 [1,0,0,1,0,0,1,0,0])
end Go.Proofs.YtkeiaodiibageaaDoor
