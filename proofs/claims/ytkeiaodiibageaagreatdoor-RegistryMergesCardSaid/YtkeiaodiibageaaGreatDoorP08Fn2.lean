/- What the functions come to, printed by a program and checked by the kernel. -/
import Derived.Test.YtkeiaodiibageaaGreatDoorP08Df
namespace Go.Proofs.YtkeiaodiibageaaGreatDoor
open Go Go.Ab
set_option maxRecDepth 100000
theorem qyl a : eL (z2i a) (
 Option.bind (z2z a) fun x0 =>
 some (!x0)
 ) :=
 cL o1' Tryz.func113
theorem qy7 a : eL (z2z a) (
 bif leB 0 a then
 some (ltB a 10)
 else
 some false
 ) :=
 cL o1' Tryz.func74
theorem qu9 a b c d e f : eL (z1s a b c d e f) (
 bif ltB c b then
 nth a c fun y0 =>
 capOk (List.length ([] : List Declaration) + List.length y0) <|
 nth f c fun _ =>
 nthN f (Int.toNat c) fun _y1 =>
 z1s a b (addI .i64 c 1) d e (List.set f (Int.toNat c) (([] : List Declaration) ++ y0))
 else
 some ((), (), f)
 ) :=
 gL o6' (q0i Tryz.f56 [1,1,0,1,0,0])
theorem qmr a b c d e f g h i j k l : eL (z0w a b c d e f g h i j k l) (
 bif ltB f e then
 nth d f fun y0 =>
 Option.bind (z1w y0 (Declaration.mk g h (Trust.mk i j k) l)) fun x1 =>
 bif eqB x1 0 then
 some a
 else
 bif ltB 0 x1 then
 bif !c then
 capOk (List.length b + List.length ([(Declaration.mk g h (Trust.mk i j k) l)] : List Declaration)) <|
 capOk (List.length (b ++ ([(Declaration.mk g h (Trust.mk i j k) l)] : List Declaration)) + List.length ([(Declaration.mk y0.Node y0.Seq (Trust.mk y0.Trust.Threshold y0.Trust.Nodes y0.Trust.Inner) y0.Tag)] : List Declaration)) <|
 z0w a ((b ++ ([(Declaration.mk g h (Trust.mk i j k) l)] : List Declaration)) ++ ([(Declaration.mk y0.Node y0.Seq (Trust.mk y0.Trust.Threshold y0.Trust.Nodes y0.Trust.Inner) y0.Tag)] : List Declaration)) true d e (addI .i64 f 1) g h i j k l
 else
 capOk (List.length b + List.length ([(Declaration.mk y0.Node y0.Seq (Trust.mk y0.Trust.Threshold y0.Trust.Nodes y0.Trust.Inner) y0.Tag)] : List Declaration)) <|
 z0w a (b ++ ([(Declaration.mk y0.Node y0.Seq (Trust.mk y0.Trust.Threshold y0.Trust.Nodes y0.Trust.Inner) y0.Tag)] : List Declaration)) c d e (addI .i64 f 1) g h i j k l
 else
 capOk (List.length b + List.length ([(Declaration.mk y0.Node y0.Seq (Trust.mk y0.Trust.Threshold y0.Trust.Nodes y0.Trust.Inner) y0.Tag)] : List Declaration)) <|
 z0w a (b ++ ([(Declaration.mk y0.Node y0.Seq (Trust.mk y0.Trust.Threshold y0.Trust.Nodes y0.Trust.Inner) y0.Tag)] : List Declaration)) c d e (addI .i64 f 1) g h i j k l
 else
 bif !c then
 capOk (List.length b + List.length ([(Declaration.mk g h (Trust.mk i j k) l)] : List Declaration)) <|
 z15 [] (b ++ ([(Declaration.mk g h (Trust.mk i j k) l)] : List Declaration)) ((List.length (b ++ ([(Declaration.mk g h (Trust.mk i j k) l)] : List Declaration)) : Nat) : Int) 0 g h i j k l
 else
 z15 [] b (b.length : Int) 0 g h i j k l
 ) :=
 gL o2' (q0i Tryz.f57 [1,1,1,0,1,0,0])
theorem qxk a b : eL (z1w a b) (
 Option.bind (z2m a) fun x0 =>
 Option.bind (z2m b) fun x1 =>
 bif neB a.Node b.Node then
 Option.bind (z2j (ltB a.Node b.Node)) fun x2 =>
 some x2
 else
 bif neB a.Seq b.Seq then
 Option.bind (z2j (ltB a.Seq b.Seq)) fun x3 =>
 some x3
 else
 bif !eqS x0 x1 then
 Option.bind (z2j (ltS x0 x1)) fun x4 =>
 some x4
 else
 some 0
 ) :=
 cL o0' Tryz.func36
theorem qv0 a : eL (z2j a) (
 bif a then
 some (-1)
 else
 some 1
 ) :=
 cL o0' Tryz.func63
theorem qug a b c d e f g : eL (z24 a b c d e f g) (
 bif ltB d c then
 nth b d fun y0 =>
 Option.bind (z2n y0) fun x1 =>
 z24 (if x1 > a then x1 else a) b c (addI .i64 d 1) e f g
 else
 some (addI .i64 a 1)
 ) :=
 gL o0' (q0i Tryz.f46 [1,1,0,1,0,0])
theorem quv a b c d e f g : eL (z2e a b c d e f g) (
 bif ltB d c then
 nth b d fun y0 =>
 Option.bind (z2u y0) fun x1 =>
 z2e (addI .i64 a x1) b c (addI .i64 d 1) e f g
 else
 some a
 ) :=
 gL o0' (q0i Tryz.f45 [1,1,0,1,0,0])
theorem qnm a b c d e f : eL (z19 a b c d e f) (
 bif ltB c b then
 nth a c fun y0 =>
 bif ltB y0 0 then
 some 5
 else
 bif leB 10 y0 then
 some 5
 else
 z19 a b (addI .i64 c 1) d e f
 else
 Option.bind (z3w e) fun x1 =>
 bif neB x1.2 0 then
 some x1.2
 else
 z1a f (f.length : Int) 0 d e f
 ) :=
 gL o0' (q0i Tryz.f84 [1,1,0,1,0,0])
theorem qy5 a : eL (z3w a) (
 z28 0 a (a.length : Int) 0
 ) :=
 cL o7' Tryz.func101
theorem qty a b c d e f g h : eL (z2f a b c d e f g h) (
 bif ltB e d then
 nth c e fun y0 =>
 chk (List.length a + List.length b ≤ 9223372036854775807) <|
 Option.bind (z0v y0) fun x1 =>
 chk (List.length (a ++ b) + List.length x1 ≤ 9223372036854775807) <|
 z2f ((a ++ b) ++ x1) ([44, 32] : List UInt8) c d (addI .i64 e 1) f g h
 else
 z2g a b h (h.length : Int) 0 f g h
 ) :=
 gL o3' (q0i Tryz.f103 [1,1,1,0,1,0,0])
theorem qu4 a b c d e f g : eL (z1x a b c d e f g) (
 bif ltB e d then
 nth f a fun y0 =>
 nth y0 e fun y1 =>
 nth g a fun y2 =>
 nth y2 e fun y3 =>
 Option.bind (z2w y1 y3) fun x4 =>
 bif !x4 then
 some false
 else
 z1x a b c d (addI .i64 e 1) f g
 else
 z1l b (addI .i64 c 1) f g
 ) :=
 gL o1' (q0i Tryz.f12 [1,1,0,1,0,0,1,1,0,0,1,1,1,0,0])
theorem qmp a b : eL (z2w a b) (
 bif eqB a.Node b.Node then
 bif eqB a.Seq b.Seq then
 bif eqB a.Tag b.Tag then
 Option.bind (z2k a.Trust b.Trust) fun x0 =>
 some x0
 else
 some false
 else
 some false
 else
 some false
 ) :=
 cL o1' Tryz.func33
theorem qnh a b : eL (z2k a b) (
 bif neB a.Threshold b.Threshold then
 some false
 else
 Option.bind (z3h a.Nodes b.Nodes) fun x0 =>
 bif !x0 then
 some false
 else
 bif (neB (a.Inner.length : Int) (b.Inner.length : Int)) then
 some false
 else
 z1n (a.Inner.length : Int) 0 a.Threshold a.Nodes a.Inner b.Threshold b.Nodes b.Inner
 ) :=
 cL o1' Tryz.func28
theorem qtu a b : eL (z3h a b) (
 bif (neB (a.length : Int) (b.length : Int)) then
 some false
 else
 z1y a b (a.length : Int) 0
 ) :=
 cL o1' Tryz.func54
theorem qup a b c d e : eL (z0q a b c d e) (
 bif ltB e d then
 nth c e fun y0 =>
 Option.bind (z1c y0) fun x1 =>
 bif neB x1 0 then
 some x1
 else
 bif neB y0.Node a then
 some 5
 else
 bif ltB 0 e then
 nth b (subI .i64 e 1) fun y2 =>
 Option.bind (z0h y2 y0) fun x3 =>
 bif leB 0 x3 then
 some 7
 else
 bif ltB 1 e then
 nth b (subI .i64 e 2) fun y4 =>
 bif eqB y4.Seq y0.Seq then
 some 3
 else
 z0q a b c d (addI .i64 e 1)
 else
 z0q a b c d (addI .i64 e 1)
 else
 bif ltB 1 e then
 nth b (subI .i64 e 2) fun y5 =>
 bif eqB y5.Seq y0.Seq then
 some 3
 else
 z0q a b c d (addI .i64 e 1)
 else
 z0q a b c d (addI .i64 e 1)
 else
 some 0
 ) :=
 gL o0' (q0i Tryz.f34 [1,0,1,0,0])
theorem qxp a b : eL (z0h a b) (
 Option.bind (z25 a.Node b.Node) fun x0 =>
 Option.bind (z25 a.Seq b.Seq) fun x1 =>
 Option.bind (z1d a) fun x2 =>
 Option.bind (z1d b) fun x3 =>
 Option.bind (z21 x2 x3) fun x4 =>
 Option.bind (z3l ([x0, x1, x4] : List Int)) fun x5 =>
 some x5
 ) :=
 cL o0' Tryz.func60
theorem qxl a b : eL (z25 a b) (
 Option.bind (z2r a) fun x0 =>
 Option.bind (z2r b) fun x1 =>
 bif x0 then
 bif x1 then
 some 0
 else
 some (-1)
 else
 bif x1 then
 some 1
 else
 bif ltB a b then
 some (-1)
 else
 bif ltB b a then
 some 1
 else
 some 0
 ) :=
 cL o0' Tryz.func82
theorem qxh a b : eL (z21 a b) (
 Option.bind (z1t a) fun x0 =>
 Option.bind (z1t b) fun x1 =>
 bif x0 then
 bif x1 then
 some 0
 else
 some (-1)
 else
 bif x1 then
 some 1
 else
 bif ltS a b then
 some (-1)
 else
 bif !leS a b then
 some 1
 else
 some 0
 ) :=
 cL o0' Tryz.func83
theorem qxi a : eL (z3l a) (
 z1b 0 a (a.length : Int) 0
 ) :=
 cL o0' Tryz.func81
theorem qyd a : eL (z2r a) (
 some (neB a a)
 ) :=
 cL o1' Tryz.func99
theorem qxr a : eL (z1t a) (
 some (!eqS a a)
 ) :=
 cL o1' Tryz.func100
theorem quj a b c d e f g h i : eL (z0y a b c d e f g h i) (
 bif ltB h g then
 nth f h fun y0 =>
 Option.bind (z2l y0) fun x1 =>
 bif neB x1 0 then
 some x1
 else
 bif neB y0.Node a then
 some 5
 else
 bif ltB 0 h then
 nth b (subI .i64 h 1) fun y2 =>
 Option.bind (z1w y2 y0) fun x3 =>
 bif leB 0 x3 then
 some 7
 else
 bif ltB 1 h then
 nth b (subI .i64 h 2) fun y4 =>
 bif eqB y4.Seq y0.Seq then
 some 3
 else
 z0y a b c d e f g (addI .i64 h 1) i
 else
 z0y a b c d e f g (addI .i64 h 1) i
 else
 bif ltB 1 h then
 nth b (subI .i64 h 2) fun y5 =>
 bif eqB y5.Seq y0.Seq then
 some 3
 else
 z0y a b c d e f g (addI .i64 h 1) i
 else
 z0y a b c d e f g (addI .i64 h 1) i
 else
 z1o c d (addI .i64 e 1) i
 ) :=
 gL o0' (q0i Tryz.f14 [1,1,0,1,0,0,1,1,0,0,1,1,0,0])
theorem qry a b c d e : eL (z0o a b c d e) (
 bif ltB d c then
 nth b d fun y0 =>
 Option.bind (z30 y0) fun x1 =>
 bif x1.2 then
 chk (0 ≤ d) <|
 z0o (orI .i64 a (shlI .i64 1 d)) b c (addI .i64 d 1) e
 else
 z0o a b c (addI .i64 d 1) e
 else
 some a
 ) :=
 gL o0' (q0i Tryz.f39 [1,1,1,0,1,0,0])
theorem qy8 a : eL (z30 a) (
 z11 a 1
 ) :=
 cL o15' Tryz.func65
theorem qps a b c d e f g h i j k l m : eL (z27 a b c d e f g h i j k l m) (
 bif ltB e d then
 nth c e fun y0 =>
 capOk (List.length l + List.length ([y0] : List Int)) <|
 z27 a b c d (addI .i64 e 1) f g h i j k (l ++ ([y0] : List Int)) m
 else
 bif ltB 1 b then
 Option.bind (z3e ([0, 0, 1, 1, 2, 3] : List Int) f g) fun x1 =>
 z29 a b x1.1 x1.2.1 x1.2.2 h i j k l m
 else
 Option.bind (z0l 1 (addI .i64 (l.length : Int) (m.length : Int)) f g) fun x2 =>
 some ((Trust.mk x2.1 l m), x2.2.1, x2.2.2)
 ) :=
 gL o5' (q0i Tryz.f71 [1,1,1,0,1,0,0])
theorem qx2 a b c : eL (z3e a b c) (
 Option.bind (z0z (a.length : Int) b c) fun x0 =>
 nth a x0.1 fun y1 =>
 some (y1, x0.2.1, x0.2.2)
 ) :=
 cL o8' Tryz.func91
theorem qne a b c d e : eL (z0r a b c d e) (
 bif ltB c a then
 capOk (List.length b + List.length ([c] : List Int)) <|
 z0r a (b ++ ([c] : List Int)) (addI .i64 c 1) d e
 else
 z0s b (subI .i64 a 1) d e
 ) :=
 gL o10' (q0i Tryz.f19 [1,1,0,1,0,0])
theorem qnk a b c d e f g h i j k : eL (z0c a b c d e f g h i j k) (
 bif ltB h g then
 nth f h fun y0 =>
 nth j b fun y1 =>
 Option.bind (z32 y1 y0) fun x2 =>
 bif !x2 then
 nth k b fun y3 =>
 Option.bind (z32 y3 y0) fun x4 =>
 bif x4 then
 capOk (List.length a + List.length ([(Declaration.mk y0.Node y0.Seq (Trust.mk y0.Trust.Threshold y0.Trust.Nodes y0.Trust.Inner) y0.Tag)] : List Declaration)) <|
 z0c (a ++ ([(Declaration.mk y0.Node y0.Seq (Trust.mk y0.Trust.Threshold y0.Trust.Nodes y0.Trust.Inner) y0.Tag)] : List Declaration)) b c d e f g (addI .i64 h 1) i j k
 else
 z0c a b c d e f g (addI .i64 h 1) i j k
 else
 z0c a b c d e f g (addI .i64 h 1) i j k
 else
 z0k a c d (addI .i64 e 1) i j k
 ) :=
 gL o2' (q0i Tryz.f20 [1,1,1,1,0,1,0,0,1,1,0,0,1,1,0,0])
theorem qy3 a b : eL (z32 a b) (
 Option.bind (z0b a b.Node b.Seq b.Trust.Threshold b.Trust.Nodes b.Trust.Inner b.Tag) fun x0 =>
 some x0.1
 ) :=
 cL o1' Tryz.func42
theorem qxn a b c d e f g : eL (z0b a b c d e f g) (
 Option.bind (z0d a b c d e f g) fun x0 =>
 some ((leB 0 x0.1), x0.2.1, x0.2.2.1, x0.2.2.2.1, x0.2.2.2.2.1, x0.2.2.2.2.2.1, x0.2.2.2.2.2.2)
 ) :=
 cL o16' Tryz.func69
theorem qxf a b c d e f g : eL (z0d a b c d e f g) (
 z03 a (a.length : Int) 0 b c d e f g
 ) :=
 cL o17' Tryz.func90
theorem qv6 a b c d : eL (z1h a b c d) (
 bif ltB d c then
 nth b d fun y0 =>
 Option.bind (z2d y0.Trust) fun x1 =>
 capOk (List.length a + List.length ([(Declaration.mk y0.Node y0.Seq (Trust.mk x1.Threshold x1.Nodes x1.Inner) y0.Tag)] : List Declaration)) <|
 z1h (a ++ ([(Declaration.mk y0.Node y0.Seq (Trust.mk x1.Threshold x1.Nodes x1.Inner) y0.Tag)] : List Declaration)) b c (addI .i64 d 1)
 else
 some a
 ) :=
 gL o2' (q0i Tryz.f43 [1,1,0,1,0,0])
theorem qy2 a : eL (z2d a) (
 Option.bind (z1z a.Nodes) fun x0 =>
 z16 a.Inner (a.Inner.length : Int) 0 a.Threshold a.Nodes a.Inner 0 [] [] a.Threshold x0.2 []
 ) :=
 cL o18' Tryz.func53
theorem qyw (a : List Int) : Le (
 capOk (List.length ([] : List Int) + List.length a) <|
 some ((), (([] : List Int) ++ a))
 ) (z1z a) :=
 qrq (T := tn) (c := qgk Tryz.f75) (rest := q0i Tryz.f75 [1,1]) (o := ⟨[.ref 0],[[.own .i64 false]]⟩) sigOk 100000 (by kernel_rfl) Tryz.func75 (by kernel_rfl) (by kernel_rfl) (by kernel_rfl) (by kernel_rfl) (fun hx r hr => by subst hx; cases hr; exact ⟨rfl, rfl⟩)
theorem qu1 a b c d : eL (z0u a b c d) (
 bif ltB d c then
 nth b d fun y0 =>
 bif (ltB 0 (a.length : Int)) then
 nth a (subI .i64 (a.length : Int) 1) fun y1 =>
 Option.bind (z0h y1 y0) fun x2 =>
 bif eqB x2 0 then
 z05 a b c (addI .i64 d 1)
 else
 bif (ltB 1 (a.length : Int)) then
 nth a (subI .i64 (a.length : Int) 2) fun y3 =>
 bif eqB y3.Seq y0.Seq then
 z05 a b c (addI .i64 d 1)
 else
 capOk (List.length a + List.length ([(Declaration.mk y0.Node y0.Seq (Trust.mk y0.Trust.Threshold y0.Trust.Nodes y0.Trust.Inner) y0.Tag)] : List Declaration)) <|
 z05 (a ++ ([(Declaration.mk y0.Node y0.Seq (Trust.mk y0.Trust.Threshold y0.Trust.Nodes y0.Trust.Inner) y0.Tag)] : List Declaration)) b c (addI .i64 d 1)
 else
 capOk (List.length a + List.length ([(Declaration.mk y0.Node y0.Seq (Trust.mk y0.Trust.Threshold y0.Trust.Nodes y0.Trust.Inner) y0.Tag)] : List Declaration)) <|
 z05 (a ++ ([(Declaration.mk y0.Node y0.Seq (Trust.mk y0.Trust.Threshold y0.Trust.Nodes y0.Trust.Inner) y0.Tag)] : List Declaration)) b c (addI .i64 d 1)
 else
 bif (ltB 1 (a.length : Int)) then
 nth a (subI .i64 (a.length : Int) 2) fun y4 =>
 bif eqB y4.Seq y0.Seq then
 z05 a b c (addI .i64 d 1)
 else
 capOk (List.length a + List.length ([(Declaration.mk y0.Node y0.Seq (Trust.mk y0.Trust.Threshold y0.Trust.Nodes y0.Trust.Inner) y0.Tag)] : List Declaration)) <|
 z05 (a ++ ([(Declaration.mk y0.Node y0.Seq (Trust.mk y0.Trust.Threshold y0.Trust.Nodes y0.Trust.Inner) y0.Tag)] : List Declaration)) b c (addI .i64 d 1)
 else
 capOk (List.length a + List.length ([(Declaration.mk y0.Node y0.Seq (Trust.mk y0.Trust.Threshold y0.Trust.Nodes y0.Trust.Inner) y0.Tag)] : List Declaration)) <|
 z0u (a ++ ([(Declaration.mk y0.Node y0.Seq (Trust.mk y0.Trust.Threshold y0.Trust.Nodes y0.Trust.Inner) y0.Tag)] : List Declaration)) b c (addI .i64 d 1)
 else
 some a
 ) :=
 gL o2' (q0i Tryz.f58 [1,1,1,1,0,1,0,0])
theorem qya a b c d e : eL (z06 a b c d e) (
 bif leB d a then
 Option.bind (z02 c d e) fun x0 =>
 z06 a b d (addI .i64 d b) x0
 else
 Option.bind (z02 c a e) fun x1 =>
 z09 a b x1
 ) :=
 gL o4' (q0i Tryz.f97 [1,1,0,0,0])
theorem qtv a b c : eL (z02 a b c) (
 z00 a b (addI .i64 a 1) c
 ) :=
 cL o4' Tryz.func110
theorem qu0 a b c d e f g h i j k l : eL (z0m a b c d e f g h i j k l) (
 bif ltB f e then
 nth d f fun y0 =>
 nth b y0 fun y1 =>
 Option.bind (z1k a (Registry.mk j) y1) fun x2 =>
 z0m a b c d e (addI .i64 f 1) g h i x2.1.Entries k l
 else
 z0j a b (addI .i64 c 1) g h i j k l
 ) :=
 gL o1' (q0i Tryz.f4 [1,1,1,1,1,1,0,1,0,0,1,0,0,1,0,0])
theorem qul a b c d e f g : eL (z1i a b c d e f g) (
 bif ltB d c then
 nth b d fun y0 =>
 Option.bind (z2p y0) fun x1 =>
 capOk (List.length a + List.length ([x1] : List (List UInt8))) <|
 z1i (a ++ ([x1] : List (List UInt8))) b c (addI .i64 d 1) e f g
 else
 Option.bind (z0v e) fun x2 =>
 chk (List.length x2 + List.length ([32, 111, 102, 32, 40] : List UInt8) ≤ 9223372036854775807) <|
 Option.bind (z3x a ([44, 32] : List UInt8)) fun x3 =>
 chk (List.length (x2 ++ ([32, 111, 102, 32, 40] : List UInt8)) + List.length x3 ≤ 9223372036854775807) <|
 chk (List.length ((x2 ++ ([32, 111, 102, 32, 40] : List UInt8)) ++ x3) + List.length ([41] : List UInt8) ≤ 9223372036854775807) <|
 some (((x2 ++ ([32, 111, 102, 32, 40] : List UInt8)) ++ x3) ++ ([41] : List UInt8))
 ) :=
 gL o3' (q0i Tryz.f104 [1,1,1,0,1,0,0])
end Go.Proofs.YtkeiaodiibageaaGreatDoor
