/- What the functions come to, printed by a program and checked by the kernel. -/
import Derived.Test.YtkeiaodiibageaaDoorE08Df
namespace Go.Proofs.YtkeiaodiibageaaDoor
open Go Go.Ab
set_option maxRecDepth 100000
theorem qvi a : eL (z21 a) (
 z0z ([] : List (List UInt8)) a.Nodes (a.Nodes.length : Int) 0 a.Threshold a.Nodes a.Inner
 ) :=
 cL o2' Tryd.func61
theorem qvp a : eL (z09 a) (
 Option.bind (z0c a) fun x0 =>
 some (leB 0 x0)
 ) :=
 cL o1' Tryd.func73
theorem qwc a : eL (z2u a) (
 z12 0 a (a.length : Int) 0
 ) :=
 cL o6' Tryd.func76
theorem qvf a : eL (z0c a) (
 z03 a (a.length : Int) 0
 ) :=
 cL o0' Tryd.func86
theorem qss a b c d e f g : eL (z0d a b c d e f g) (
 bif ltB d c then
 Option.bind (z19 (Registry.mk g) d) fun x0 =>
 chk (0 ≤ d) <|
 bif (!(x0.2 == (eqB (andI .i64 (shrI .i64 b d) 1) 1))) then
 some false
 else
 bif x0.2 then
 bif neB x0.1.A.Node d then
 some false
 else
 Option.bind (z2m a x0.1) fun x1 =>
 bif neB x1 0 then
 some false
 else
 z0d a b c (addI .i64 d 1) e f g
 else
 z0d a b c (addI .i64 d 1) e f g
 else
 Option.bind (z1f (Registry.mk g)) fun x2 =>
 bif eqB x2 b then
 Option.bind (law08_awake) fun x3 =>
 some x3
 else
 some false
 ) :=
 gL o1' (q0v Tryd.f3 [1,1,1,1,1,1,1,0,1,0,0])
theorem qvn a c : eL (z19 a c) (
 Option.bind (z1d a) fun x0 =>
 bif neB x0 0 then
 some ((Evidence.mk (Declaration.mk 0 0 (Trust.mk 0 [] []) 0) (Declaration.mk 0 0 (Trust.mk 0 [] []) 0)), false)
 else
 bif ltB c 0 then
 some ((Evidence.mk (Declaration.mk 0 0 (Trust.mk 0 [] []) 0) (Declaration.mk 0 0 (Trust.mk 0 [] []) 0)), false)
 else
 bif (leB (a.Entries.length : Int) c) then
 some ((Evidence.mk (Declaration.mk 0 0 (Trust.mk 0 [] []) 0) (Declaration.mk 0 0 (Trust.mk 0 [] []) 0)), false)
 else
 nth a.Entries c fun y1 =>
 Option.bind (z1g y1) fun x2 =>
 bif !x2.2 then
 some ((Evidence.mk (Declaration.mk 0 0 (Trust.mk 0 [] []) 0) (Declaration.mk 0 0 (Trust.mk 0 [] []) 0)), false)
 else
 nth a.Entries c fun y3 =>
 hiK (List.length y3) (addI .i64 x2.1 2) fun b4 =>
 hiK b4 x2.1 fun b5 =>
 Option.bind (z1h (List.drop b5 (List.take b4 y3))) fun x6 =>
 nth x6 0 fun y7 =>
 nth x6 1 fun y8 =>
 some ((Evidence.mk (Declaration.mk y7.Node y7.Seq (Trust.mk y7.Trust.Threshold y7.Trust.Nodes y7.Trust.Inner) y7.Tag) (Declaration.mk y8.Node y8.Seq (Trust.mk y8.Trust.Threshold y8.Trust.Nodes y8.Trust.Inner) y8.Tag)), true)
 ) :=
 cL ⟨[.ag .Evidence, .lf .b],[]⟩ Tryd.func11
theorem qvo a b : eL (z2m a b) (
 Option.bind (z2j a b.A) fun x0 =>
 bif neB x0 0 then
 some x0
 else
 Option.bind (z2j a b.B) fun x1 =>
 bif neB x1 0 then
 some x1
 else
 bif neB b.A.Node b.B.Node then
 some 1
 else
 bif neB b.A.Seq b.B.Seq then
 some 1
 else
 Option.bind (z24 b.A b.B) fun x2 =>
 bif leB 0 x2 then
 some 7
 else
 some 0
 ) :=
 cL o0' Tryd.func12
theorem qwb a : eL (z1f a) (
 Option.bind (z1d a) fun x0 =>
 bif neB x0 0 then
 some 0
 else
 z0g 0 a.Entries (a.Entries.length : Int) 0 a.Entries
 ) :=
 cL o0' Tryd.func13
theorem law08_awake_le  : Le (
 Option.bind (z15 3) fun x0 =>
 z0s ([1, 2, 3] : List Int) ([1, 2, 1] : List Int) ((List.length ([1, 2, 1] : List Int) : Nat) : Int) 0 x0.2.2
 ) (law08_awake) :=
 cL o1' Tryd.func14
theorem qv0 a : eL (z1g a) (
 z0n a 1
 ) :=
 cL o12' Tryd.func22
theorem qw7 a : eL (z1h a) (
 z10 [] a (a.length : Int) 0
 ) :=
 cL o4' Tryd.func23
theorem qvu a b : eL (z2j a b) (
 Option.bind (z29 b) fun x0 =>
 bif neB x0 0 then
 some x0
 else
 bif (leB (a.length : Int) b.Node) then
 some 10
 else
 nth a b.Node fun y1 =>
 Option.bind (z1x b) fun x2 =>
 Option.bind (z34 y1 x2) fun x3 =>
 bif neB x3 b.Tag then
 some 8
 else
 some 0
 ) :=
 cL o0' Tryd.func24
theorem qst a b c d e f g : eL (z1q a b c d e f g) (
 bif ltB d c then
 nth b d fun y0 =>
 Option.bind (z26 y0) fun x1 =>
 z1q (addI .i64 a x1) b c (addI .i64 d 1) e f g
 else
 some a
 ) :=
 gL o0' (q0v Tryd.f39 [1,1,0,1,0,0])
theorem qsy a b c d e f g : eL (z1i a b c d e f g) (
 bif ltB d c then
 nth b d fun y0 =>
 Option.bind (z1w y0) fun x1 =>
 z1i (if x1 > a then x1 else a) b c (addI .i64 d 1) e f g
 else
 some (addI .i64 a 1)
 ) :=
 gL o0' (q0v Tryd.f40 [1,1,0,1,0,0])
theorem qpi a b c d e f g h i j k l m : eL (z1k a b c d e f g h i j k l m) (
 bif ltB e d then
 nth c e fun y0 =>
 capOk (List.length l + List.length ([y0] : List Int)) <|
 z1k a b c d (addI .i64 e 1) f g h i j k (l ++ ([y0] : List Int)) m
 else
 bif ltB 1 b then
 Option.bind (z2n ([0, 0, 1, 1, 2, 3] : List Int) f g) fun x1 =>
 z1l a b x1.1 x1.2.1 x1.2.2 h i j k l m
 else
 Option.bind (z0i 1 (addI .i64 (l.length : Int) (m.length : Int)) f g) fun x2 =>
 some ((Trust.mk x2.1 l m), x2.2.1, x2.2.2)
 ) :=
 gL o5' (q0v Tryd.f54 [1,1,1,0,1,0,0])
theorem qvl a b c : eL (z2n a b c) (
 Option.bind (z0l (a.length : Int) b c) fun x0 =>
 nth a x0.1 fun y1 =>
 some (y1, x0.2.1, x0.2.2)
 ) :=
 cL o7' Tryd.func65
theorem qtc a b c d e : eL (z13 a b c d e) (
 bif ltB c a then
 capOk (List.length b + List.length ([c] : List Int)) <|
 z13 a (b ++ ([c] : List Int)) (addI .i64 c 1) d e
 else
 z14 b (subI .i64 a 1) d e
 ) :=
 gL o8' (q0v Tryd.f64 [1,1,0,1,0,0])
theorem qmr a b c d e f : eL (z0r a b c d e f) (
 bif ltB c b then
 nth a c fun y0 =>
 bif ltB y0 0 then
 some 5
 else
 bif leB 10 y0 then
 some 5
 else
 z0r a b (addI .i64 c 1) d e f
 else
 Option.bind (z2y e) fun x1 =>
 bif neB x1.2 0 then
 some x1.2
 else
 z0t f (f.length : Int) 0 d e f
 ) :=
 gL o0' (q0v Tryd.f55 [1,1,0,1,0,0])
theorem qv6 a : eL (z2y a) (
 z1m 0 a (a.length : Int) 0
 ) :=
 cL o6' Tryd.func66
theorem qsw a b c d e f g h : eL (z1r a b c d e f g h) (
 bif ltB e d then
 nth c e fun y0 =>
 chk (List.length a + List.length b ≤ 9223372036854775807) <|
 Option.bind (z0k y0) fun x1 =>
 chk (List.length (a ++ b) + List.length x1 ≤ 9223372036854775807) <|
 z1r ((a ++ b) ++ x1) ([44, 32] : List UInt8) c d (addI .i64 e 1) f g h
 else
 z1s a b h (h.length : Int) 0 f g h
 ) :=
 gL o2' (q0v Tryd.f43 [1,1,1,0,1,0,0])
theorem qta a b c d : eL (z0x a b c d) (
 bif ltB c b then
 nth a c fun y0 =>
 Option.bind (z2g c y0) fun x1 =>
 bif neB x1 0 then
 some x1
 else
 z0x a b (addI .i64 c 1) d
 else
 some 0
 ) :=
 gL o0' (q0v Tryd.f19 [1,1,0,1,0,0])
theorem qw8 a b : eL (z2g a b) (
 z0h a b b (b.length : Int) 0
 ) :=
 cL o0' Tryd.func31
theorem qsv a b c d e f : eL (z0m a b c d e f) (
 bif ltB b a then
 nth c b fun y0 =>
 nth d b fun y1 =>
 Option.bind (z27 y0 y1) fun x2 =>
 Option.bind (z1h x2) fun x3 =>
 nth f b fun _ =>
 nthN f (Int.toNat b) fun _y4 =>
 z0m a (addI .i64 b 1) c d e (List.set f (Int.toNat b) x3)
 else
 some (Registry.mk f)
 ) :=
 gL o11' (q0v Tryd.f21 [1,1,0,1,0,0])
theorem qv2 a b : eL (z27 a b) (
 Option.bind (z23 ([a, b] : List (List Declaration))) fun x0 =>
 Option.bind (z06 x0.2) fun x1 =>
 z0j [] x1 (x1.length : Int) 0
 ) :=
 cL o4' Tryd.func35
theorem qx1 a : eL (z06 a) (
 Option.bind (z07 (a.length : Int) a) fun x0 =>
 some x0
 ) :=
 cL o3' Tryd.func51
theorem qwn a b : eL (z07 a b) (
 z05 a 20 0 20 b
 ) :=
 cL o3' Tryd.func63
theorem qsn a b c d e f g : eL (z0o a b c d e f g) (
 bif ltB d c then
 nth b d fun y0 =>
 Option.bind (z18 y0) fun x1 =>
 z0o (if x1 > a then x1 else a) b c (addI .i64 d 1) e f g
 else
 some (addI .i64 a 1)
 ) :=
 gL o0' (q0v Tryd.f46 [1,1,0,1,0,0])
theorem qsi a b c d e f g : eL (z0y a b c d e f g) (
 bif ltB d c then
 nth b d fun y0 =>
 Option.bind (z1e y0) fun x1 =>
 z0y (addI .i64 a x1) b c (addI .i64 d 1) e f g
 else
 some a
 ) :=
 gL o0' (q0v Tryd.f47 [1,1,0,1,0,0])
theorem qtn a b c d e f : eL (z0p a b c d e f) (
 bif ltB c b then
 nth a c fun y0 =>
 Option.bind (z1o y0) fun x1 =>
 bif neB x1 0 then
 some x1
 else
 z0p a b (addI .i64 c 1) d e f
 else
 some 0
 ) :=
 gL o0' (q0v Tryd.f60 [1,1,1,1,0,1,0,0])
theorem qtm a b c d e f g : eL (z0z a b c d e f g) (
 bif ltB d c then
 nth b d fun y0 =>
 Option.bind (z0k y0) fun x1 =>
 capOk (List.length a + List.length ([x1] : List (List UInt8))) <|
 z0z (a ++ ([x1] : List (List UInt8))) b c (addI .i64 d 1) e f g
 else
 z11 a g (g.length : Int) 0 e f g
 ) :=
 gL o2' (q0v Tryd.f61 [1,1,0,1,0,0])
theorem qm0 a b c d : eL (z12 a b c d) (
 bif ltB d c then
 nth b d fun y0 =>
 bif ltB y0 0 then
 some (0, 5)
 else
 bif leB 10 y0 then
 some (0, 5)
 else
 Option.bind (z2q a y0) fun x1 =>
 bif x1 then
 some (0, 6)
 else
 chk (0 ≤ y0) <|
 z12 (orI .i64 a (shlI .i64 1 y0)) b c (addI .i64 d 1)
 else
 some (a, 0)
 ) :=
 gL o6' (q0v Tryd.f76 [1,1,0,1,0,0])
theorem qwr a b : eL (z2q a b) (
 Option.bind (z2h a) fun x0 =>
 bif x0 then
 bif leB 0 b then
 bif ltB b 10 then
 chk (0 ≤ b) <|
 some (neB (andI .i64 a (shlI .i64 1 b)) 0)
 else
 some false
 else
 some false
 else
 some false
 ) :=
 cL o1' Tryd.func87
theorem qwg a : eL (z2h a) (
 Option.bind (z2i a 10) fun x0 =>
 some x0
 ) :=
 cL o1' Tryd.func95
theorem qwy a b : eL (z2i a b) (
 bif leB 0 a then
 chk (0 ≤ b) <|
 some (ltB a (shlI .i64 1 b))
 else
 some false
 ) :=
 cL o1' Tryd.func99
theorem qqo a b c : eL (z03 a b c) (
 bif ltB c b then
 nth a c fun y0 =>
 Option.bind (z1u y0) fun x1 =>
 bif x1 then
 some c
 else
 z03 a b (addI .i64 c 1)
 else
 some (-1)
 ) :=
 gL o0' (q0v Tryd.f86 [1,0,1,0,0])
theorem qw5 a : eL (z1u a) (
 Option.bind (z2c a) fun x0 =>
 some (!x0)
 ) :=
 cL o1' Tryd.func74
theorem qx3 a : eL (z2c a) (
 bif leB 0 a then
 some (ltB a 10)
 else
 some false
 ) :=
 cL o1' Tryd.func75
theorem qqn a b c d e : eL (z0g a b c d e) (
 bif ltB d c then
 nth b d fun y0 =>
 Option.bind (z1g y0) fun x1 =>
 bif x1.2 then
 chk (0 ≤ d) <|
 z0g (orI .i64 a (shlI .i64 1 d)) b c (addI .i64 d 1) e
 else
 z0g a b c (addI .i64 d 1) e
 else
 some a
 ) :=
 gL o0' (q0v Tryd.f13 [1,1,1,0,1,0,0])
theorem qsz a b c d e : eL (z0s a b c d e) (
 bif ltB d c then
 nth b d fun y0 =>
 Option.bind (law08_declared (Registry.mk e) 2) fun x1 =>
 Option.bind (z2o 3 2 y0 (Trust.mk 1 ([(remI .i64 (x1.length : Int) 3)] : List Int) [])) fun x2 =>
 Option.bind (z2b a (Registry.mk e) x2.1) fun x3 =>
 bif neB x3.2 0 then
 some false
 else
 z0s a b c (addI .i64 d 1) x3.1.Entries
 else
 Option.bind (z1f (Registry.mk e)) fun x4 =>
 bif eqB x4 4 then
 Option.bind (law08_declared (Registry.mk e) 2) fun x5 =>
 some (eqB (x5.length : Int) 3)
 else
 some false
 ) :=
 gL o1' (q0v Tryd.f14 [1,1,1,0,1,0,0])
theorem law08_declared_le a b : eL (law08_declared a b) (
 bif (leB (a.Entries.length : Int) b) then
 some []
 else
 nth a.Entries b fun y0 =>
 some y0
 ) :=
 cL o4' Tryd.func26
end Go.Proofs.YtkeiaodiibageaaDoor
