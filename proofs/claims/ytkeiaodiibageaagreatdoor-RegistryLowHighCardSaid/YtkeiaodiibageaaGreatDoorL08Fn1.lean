/- What the functions come to, printed by a program and checked by the kernel. -/
import Derived.Test.YtkeiaodiibageaaGreatDoorL08Df
namespace Go.Proofs.YtkeiaodiibageaaGreatDoor
open Go Go.Ab
set_option maxRecDepth 100000
theorem qrs a : eL (z23 a) (
 Option.bind (z2m a) fun x0 =>
 bif ltB 4 x0 then
 some 3
 else
 Option.bind (z2x a) fun x1 =>
 bif ltB 200 x1 then
 some 3
 else
 Option.bind (z32 a) fun x2 =>
 some x2
 ) :=
 cL o0' Tryz.func61
theorem qzt a : eL (z2m a) (
 z2j 0 a.Inner (a.Inner.length : Int) 0 a.Threshold a.Nodes a.Inner
 ) :=
 cL o0' Tryz.func46
theorem y18 a : eL (z2x a) (
 z2s (addI .i64 (a.Nodes.length : Int) (a.Inner.length : Int)) a.Inner (a.Inner.length : Int) 0 a.Threshold a.Nodes a.Inner
 ) :=
 cL o0' Tryz.func45
theorem qz7 a : eL (z13 a) (
 Option.bind (z3s a) fun x0 =>
 some x0
 ) :=
 cL o2' Tryz.func85
theorem y0i a : eL (z4b a) (
 Option.bind (z23 a) fun x0 =>
 bif neB x0 0 then
 some ([63] : List UInt8)
 else
 Option.bind (z41 a) fun x1 =>
 some x1
 ) :=
 cL o2' Tryz.func86
theorem qta a : eL (z32 a) (
 bif ltB a.Threshold 1 then
 some 4
 else
 bif (ltB (addI .i64 (a.Nodes.length : Int) (a.Inner.length : Int)) a.Threshold) then
 some 4
 else
 z1k a.Nodes (a.Nodes.length : Int) 0 a.Threshold a.Nodes a.Inner
 ) :=
 cL o0' Tryz.func84
theorem y0x a : eL (z3s a) (
 Option.bind (z4f a 10) fun x0 =>
 some x0
 ) :=
 cL o2' Tryz.func102
theorem qza a : eL (z41 a) (
 Option.bind (z13 a.Threshold) fun x0 =>
 chk (List.length x0 + List.length ([32, 111, 102, 32, 40] : List UInt8) ≤ 9223372036854775807) <|
 z2t (x0 ++ ([32, 111, 102, 32, 40] : List UInt8)) [] a.Nodes (a.Nodes.length : Int) 0 a.Threshold a.Nodes a.Inner
 ) :=
 cL o2' Tryz.func103
theorem qnh a b c d e f g : eL (z0m a b c d e f g) (
 bif ltB d c then
 nth b d fun y0 =>
 bif (ltB 0 (y0.length : Int)) then
 chk (0 ≤ d) <|
 bif (eqB (andI .i64 a (shlI .i64 1 d)) 0) then
 nth y0 (subI .i64 (y0.length : Int) 1) fun y1 =>
 chk (0 ≤ (e.length : Int)) <|
 Option.bind (z2h y1.Trust) fun x2 =>
 bif (ltB x2 (shlI .i64 1 (e.length : Int))) then
 nth y0 (subI .i64 (y0.length : Int) 1) fun y3 =>
 Option.bind (z1u y3.Trust) fun x4 =>
 capOk (List.length g + List.length ([(Member.mk true (Trust.mk x4.Threshold x4.Nodes x4.Inner))] : List Member)) <|
 z0m a b c (addI .i64 d 1) e f (g ++ ([(Member.mk true (Trust.mk x4.Threshold x4.Nodes x4.Inner))] : List Member))
 else
 capOk (List.length g + List.length ([(Member.mk false (Trust.mk 0 [] []))] : List Member)) <|
 z0m a b c (addI .i64 d 1) e f (g ++ ([(Member.mk false (Trust.mk 0 [] []))] : List Member))
 else
 capOk (List.length g + List.length ([(Member.mk false (Trust.mk 0 [] []))] : List Member)) <|
 z0m a b c (addI .i64 d 1) e f (g ++ ([(Member.mk false (Trust.mk 0 [] []))] : List Member))
 else
 capOk (List.length g + List.length ([(Member.mk false (Trust.mk 0 [] []))] : List Member)) <|
 z0m a b c (addI .i64 d 1) e f (g ++ ([(Member.mk false (Trust.mk 0 [] []))] : List Member))
 else
 some (Config.mk g)
 ) :=
 gL o14' (q0h Tryz.f26 [1,1,1,1,0,1,0,0])
theorem y1s a : eL (z2h a) (
 z18 0 a.Nodes (a.Nodes.length : Int) 0 a.Threshold a.Nodes a.Inner
 ) :=
 cL o0' Tryz.func52
theorem y0j a : eL (z1u a) (
 Option.bind (z2a a.Nodes) fun x0 =>
 z1f a.Inner (a.Inner.length : Int) 0 a.Threshold a.Nodes a.Inner 0 [] [] a.Threshold x0.2 []
 ) :=
 cL o19' Tryz.func53
theorem y1a (a : List Int) : Le (
 capOk (List.length ([] : List Int) + List.length a) <|
 some ((), (([] : List Int) ++ a))
 ) (z2a a) :=
 qtz (T := tn) (c := qho Tryz.f75) (rest := q0h Tryz.f75 [1,1]) (o := ⟨[.ref 0],[[.own .i64 false]]⟩) sigOk 100000 (by kernel_rfl) Tryz.func75 (by kernel_rfl) (by kernel_rfl) (by kernel_rfl) (by kernel_rfl) (fun hx r hr => by subst hx; cases hr; exact ⟨rfl, rfl⟩)
theorem qnr a b c d e : eL (z0k a b c d e) (
 bif ltB 0 c then
 Option.bind (z3d a d e) fun x0 =>
 bif (ltB 0 (b.length : Int)) then
 Option.bind (z0r 4 x0.2.1 x0.2.2) fun x1 =>
 bif eqB x1.1 0 then
 Option.bind (z0r (b.length : Int) x1.2.1 x1.2.2) fun x2 =>
 nth b x2.1 fun _ =>
 nthN b (Int.toNat x2.1) fun y3 =>
 capOk (List.length b + List.length ([(Declaration.mk y3.Node y3.Seq (Trust.mk y3.Trust.Threshold y3.Trust.Nodes y3.Trust.Inner) y3.Tag)] : List Declaration)) <|
 z0k a (b ++ ([(Declaration.mk y3.Node y3.Seq (Trust.mk y3.Trust.Threshold y3.Trust.Nodes y3.Trust.Inner) y3.Tag)] : List Declaration)) (subI .i64 c 1) x2.2.1 x2.2.2
 else
 capOk (List.length b + List.length ([(Declaration.mk x0.1.Node x0.1.Seq (Trust.mk x0.1.Trust.Threshold x0.1.Trust.Nodes x0.1.Trust.Inner) x0.1.Tag)] : List Declaration)) <|
 z0k a (b ++ ([(Declaration.mk x0.1.Node x0.1.Seq (Trust.mk x0.1.Trust.Threshold x0.1.Trust.Nodes x0.1.Trust.Inner) x0.1.Tag)] : List Declaration)) (subI .i64 c 1) x1.2.1 x1.2.2
 else
 capOk (List.length b + List.length ([(Declaration.mk x0.1.Node x0.1.Seq (Trust.mk x0.1.Trust.Threshold x0.1.Trust.Nodes x0.1.Trust.Inner) x0.1.Tag)] : List Declaration)) <|
 z0k a (b ++ ([(Declaration.mk x0.1.Node x0.1.Seq (Trust.mk x0.1.Trust.Threshold x0.1.Trust.Nodes x0.1.Trust.Inner) x0.1.Tag)] : List Declaration)) (subI .i64 c 1) x0.2.1 x0.2.2
 else
 some (b, d, e)
 ) :=
 gL o15' (q0h Tryz.f16 [1,1,0,1,0,0])
theorem y15 a b c : eL (z3d a b c) (
 Option.bind (z0r (a.length : Int) b c) fun x0 =>
 nth a x0.1 fun y1 =>
 Option.bind (z0u 1 4 x0.2.1 x0.2.2) fun x2 =>
 Option.bind (z3b (a.length : Int) x2.2.1 x2.2.2) fun x3 =>
 Option.bind (z42 y1 x0.1 x2.1 x3.1) fun x4 =>
 some ((Declaration.mk x4.1.Node x4.1.Seq (Trust.mk x4.1.Trust.Threshold x4.1.Trust.Nodes x4.1.Trust.Inner) x4.1.Tag), x3.2.1, x3.2.2)
 ) :=
 cL o24' Tryz.func40
theorem qrl a b c : eL (z3b a b c) (
 Option.bind (z48 a 2 b c) fun x0 =>
 Option.bind (z2x x0.1) fun x1 =>
 bif ltB 40 x1 then
 some ((Trust.mk 1 ([0] : List Int) []), x0.2.1, x0.2.2)
 else
 Option.bind (z2m x0.1) fun x2 =>
 bif ltB 3 x2 then
 some ((Trust.mk 1 ([0] : List Int) []), x0.2.1, x0.2.2)
 else
 some ((Trust.mk x0.1.Threshold x0.1.Nodes x0.1.Inner), x0.2.1, x0.2.2)
 ) :=
 cL o6' Tryz.func66
theorem qzf a b c d : eL (z42 a b c d) (
 Option.bind (z2z (Declaration.mk b c (Trust.mk d.Threshold d.Nodes d.Inner) 0)) fun x0 =>
 bif neB x0 0 then
 some ((Declaration.mk 0 0 (Trust.mk 0 [] []) 0), x0)
 else
 Option.bind (z30 (Declaration.mk b c (Trust.mk d.Threshold d.Nodes d.Inner) 0)) fun x1 =>
 Option.bind (z4l a x1) fun x2 =>
 some ((Declaration.mk b c (Trust.mk d.Threshold d.Nodes d.Inner) x2), 0)
 ) :=
 cL o25' Tryz.func37
theorem qxc a b c d : eL (z48 a b c d) (
 Option.bind (z3w a b c d) fun x0 =>
 Option.bind (z23 x0.1) fun x1 =>
 bif neB x1 0 then
 Option.bind (z0r a x0.2.1 x0.2.2) fun x2 =>
 some ((Trust.mk 1 ([x2.1] : List Int) []), x2.2.1, x2.2.2)
 else
 some ((Trust.mk x0.1.Threshold x0.1.Nodes x0.1.Inner), x0.2.1, x0.2.2)
 ) :=
 cL o6' Tryz.func44
theorem qx3 a b c d : eL (z3w a b c d) (
 Option.bind (z3j a c d) fun x0 =>
 Option.bind (z0u 1 (if 5 < a then 5 else a) x0.2.1 x0.2.2) fun x1 =>
 hiK (List.length x0.1) x1.1 fun b2 =>
 z2n a b (List.drop 0 (List.take b2 x0.1)) ((List.length (List.drop 0 (List.take b2 x0.1)) : Nat) : Int) 0 x1.2.1 x1.2.2 0 [] [] 0 [] []
 ) :=
 cL o6' Tryz.func71
theorem qzk a b c : eL (z3j a b c) (
 z1x a [] 0 b c
 ) :=
 cL o11' Tryz.func19
theorem qw6 a b c d : eL (z1n a b c d) (
 bif ltB c b then
 nth a c fun y0 =>
 Option.bind (z3k c y0) fun x1 =>
 bif neB x1 0 then
 some x1
 else
 z1n a b (addI .i64 c 1) d
 else
 some 0
 ) :=
 gL o0' (q0h Tryz.f13 [1,1,0,1,0,0])
theorem y0p a b : eL (z3k a b) (
 z0x a b b (b.length : Int) 0
 ) :=
 cL o0' Tryz.func34
theorem qsa a b c d e : eL (z0t a b c d e) (
 bif ltB d c then
 nth b d fun y0 =>
 Option.bind (z3e y0) fun x1 =>
 bif x1.2 then
 chk (0 ≤ d) <|
 z0t (orI .i64 a (shlI .i64 1 d)) b c (addI .i64 d 1) e
 else
 z0t a b c (addI .i64 d 1) e
 else
 some a
 ) :=
 gL o0' (q0h Tryz.f39 [1,1,1,0,1,0,0])
theorem y1x a : eL (z3e a) (
 z19 a 1
 ) :=
 cL o20' Tryz.func65
theorem qo1 a b c d e f g h : eL (z0i a b c d e f g h) (
 bif ltB 0 f then
 Option.bind (z48 a 2 g h) fun x0 =>
 Option.bind (z2x x0.1) fun x1 =>
 bif ltB 40 x1 then
 bif (ltB 0 (e.length : Int)) then
 Option.bind (z0r 4 x0.2.1 x0.2.2) fun x2 =>
 bif eqB x2.1 0 then
 nth e 0 fun _ =>
 nthN e (Int.toNat 0) fun y3 =>
 capOk (List.length e + List.length ([(Trust.mk y3.Threshold y3.Nodes y3.Inner)] : List Trust)) <|
 z0i a b c d (e ++ ([(Trust.mk y3.Threshold y3.Nodes y3.Inner)] : List Trust)) (subI .i64 f 1) x2.2.1 x2.2.2
 else
 capOk (List.length e + List.length ([(Trust.mk 1 ([d] : List Int) [])] : List Trust)) <|
 z0i a b c d (e ++ ([(Trust.mk 1 ([d] : List Int) [])] : List Trust)) (subI .i64 f 1) x2.2.1 x2.2.2
 else
 capOk (List.length e + List.length ([(Trust.mk 1 ([d] : List Int) [])] : List Trust)) <|
 z0i a b c d (e ++ ([(Trust.mk 1 ([d] : List Int) [])] : List Trust)) (subI .i64 f 1) x0.2.1 x0.2.2
 else
 Option.bind (z2m x0.1) fun x4 =>
 bif ltB 3 x4 then
 bif (ltB 0 (e.length : Int)) then
 Option.bind (z0r 4 x0.2.1 x0.2.2) fun x5 =>
 bif eqB x5.1 0 then
 nth e 0 fun _ =>
 nthN e (Int.toNat 0) fun y6 =>
 capOk (List.length e + List.length ([(Trust.mk y6.Threshold y6.Nodes y6.Inner)] : List Trust)) <|
 z0i a b c d (e ++ ([(Trust.mk y6.Threshold y6.Nodes y6.Inner)] : List Trust)) (subI .i64 f 1) x5.2.1 x5.2.2
 else
 capOk (List.length e + List.length ([(Trust.mk 1 ([d] : List Int) [])] : List Trust)) <|
 z0i a b c d (e ++ ([(Trust.mk 1 ([d] : List Int) [])] : List Trust)) (subI .i64 f 1) x5.2.1 x5.2.2
 else
 capOk (List.length e + List.length ([(Trust.mk 1 ([d] : List Int) [])] : List Trust)) <|
 z0i a b c d (e ++ ([(Trust.mk 1 ([d] : List Int) [])] : List Trust)) (subI .i64 f 1) x0.2.1 x0.2.2
 else
 bif (ltB 0 (e.length : Int)) then
 Option.bind (z0r 4 x0.2.1 x0.2.2) fun x7 =>
 bif eqB x7.1 0 then
 nth e 0 fun _ =>
 nthN e (Int.toNat 0) fun y8 =>
 capOk (List.length e + List.length ([(Trust.mk y8.Threshold y8.Nodes y8.Inner)] : List Trust)) <|
 z0i a b c d (e ++ ([(Trust.mk y8.Threshold y8.Nodes y8.Inner)] : List Trust)) (subI .i64 f 1) x7.2.1 x7.2.2
 else
 capOk (List.length e + List.length ([(Trust.mk x0.1.Threshold x0.1.Nodes x0.1.Inner)] : List Trust)) <|
 z0i a b c d (e ++ ([(Trust.mk x0.1.Threshold x0.1.Nodes x0.1.Inner)] : List Trust)) (subI .i64 f 1) x7.2.1 x7.2.2
 else
 capOk (List.length e + List.length ([(Trust.mk x0.1.Threshold x0.1.Nodes x0.1.Inner)] : List Trust)) <|
 z0i a b c d (e ++ ([(Trust.mk x0.1.Threshold x0.1.Nodes x0.1.Inner)] : List Trust)) (subI .i64 f 1) x0.2.1 x0.2.2
 else
 capOk (List.length c + List.length ([e] : List (List Trust))) <|
 z2q a b (c ++ ([e] : List (List Trust))) (addI .i64 d 1) g h
 ) :=
 gL o10' (q0h Tryz.f21 [1,1,0,1,0,0,1,0,0,1,0,1,0,0])
theorem qsz a b c d : eL (z0p a b c d) (
 bif ltB d c then
 nth b d fun y0 =>
 Option.bind (z1d y0) fun x1 =>
 bif neB x1 0 then
 some ([], x1)
 else
 Option.bind (z0d y0 a) fun x2 =>
 bif !x2.2.1 then
 Option.bind (z1u y0) fun x3 =>
 Option.bind (z3t x2.1 ([(Trust.mk x3.Threshold x3.Nodes x3.Inner)] : List Trust) x2.2.2) fun x4 =>
 z0p x4.2.2 b c (addI .i64 d 1)
 else
 z0p x2.2.2 b c (addI .i64 d 1)
 else
 bif (ltB 4 (a.length : Int)) then
 some ([], 3)
 else
 some (a, 0)
 ) :=
 gL o16' (q0h Tryz.f72 [1,1,0,1,0,0])
theorem y1f a : eL (z1d a) (
 Option.bind (z24 a) fun x0 =>
 bif ltB 4 x0 then
 some 3
 else
 Option.bind (z2i a) fun x1 =>
 bif ltB 200 x1 then
 some 3
 else
 Option.bind (z2r a) fun x2 =>
 some x2
 ) :=
 cL o0' Tryz.func78
theorem y1h a b : eL (z0d a b) (
 z01 (b.length : Int) 0 (b.length : Int) b a.Threshold a.Nodes a.Inner
 ) :=
 cL o21' Tryz.func92
theorem qz8 a : eL (z24 a) (
 z1g 0 a.Inner (a.Inner.length : Int) 0 a.Threshold a.Nodes a.Inner
 ) :=
 cL o0' Tryz.func79
theorem qzh a : eL (z2i a) (
 z1q (addI .i64 (a.Nodes.length : Int) (a.Inner.length : Int)) a.Inner (a.Inner.length : Int) 0 a.Threshold a.Nodes a.Inner
 ) :=
 cL o0' Tryz.func80
theorem y1k a : eL (z2r a) (
 bif ltB a.Threshold 1 then
 some 4
 else
 bif (ltB (addI .i64 (a.Nodes.length : Int) (a.Inner.length : Int)) a.Threshold) then
 some 4
 else
 Option.bind (z0f a.Nodes) fun x0 =>
 bif x0 then
 some 5
 else
 Option.bind (z4c a.Nodes) fun x1 =>
 bif neB x1.2 0 then
 some x1.2
 else
 z1h a.Inner (a.Inner.length : Int) 0 a.Threshold a.Nodes a.Inner
 ) :=
 cL o0' Tryz.func98
theorem y0l a : eL (z0f a) (
 Option.bind (z0l a) fun x0 =>
 some (leB 0 x0)
 ) :=
 cL o1' Tryz.func112
theorem y0o a : eL (z4c a) (
 z1w 0 a (a.length : Int) 0
 ) :=
 cL o8' Tryz.func114
theorem qzi a : eL (z0l a) (
 z05 a (a.length : Int) 0
 ) :=
 cL o0' Tryz.func119
theorem qw5 a b c d : eL (z0w a b c d) (
 bif ltB c b then
 nth a c fun y0 =>
 Option.bind (z25 y0 (d.length : Int)) fun x1 =>
 bif neB x1 0 then
 some x1
 else
 z0w a b (addI .i64 c 1) d
 else
 some 0
 ) :=
 gL o0' (q0h Tryz.f73 [1,1,0,1,0,0])
theorem y08 a b : eL (z25 a b) (
 bif !a.Declared then
 Option.bind (z2b a.Trust) fun x0 =>
 bif !x0 then
 some 1
 else
 some 0
 else
 Option.bind (z1d a.Trust) fun x1 =>
 bif neB x1 0 then
 some x1
 else
 chk (0 ≤ b) <|
 Option.bind (z2h a.Trust) fun x2 =>
 bif leB (shlI .i64 1 b) x2 then
 some 5
 else
 some 0
 ) :=
 cL o0' Tryz.func95
theorem y1n a : eL (z2b a) (
 bif eqB a.Threshold 0 then
 bif (eqB (a.Nodes.length : Int) 0) then
 some (eqB (a.Inner.length : Int) 0)
 else
 some false
 else
 some false
 ) :=
 cL o1' Tryz.func109
theorem qx6 a b c d e f g h i j k l m n o p q : eL (z0j a b c d e f g h i j k l m n o p q) (
 bif ltB m l then
 nth k m fun y0 =>
 bif f then
 bif g then
 Option.bind (z0y y0 e) fun x1 =>
 z0j a b c d e true x1 h i j k l (addI .i64 m 1) n o p q
 else
 z0j a b c d e true false h i j k l (addI .i64 m 1) n o p q
 else
 Option.bind (z0y y0 e) fun x2 =>
 bif g then
 Option.bind (z0y y0 e) fun x3 =>
 z0j a b c d e x2 x3 h i j k l (addI .i64 m 1) n o p q
 else
 z0j a b c d e x2 false h i j k l (addI .i64 m 1) n o p q
 else
 nth p b fun y4 =>
 Option.bind (z0y y4.Trust e) fun x5 =>
 bif !(x5 == f) then
 some false
 else
 nth q b fun y6 =>
 Option.bind (z0y y6.Trust e) fun x7 =>
 bif !(x7 == g) then
 some false
 else
 z0o a b c (addI .i64 d 1) h i j n o p q
 ) :=
 gL o1' (q0h Tryz.f6 [1,1,1,1,1,1,1,0,1,0,0,1,1,0,0,1,1,0,0,1,0,0,1,1,0,1,0,0])
theorem y0k a b : eL (z0y a b) (
 Option.bind (z3p b) fun x0 =>
 bif !x0 then
 some false
 else
 z0z b 0 a.Nodes (a.Nodes.length : Int) 0 a.Threshold a.Nodes a.Inner
 ) :=
 cL o1' Tryz.func25
theorem y0n a : eL (z3p a) (
 bif leB 0 a then
 some (leB a 1023)
 else
 some false
 ) :=
 cL o1' Tryz.func50
theorem qt0 a b c d e f g h i j k l m n o : eL (z17 a b c d e f g h i j k l m n o) (
 bif (ltB b (a.length : Int)) then
 nth a (subI .i64 b 1) fun y0 =>
 nth a b fun y1 =>
 bif eqB y0.Seq y1.Seq then
 nth a (subI .i64 b 1) fun y2 =>
 nth a b fun y3 =>
 some ((Evidence.mk (Declaration.mk y2.Node y2.Seq (Trust.mk y2.Trust.Threshold y2.Trust.Nodes y2.Trust.Inner) y2.Tag) (Declaration.mk y3.Node y3.Seq (Trust.mk y3.Trust.Threshold y3.Trust.Nodes y3.Trust.Inner) y3.Tag)), true)
 else
 z17 a (addI .i64 b 1) c d e f g h i j k l m n o
 else
 some ((Evidence.mk (Declaration.mk 0 0 (Trust.mk 0 [] []) 0) (Declaration.mk 0 0 (Trust.mk 0 [] []) 0)), false)
 ) :=
 gL o17' (q0h Tryz.f27 [1,1,1,0,1,0,0])
end Go.Proofs.YtkeiaodiibageaaGreatDoor
