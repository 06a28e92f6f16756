/- What the functions come to, printed by a program and checked by the kernel. -/
import Derived.Test.YtkeiaodiibageaaGreatDoorL08Df
namespace Go.Proofs.YtkeiaodiibageaaGreatDoor
open Go Go.Ab
set_option maxRecDepth 100000
theorem law08_RegistryLowHigh_le a : eL (law08_RegistryLowHigh a) (
 Option.bind (z4j a) fun x0 =>
 Option.bind (z0u 1 5 x0.2.1 x0.2.2) fun x1 =>
 Option.bind (z4d x1.1 4 x1.2.1 x1.2.2) fun x2 =>
 Option.bind (z3u x2.1) fun x3 =>
 Option.bind (z3h x2.1) fun x4 =>
 bif neB x3.2 0 then
 some false
 else
 bif neB x4.2 0 then
 some false
 else
 bif (neB (x3.1.Members.length : Int) x1.1) then
 some false
 else
 bif (neB (x4.1.Members.length : Int) x1.1) then
 some false
 else
 z0n x1.1 x2.1 (x2.1.length : Int) 0 x2.2.1 x2.2.2 x3.1.Members x4.1.Members
 ) :=
 cL o1' Tryz.func6
theorem qwl a : eL (z4j a) (
 hiK (List.length a) (if 400 < (a.length : Int) then 400 else (a.length : Int)) fun b0 =>
 some ((), (List.drop 0 (List.take b0 a)), 0)
 ) :=
 cL o23' Tryz.func7
theorem qzl a b c d : eL (z0u a b c d) (
 Option.bind (z0r (addI .i64 (subI .i64 b a) 1) c d) fun x0 =>
 some ((addI .i64 a x0.1), x0.2.1, x0.2.2)
 ) :=
 cL o9' Tryz.func9
theorem y16 a b c d : eL (z4d a b c d) (
 z2q a b ([] : List (List Trust)) 0 c d
 ) :=
 cL o10' Tryz.func21
theorem y0v a : eL (z3u a) (
 Option.bind (z15 a) fun x0 =>
 some ((Config.mk x0.1.Members), x0.2)
 ) :=
 cL o5' Tryz.func22
theorem qzu a : eL (z3h a) (
 Option.bind (z11 a) fun x0 =>
 some ((Config.mk x0.1.Members), x0.2)
 ) :=
 cL o5' Tryz.func23
theorem qrk a b c : eL (z0r a b c) (
 bif (leB (b.length : Int) c) then
 some (0, b, c)
 else
 nth b c fun y0 =>
 chk (a ≠ 0) <|
 bif ltB (remI .i64 y0 a) 0 then
 some ((addI .i64 (remI .i64 y0 a) a), b, (addI .i64 c 1))
 else
 some ((remI .i64 y0 a), b, (addI .i64 c 1))
 ) :=
 cL o9' Tryz.func24
theorem qzr a : eL (z15 a) (
 bif (ltB 10 (a.length : Int)) then
 some ((Config.mk []), 3)
 else
 z09 a (a.length : Int) 0 [] []
 ) :=
 cL o5' Tryz.func47
theorem y0u a : eL (z11 a) (
 bif (ltB 10 (a.length : Int)) then
 some ((Config.mk []), 3)
 else
 z07 a (a.length : Int) 0 [] []
 ) :=
 cL o5' Tryz.func47
theorem qvs a b c d e f g h : eL (z0n a b c d e f g h) (
 bif ltB d c then
 nth b d fun y0 =>
 z0o a d y0 0 b c d e f g h
 else
 Option.bind (z4k a e f) fun x1 =>
 Option.bind (z43 x1.1 8 x1.2.1 x1.2.2) fun x2 =>
 Option.bind (z3i x2.1) fun x3 =>
 bif (neB (x3.Members.length : Int) a) then
 some false
 else
 z0h x2.1.Entries (x2.1.Entries.length : Int) 0 x2.2.1 x2.2.2 g h x2.1.Entries x3.Members
 ) :=
 gL o1' (q0h Tryz.f6 [1,1,1,1,1,1,1,0,1,0,0])
theorem qz2 a b c : eL (z4k a b c) (
 z3g a [] 0 b c
 ) :=
 cL o12' Tryz.func8
theorem y07 a b c d : eL (z43 a b c d) (
 Option.bind (z44 (a.length : Int)) fun x0 =>
 Option.bind (z39 a b c d) fun x1 =>
 z2g a x1.1 (x1.1.length : Int) 0 x1.2.1 x1.2.2 ([] : List (List Declaration)) x0.2.2
 ) :=
 cL o13' Tryz.func10
theorem y0s a : eL (z3i a) (
 Option.bind (z2d a) fun x0 =>
 bif neB x0 0 then
 some (Config.mk [])
 else
 Option.bind (z2e a) fun x1 =>
 z0m x1 a.Entries (a.Entries.length : Int) 0 a.Entries [] []
 ) :=
 cL o14' Tryz.func26
theorem qzb a : eL (z44 a) (
 bif ltB a 1 then
 some ((), (), ([] : List (List Declaration)))
 else
 bif ltB 10 a then
 some ((), (), ([] : List (List Declaration)))
 else
 chk (a = a ∧ 0 ≤ a ∧ a ≤ 65536) <|
 some ((), (), (List.replicate (Int.toNat a) []))
 ) :=
 cL o7' Tryz.func29
theorem y0z a b c d : eL (z39 a b c d) (
 Option.bind (z0r (addI .i64 b 1) c d) fun x0 =>
 z0k a [] x0.1 x0.2.1 x0.2.2
 ) :=
 cL o15' Tryz.func16
theorem qzd a : eL (z2d a) (
 bif (ltB 10 (a.Entries.length : Int)) then
 some 3
 else
 z1n a.Entries (a.Entries.length : Int) 0 a.Entries
 ) :=
 cL o0' Tryz.func13
theorem y1w a : eL (z2e a) (
 Option.bind (z2d a) fun x0 =>
 bif neB x0 0 then
 some 0
 else
 z0t 0 a.Entries (a.Entries.length : Int) 0 a.Entries
 ) :=
 cL o0' Tryz.func39
theorem qvw a b c d e f : eL (z2q a b c d e f) (
 bif ltB d a then
 Option.bind (z0u 1 b e f) fun x0 =>
 z0i a b c d [] x0.1 x0.2.1 x0.2.2
 else
 some (c, e, f)
 ) :=
 gL o10' (q0h Tryz.f21 [1,1,0,1,0,0])
theorem qw2 a b c d e : eL (z09 a b c d e) (
 bif ltB c b then
 nth a c fun y0 =>
 Option.bind (z1z y0) fun x1 =>
 bif neB x1.2 0 then
 some ((Config.mk []), x1.2)
 else
 bif (eqB (x1.1.length : Int) 1) then
 nth x1.1 0 fun y2 =>
 capOk (List.length e + List.length ([(Member.mk true (Trust.mk y2.Threshold y2.Nodes y2.Inner))] : List Member)) <|
 z09 a b (addI .i64 c 1) d (e ++ ([(Member.mk true (Trust.mk y2.Threshold y2.Nodes y2.Inner))] : List Member))
 else
 bif (ltB 1 (x1.1.length : Int)) then
 Option.bind (z3z (x1.1.length : Int)) fun x3 =>
 capOk (List.length e + List.length ([(Member.mk true (Trust.mk x3 [] x1.1))] : List Member)) <|
 z09 a b (addI .i64 c 1) d (e ++ ([(Member.mk true (Trust.mk x3 [] x1.1))] : List Member))
 else
 capOk (List.length e + List.length ([(Member.mk false (Trust.mk 0 [] []))] : List Member)) <|
 z09 a b (addI .i64 c 1) d (e ++ ([(Member.mk false (Trust.mk 0 [] []))] : List Member))
 else
 Option.bind (z1c (Config.mk e)) fun x4 =>
 bif neB x4 0 then
 some ((Config.mk []), x4)
 else
 some ((Config.mk e), 0)
 ) :=
 gL o5' (q0h Tryz.f47 [1,1,1,0,1,0,0])
theorem y09 a : eL (z1z a) (
 z0p [] a (a.length : Int) 0
 ) :=
 cL o16' Tryz.func72
theorem qz6 a : eL (z3z a) (
 some 1
 ) :=
 cL o0' Tryz.func48
theorem qzm a : eL (z1c a) (
 bif (ltB 10 (a.Members.length : Int)) then
 some 3
 else
 z0w a.Members (a.Members.length : Int) 0 a.Members
 ) :=
 cL o0' Tryz.func73
theorem qx4 a b c d e : eL (z07 a b c d e) (
 bif ltB c b then
 nth a c fun y0 =>
 Option.bind (z1z y0) fun x1 =>
 bif neB x1.2 0 then
 some ((Config.mk []), x1.2)
 else
 bif (eqB (x1.1.length : Int) 1) then
 nth x1.1 0 fun y2 =>
 capOk (List.length e + List.length ([(Member.mk true (Trust.mk y2.Threshold y2.Nodes y2.Inner))] : List Member)) <|
 z07 a b (addI .i64 c 1) d (e ++ ([(Member.mk true (Trust.mk y2.Threshold y2.Nodes y2.Inner))] : List Member))
 else
 bif (ltB 1 (x1.1.length : Int)) then
 Option.bind (z3r (x1.1.length : Int)) fun x3 =>
 capOk (List.length e + List.length ([(Member.mk true (Trust.mk x3 [] x1.1))] : List Member)) <|
 z07 a b (addI .i64 c 1) d (e ++ ([(Member.mk true (Trust.mk x3 [] x1.1))] : List Member))
 else
 capOk (List.length e + List.length ([(Member.mk false (Trust.mk 0 [] []))] : List Member)) <|
 z07 a b (addI .i64 c 1) d (e ++ ([(Member.mk false (Trust.mk 0 [] []))] : List Member))
 else
 Option.bind (z1c (Config.mk e)) fun x4 =>
 bif neB x4 0 then
 some ((Config.mk []), x4)
 else
 some ((Config.mk e), 0)
 ) :=
 gL o5' (q0h Tryz.f47 [1,1,1,0,1,0,0])
theorem y1o a : eL (z3r a) (
 some a
 ) :=
 cL o0' Tryz.func49
theorem qvv a b c d e f g h i j k : eL (z0o a b c d e f g h i j k) (
 bif ltB d 12 then
 chk (0 ≤ a) <|
 Option.bind (z0r (shlI .i64 1 a) h i) fun x0 =>
 z0j a b c d x0.1 false true e f g c (c.length : Int) 0 x0.2.1 x0.2.2 j k
 else
 z0n a e f (addI .i64 g 1) h i j k
 ) :=
 gL o1' (q0h Tryz.f6 [1,1,1,1,1,1,1,0,1,0,0,1,1,0,0,1,1,0,0])
theorem qwe a b c d e f g h i : eL (z0h a b c d e f g h i) (
 bif ltB c b then
 nth a c fun y0 =>
 Option.bind (z3c (Registry.mk h) c) fun x1 =>
 bif (ltB 0 (y0.length : Int)) then
 nth i c fun y2 =>
 bif (!(y2.Declared == (!x1.2))) then
 some false
 else
 nth i c fun y3 =>
 bif y3.Declared then
 nth y0 (subI .i64 (y0.length : Int) 1) fun y4 =>
 nth i c fun y5 =>
 Option.bind (z2l y5.Trust y4.Trust) fun x6 =>
 bif !x6 then
 some false
 else
 z0h a b (addI .i64 c 1) d e f g h i
 else
 z0h a b (addI .i64 c 1) d e f g h i
 else
 nth i c fun y7 =>
 bif !(y7.Declared == false) then
 some false
 else
 nth i c fun y8 =>
 bif y8.Declared then
 nth y0 (subI .i64 (y0.length : Int) 1) fun y9 =>
 nth i c fun y10 =>
 Option.bind (z2l y10.Trust y9.Trust) fun x11 =>
 bif !x11 then
 some false
 else
 z0h a b (addI .i64 c 1) d e f g h i
 else
 z0h a b (addI .i64 c 1) d e f g h i
 else
 Option.bind (law08_awake) fun x12 =>
 some x12
 ) :=
 gL o1' (q0h Tryz.f6 [1,1,1,1,1,1,1,1,1,1,1,1,0,1,0,0])
theorem y0d a b : eL (z3c a b) (
 Option.bind (z3o a) fun x0 =>
 bif neB x0 0 then
 some ((Evidence.mk (Declaration.mk 0 0 (Trust.mk 0 [] []) 0) (Declaration.mk 0 0 (Trust.mk 0 [] []) 0)), false)
 else
 bif ltB b 0 then
 some ((Evidence.mk (Declaration.mk 0 0 (Trust.mk 0 [] []) 0) (Declaration.mk 0 0 (Trust.mk 0 [] []) 0)), false)
 else
 bif (leB (a.Entries.length : Int) b) then
 some ((Evidence.mk (Declaration.mk 0 0 (Trust.mk 0 [] []) 0) (Declaration.mk 0 0 (Trust.mk 0 [] []) 0)), false)
 else
 nth a.Entries b fun y1 =>
 z17 y1 1 a.Entries 0 0 0 [] [] 0 0 0 0 [] [] 0
 ) :=
 cL o17' Tryz.func27
theorem qov a b : eL (z2l a b) (
 bif neB a.Threshold b.Threshold then
 some false
 else
 Option.bind (z40 a.Nodes b.Nodes) fun x0 =>
 bif !x0 then
 some false
 else
 bif (neB (a.Inner.length : Int) (b.Inner.length : Int)) then
 some false
 else
 z1v (a.Inner.length : Int) 0 a.Threshold a.Nodes a.Inner b.Threshold b.Nodes b.Inner
 ) :=
 cL o1' Tryz.func28
theorem law08_awake_le  : Le (
 Option.bind (z2f 3) fun x0 =>
 z1j ([1, 2, 3] : List Int) ([1, 2, 1] : List Int) ((List.length ([1, 2, 1] : List Int) : Nat) : Int) 0 x0.2.2
 ) (law08_awake) :=
 cL o1' Tryz.func15
theorem y0r a : eL (z3o a) (
 bif (ltB 10 (a.Entries.length : Int)) then
 some 3
 else
 z21 a.Entries (a.Entries.length : Int) 0 a.Entries
 ) :=
 cL o0' Tryz.func14
theorem qwz a b : eL (z40 a b) (
 bif (neB (a.length : Int) (b.length : Int)) then
 some false
 else
 z28 a b (a.length : Int) 0
 ) :=
 cL o1' Tryz.func54
theorem y0m a : eL (z2f a) (
 bif ltB a 1 then
 some ((), (), ([] : List (List Declaration)))
 else
 bif ltB 10 a then
 some ((), (), ([] : List (List Declaration)))
 else
 chk (a = a ∧ 0 ≤ a ∧ a ≤ 65536) <|
 some ((), (), (List.replicate (Int.toNat a) []))
 ) :=
 cL o7' Tryz.func17
theorem qwg a b c d e : eL (z3g a b c d e) (
 bif ltB c a then
 Option.bind (z0r 1000 d e) fun x0 =>
 capOk (List.length b + List.length ([(addI .u64 (mulI .u64 (IntKind.wrap .u64 x0.1) 2654435761) (mulI .u64 (IntKind.wrap .u64 c) 97))] : List Int)) <|
 z3g a (b ++ ([(addI .u64 (mulI .u64 (IntKind.wrap .u64 x0.1) 2654435761) (mulI .u64 (IntKind.wrap .u64 c) 97))] : List Int)) (addI .i64 c 1) x0.2.1 x0.2.2
 else
 some (b, d, e)
 ) :=
 gL o12' (q0h Tryz.f8 [1,1,0,1,0,0])
theorem qwp a b c d e f g h : eL (z2g a b c d e f g h) (
 bif ltB d c then
 nth b d fun y0 =>
 Option.bind (z4e a (Registry.mk h) y0) fun x1 =>
 z2g a b c (addI .i64 d 1) e f g x1.1.Entries
 else
 some ((Registry.mk h), e, f)
 ) :=
 gL o13' (q0h Tryz.f10 [1,1,0,1,0,0])
theorem y0q a b c : eL (z4e a b c) (
 Option.bind (z3o b) fun x0 =>
 bif neB x0 0 then
 some ((Registry.mk ([] : List (List Declaration))), x0)
 else
 Option.bind (z45 a c) fun x1 =>
 bif neB x1 0 then
 some ((Registry.mk ([] : List (List Declaration))), x1)
 else
 bif (leB (b.Entries.length : Int) c.Node) then
 some ((Registry.mk ([] : List (List Declaration))), 5)
 else
 Option.bind (z3v b) fun x2 =>
 nth x2.2.2 c.Node fun _ =>
 nthN x2.2.2 (Int.toNat c.Node) fun y3 =>
 Option.bind (z49 y3 c) fun x4 =>
 nth x2.2.2 c.Node fun _ =>
 nthN x2.2.2 (Int.toNat c.Node) fun _y5 =>
 some ((Registry.mk (List.set x2.2.2 (Int.toNat c.Node) x4)), 0)
 ) :=
 cL o18' Tryz.func30
theorem y1i a b : eL (z45 a b) (
 Option.bind (z2z b) fun x0 =>
 bif neB x0 0 then
 some x0
 else
 bif (leB (a.length : Int) b.Node) then
 some 10
 else
 nth a b.Node fun y1 =>
 Option.bind (z30 b) fun x2 =>
 Option.bind (z4l y1 x2) fun x3 =>
 bif neB x3 b.Tag then
 some 8
 else
 some 0
 ) :=
 cL o0' Tryz.func55
theorem y1j a : eL (z3v a) (
 chk ((a.Entries.length : Int) = (a.Entries.length : Int) ∧ 0 ≤ (a.Entries.length : Int) ∧ (a.Entries.length : Int) ≤ 65536) <|
 z26 a.Entries (a.Entries.length : Int) 0 a.Entries ([] : List (List Declaration)) (List.replicate (Int.toNat (a.Entries.length : Int)) [])
 ) :=
 cL o7' Tryz.func56
theorem y0f a b : eL (z49 a b) (
 z14 a [] false a (a.length : Int) 0 b.Node b.Seq b.Trust.Threshold b.Trust.Nodes b.Trust.Inner b.Tag
 ) :=
 cL o3' Tryz.func57
theorem y11 a : eL (z2z a) (
 bif ltB a.Node 0 then
 some 5
 else
 bif leB 10 a.Node then
 some 5
 else
 bif ltB a.Seq 1 then
 some 1
 else
 bif ltB 30 a.Seq then
 some 1
 else
 Option.bind (z23 a.Trust) fun x0 =>
 bif neB x0 0 then
 some x0
 else
 Option.bind (z2m a.Trust) fun x1 =>
 bif ltB 3 x1 then
 some 3
 else
 Option.bind (z2x a.Trust) fun x2 =>
 bif ltB 40 x2 then
 some 3
 else
 some 0
 ) :=
 cL o0' Tryz.func35
theorem y0c a : eL (z30 a) (
 Option.bind (z2z a) fun x0 =>
 bif neB x0 0 then
 some []
 else
 Option.bind (z13 a.Node) fun x1 =>
 chk (List.length ([100, 32] : List UInt8) + List.length x1 ≤ 9223372036854775807) <|
 chk (List.length (([100, 32] : List UInt8) ++ x1) + List.length ([32] : List UInt8) ≤ 9223372036854775807) <|
 Option.bind (z13 a.Seq) fun x2 =>
 chk (List.length ((([100, 32] : List UInt8) ++ x1) ++ ([32] : List UInt8)) + List.length x2 ≤ 9223372036854775807) <|
 chk (List.length (((([100, 32] : List UInt8) ++ x1) ++ ([32] : List UInt8)) ++ x2) + List.length ([32] : List UInt8) ≤ 9223372036854775807) <|
 Option.bind (z4b a.Trust) fun x3 =>
 chk (List.length ((((([100, 32] : List UInt8) ++ x1) ++ ([32] : List UInt8)) ++ x2) ++ ([32] : List UInt8)) + List.length x3 ≤ 9223372036854775807) <|
 some (((((([100, 32] : List UInt8) ++ x1) ++ ([32] : List UInt8)) ++ x2) ++ ([32] : List UInt8)) ++ x3)
 ) :=
 cL o2' Tryz.func62
end Go.Proofs.YtkeiaodiibageaaGreatDoor
