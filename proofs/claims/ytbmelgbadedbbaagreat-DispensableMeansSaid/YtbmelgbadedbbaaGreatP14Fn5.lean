/- What the functions come to, printed by a program and checked by the kernel. -/
import Derived.Test.YtbmelgbadedbbaaGreatP14Df
namespace Go.Proofs.YtbmelgbadedbbaaGreat
open Go Go.Ab
set_option maxRecDepth 100000
theorem y0q (a1 : Int) (a3 : List Int) (a5 a7 a9 : Int) (a11 : List Int) (a13 : List Trust) : Le (
 bif (ltB a7 a5) then
 nth a3 a7 fun y0 =>
 Option.bind (z4v y0) fun x1 =>
 bif x1 then
 chk (0 ≤ y0) <|
 z2m (orI .i64 a1 (shlI .i64 1 y0)) a3 a5 (addI .i64 a7 1) a9 a11 a13
 else
 z2m a1 a3 a5 (addI .i64 a7 1) a9 a11 a13
 else
 z2n a1 a13 ((List.length a13 : Nat) : Int) 0 a9 a11 a13
 ) (z2m a1 a3 a5 a7 a9 a11 a13) :=
 gL o0' (q01 Tryz.f112 [1,1,0,1,0,0])
theorem qqy (a0 a2 a4 : Int) : Le (
 Option.bind (z2h a4 a0) fun x0 =>
 bif x0 then
 Option.bind (z4z a4) fun x1 =>
 bif (eqB x1 a2) then
 some (a4, true)
 else
 z2p a0 a2 (addI .i64 a4 1)
 else
 bif (eqB a2 a0) then
 some (0, false)
 else
 chk (0 ≤ (addI .i64 a2 1)) <|
 some ((subI .i64 (shlI .i64 1 (addI .i64 a2 1)) 1), true)
 ) (z2p a0 a2 a4) :=
 gL o15' (q01 Tryz.f105 [1,1,1,0,1,0,0])
theorem qz1 (a0 : Int) (a3 : List Int) (a5 : List Member) : Le (
 Option.bind (z32 (Config.mk a5) a0) fun x0 =>
 bif (!x0.2) then
 some (a0, a3)
 else
 capOk (List.length a3 + List.length ([x0.1] : List (Int))) <|
 chk (0 ≤ x0.1) <|
 z2d (q3c .i64 a0 (shlI .i64 1 x0.1)) (a3 ++ ([x0.1] : List (Int))) a5
 ) (z2d a0 a3 a5) :=
 gL o22' (q01 Tryz.f134 [1,1,1,1,0,0])
theorem y0w (a2 a4 a6 a8 : Int) (a10 a12 : List Member) : Le (
 Option.bind (z3x (Config.mk a10)) fun x0 =>
 bif (leB a4 x0) then
 nth a12 a2 fun y1 =>
 Option.bind (z27 y1.Trust a4) fun x2 =>
 bif x2 then
 nth a10 a2 fun y3 =>
 Option.bind (z27 y3.Trust a4) fun x4 =>
 bif (!x4) then
 some 14
 else
 z3h a2 (addI .i64 a4 1) a6 a8 a10 a12
 else
 z3h a2 (addI .i64 a4 1) a6 a8 a10 a12
 else
 z2y a6 (addI .i64 a8 1) a10 a12
 ) (z3h a2 a4 a6 a8 a10 a12) :=
 gL o0' (q01 Tryz.f23 [1,1,1,1,1,0,1,0,0,1,1,0,0,1,1,1,0,0])
theorem y1c (a0 a3 : Int) (a5 : List Trust) (a7 a9 a11 : Int) (a13 : List Int) (a15 : List Trust) : Le (
 bif (ltB a9 a7) then
 nth a5 a9 fun y0 =>
 Option.bind (z27 y0 a0) fun x1 =>
 bif x1 then
 z1z a0 (addI .i64 a3 1) a5 a7 (addI .i64 a9 1) a11 a13 a15
 else
 z1z a0 a3 a5 a7 (addI .i64 a9 1) a11 a13 a15
 else
 some (leB a11 a3)
 ) (z1z a0 a3 a5 a7 a9 a11 a13 a15) :=
 gL o1' (q01 Tryz.f63 [1,1,1,1,0,1,0,0])
theorem y0y (a0 a3 : Int) (a5 : List Trust) (a7 a9 a11 : Int) (a13 : List Int) (a15 : List Trust) : Le (
 bif (ltB a9 a7) then
 nth a5 a9 fun y0 =>
 Option.bind (z1t y0 a0) fun x1 =>
 bif x1 then
 z1e a0 (addI .i64 a3 1) a5 a7 (addI .i64 a9 1) a11 a13 a15
 else
 z1e a0 a3 a5 a7 (addI .i64 a9 1) a11 a13 a15
 else
 some (leB a11 a3)
 ) (z1e a0 a3 a5 a7 a9 a11 a13 a15) :=
 gL o1' (q01 Tryz.f83 [1,1,1,1,0,1,0,0])
theorem y0s (a2 a4 a6 : Int) (a8 : List Int) (a10 : List Trust) (a12 : Int) (a14 : List Int) (a16 : List Trust) : Le (
 bif (ltB a4 a2) then
 nth a10 a4 fun y0 =>
 nth a16 a4 fun y1 =>
 Option.bind (z4m y0 y1) fun x2 =>
 bif (!x2) then
 some false
 else
 z37 a2 (addI .i64 a4 1) a6 a8 a10 a12 a14 a16
 else
 some true
 ) (z37 a2 a4 a6 a8 a10 a12 a14 a16) :=
 gL o1' (q01 Tryz.f90 [1,1,0,1,0,0])
theorem qzg (a1 : Int) (a3 : List Int) (a5 a7 a9 : Int) (a11 : List Int) (a13 : List Trust) : Le (
 bif (ltB a7 a5) then
 nth a3 a7 fun y0 =>
 bif (leB 0 y0) then
 bif (ltB y0 10) then
 chk (0 ≤ y0) <|
 z2x (orI .i64 a1 (shlI .i64 1 y0)) a3 a5 (addI .i64 a7 1) a9 a11 a13
 else
 z2x a1 a3 a5 (addI .i64 a7 1) a9 a11 a13
 else
 z2x a1 a3 a5 (addI .i64 a7 1) a9 a11 a13
 else
 z41 a1 a13 ((List.length a13 : Nat) : Int) 0 a9 a11 a13
 ) (z2x a1 a3 a5 a7 a9 a11 a13) :=
 gL o0' (q01 Tryz.f92 [1,1,0,1,0,0])
theorem qty (a0 a2 : List Int) (a4 a6 : Int) : Le (
 bif (ltB a6 a4) then
 nth a0 a6 fun y0 =>
 nth a2 a6 fun y1 =>
 bif (neB y0 y1) then
 some false
 else
 z40 a0 a2 a4 (addI .i64 a6 1)
 else
 some true
 ) (z40 a0 a2 a4 a6) :=
 gL o1' (q01 Tryz.f114 [1,1,0,1,0,0])
theorem y3j (a0 : Int) (a2 : List Int) (a4 a6 : Int) (a8 : List Member) : Le (
 bif (ltB a6 a4) then
 nth a2 a6 fun y0 =>
 chk (0 ≤ y0) <|
 z3w (subI .i64 a0 (shlI .i64 1 y0)) a2 a4 (addI .i64 a6 1) a8
 else
 some a0
 ) (z3w a0 a2 a4 a6 a8) :=
 gL o0' (q01 Tryz.f95 [1,1,1,0,1,0,0])
theorem y5h (a1 : Int) (a3 : List Int) (a5 : Bool) (a7 : List Member) : Le (
 bif a5 then
 Option.bind (z57 a1) fun x0 =>
 z20 a1 a3 false x0 ((List.length x0 : Nat) : Int) 0 a7
 else
 some a3
 ) (z2e a1 a3 a5 a7) :=
 gL o3' (q01 Tryz.f118 [1,1,1,1,0,1,0,0])
theorem qzk (a0 : Int) (a2 : List Int) (a4 a6 : Int) : Le (
 bif (leB a6 a0) then
 bif (eqB (andI .i64 a6 a0) a6) then
 Option.bind (z5w a6) fun x0 =>
 bif (eqB x0 a4) then
 capOk (List.length a2 + List.length ([a6] : List (Int))) <|
 z2f a0 (a2 ++ ([a6] : List (Int))) a4 (addI .i64 a6 1)
 else
 z2f a0 a2 a4 (addI .i64 a6 1)
 else
 z2f a0 a2 a4 (addI .i64 a6 1)
 else
 z2t a0 a2 (addI .i64 a4 1)
 ) (z2f a0 a2 a4 a6) :=
 gL o3' (q01 Tryz.f66 [1,1,0,1,0,0,1,0,0,1,0,0])
theorem qzh (a0 a2 a4 : Int) : Le (
 bif (ltB a4 10) then
 Option.bind (z22 a0) fun x0 =>
 bif x0 then
 chk (0 ≤ a4) <|
 z4h a0 (addI .i64 a2 (andI .i64 (shrI .i64 a0 a4) 1)) (addI .i64 a4 1)
 else
 some a2
 else
 some a2
 ) (z4h a0 a2 a4) :=
 gL o0' (q01 Tryz.f93 [1,1,0,1,0,0])
theorem qzx (a0 : Bool) (a4 : List Trust) (a6 : List (List Trust)) (a8 a10 : Int) (a12 : List Trust) (a14 a16 : Int) (a18 a20 : List Member) : Le (
 bif (ltB a16 a14) then
 nth a12 a16 fun y0 =>
 Option.bind (z33 y0) fun x1 =>
 bif (neB x1 0) then
 some ((Config.mk ([] : List (Member))), x1)
 else
 z3q a0 a4 a6 a8 a10 a12 a14 (addI .i64 a16 1) a18 a20
 else
 Option.bind (z3r a4) fun x2 =>
 bif (ltB 4 ((List.length x2 : Nat) : Int)) then
 some ((Config.mk ([] : List (Member))), 3)
 else
 bif (eqB ((List.length x2 : Nat) : Int) 1) then
 nth x2 0 fun y3 =>
 capOk (List.length a20 + List.length ([(Member.mk true (Trust.mk y3.Threshold y3.Nodes y3.Inner))] : List (Member))) <|
 z1y a0 a6 a8 (addI .i64 a10 1) a18 (a20 ++ ([(Member.mk true (Trust.mk y3.Threshold y3.Nodes y3.Inner))] : List (Member)))
 else
 bif (ltB 1 ((List.length x2 : Nat) : Int)) then
 bif a0 then
 capOk (List.length a20 + List.length ([(Member.mk true (Trust.mk ((List.length x2 : Nat) : Int) ([] : List (Int)) x2))] : List (Member))) <|
 z1y a0 a6 a8 (addI .i64 a10 1) a18 (a20 ++ ([(Member.mk true (Trust.mk ((List.length x2 : Nat) : Int) ([] : List (Int)) x2))] : List (Member)))
 else
 capOk (List.length a20 + List.length ([(Member.mk true (Trust.mk 1 ([] : List (Int)) x2))] : List (Member))) <|
 z1y a0 a6 a8 (addI .i64 a10 1) a18 (a20 ++ ([(Member.mk true (Trust.mk 1 ([] : List (Int)) x2))] : List (Member)))
 else
 capOk (List.length a20 + List.length ([(Member.mk false (Trust.mk 0 ([] : List (Int)) ([] : List (Trust))))] : List (Member))) <|
 z1y a0 a6 a8 (addI .i64 a10 1) a18 (a20 ++ ([(Member.mk false (Trust.mk 0 ([] : List (Int)) ([] : List (Trust))))] : List (Member)))
 ) (z3q a0 a4 a6 a8 a10 a12 a14 a16 a18 a20) :=
 gL o14' (q01 Tryz.f76 [1,1,1,0,1,0,0,1,1,0,0,1,0,1,0,0])
theorem y5j (l_0 : List Trust) : Le (
 z21 ([] : List (Trust)) l_0 ((List.length l_0 : Nat) : Int) 0
 ) (z3r l_0) :=
 cL o12' Tryz.func98
theorem qt2 (a1 a3 : Int) (a6 : List Trust) (a8 a11 : Int) (a13 : List Int) (a15 a17 : Int) (a19 : List Int) (a21 : List Trust) (a23 : Int) (a25 : List Int) (a27 : List Trust) : Le (
 bif (ltB a11 a1) then
 capOk (List.length a25 + List.length ([a11] : List (Int))) <|
 z4o a1 a3 a6 a8 (addI .i64 a11 3) a13 a15 a17 a19 a21 a23 (a25 ++ ([a11] : List (Int))) a27
 else
 bif (ltB 0 ((List.length a25 : Nat) : Int)) then
 Option.bind (z1i 1 ((List.length a25 : Nat) : Int) a13 a15) fun x0 =>
 capOk (List.length a6 + List.length ([(Trust.mk x0.1 a25 a27)] : List (Trust))) <|
 z2k a1 a3 (a6 ++ ([(Trust.mk x0.1 a25 a27)] : List (Trust))) (addI .i64 a8 1) x0.2.1 x0.2.2 a17 a19 a21
 else
 z2k a1 a3 a6 (addI .i64 a8 1) a13 a15 a17 a19 a21
 ) (z4o a1 a3 a6 a8 a11 a13 a15 a17 a19 a21 a23 a25 a27) :=
 gL o7' (q01 Tryz.f75 [1,1,0,1,0,0,1,0,0,1,0,1,0,0])
theorem qqb (a1 a3 a7 : Int) (a9 : List Int) (a11 a13 : Int) (a15 : List Int) (a17 : List Trust) (a19 : Int) (a21 : List Int) (a23 : List Trust) : Le (
 bif (ltB 0 a7) then
 Option.bind (z5p a1 (subI .i64 a3 1) a9 a11) fun x0 =>
 capOk (List.length a23 + List.length ([(Trust.mk x0.1.Threshold x0.1.Nodes x0.1.Inner)] : List (Trust))) <|
 z49 a1 a3 (subI .i64 a7 1) x0.2.1 x0.2.2 a13 a15 a17 a19 a21 (a23 ++ ([(Trust.mk x0.1.Threshold x0.1.Nodes x0.1.Inner)] : List (Trust)))
 else
 bif (ltB 0 ((List.length a23 : Nat) : Int)) then
 Option.bind (z14 3 a9 a11) fun x1 =>
 bif (eqB x1.1 0) then
 Option.bind (z1i 1 (addI .i64 ((List.length ([] : List (Int)) : Nat) : Int) ((List.length a23 : Nat) : Int)) x1.2.1 x1.2.2) fun x2 =>
 some ((Trust.mk x2.1 ([] : List (Int)) a23), x2.2.1, x2.2.2)
 else
 Option.bind (z1i 1 (addI .i64 ((List.length a21 : Nat) : Int) ((List.length a23 : Nat) : Int)) x1.2.1 x1.2.2) fun x3 =>
 some ((Trust.mk x3.1 a21 a23), x3.2.1, x3.2.2)
 else
 Option.bind (z1i 1 (addI .i64 ((List.length a21 : Nat) : Int) ((List.length a23 : Nat) : Int)) a9 a11) fun x4 =>
 some ((Trust.mk x4.1 a21 a23), x4.2.1, x4.2.2)
 ) (z49 a1 a3 a7 a9 a11 a13 a15 a17 a19 a21 a23) :=
 gL o7' (q01 Tryz.f97 [1,1,1,1,0,1,0,0,1,0,0])
theorem y0f (a1 : List Int) (a3 : Int) (a5 : List Int) (a7 : Int) : Le (
 bif (ltB 0 a3) then
 Option.bind (z14 (addI .i64 a3 1) a5 a7) fun x0 =>
 nth a1 x0.1 fun _ =>
 nth a1 a3 fun _ =>
 nthN a1 (Int.toNat x0.1) fun y1 =>
 nthN a1 (Int.toNat a3) fun y2 =>
 nth a1 a3 fun _ =>
 nthN a1 (Int.toNat a3) fun _y3 =>
 nth (List.set a1 (Int.toNat a3) y1) x0.1 fun _ =>
 nthN (List.set a1 (Int.toNat a3) y1) (Int.toNat x0.1) fun _y4 =>
 z3a (List.set (List.set a1 (Int.toNat a3) y1) (Int.toNat x0.1) y2) (subI .i64 a3 1) x0.2.1 x0.2.2
 else
 some (a1, a5, a7)
 ) (z3a a1 a3 a5 a7) :=
 gL o18' (q01 Tryz.f120 [1,1,1,0,1,0,0])
theorem qke (a0 : List Trust) (a2 a4 a6 : Int) (a8 : List Int) (a10 : List Trust) : Le (
 bif (ltB a4 a2) then
 nth a0 a4 fun y0 =>
 Option.bind (z3k y0) fun x1 =>
 bif (neB x1 0) then
 some x1
 else
 z1p a0 a2 (addI .i64 a4 1) a6 a8 a10
 else
 some 0
 ) (z1p a0 a2 a4 a6 a8 a10) :=
 gL o0' (q01 Tryz.f117 [1,1,1,1,0,1,0,0])
theorem qd4 (a0 : Int) (a2 : List Int) (a4 a6 : Int) : Le (
 bif (ltB a6 a4) then
 nth a2 a6 fun y0 =>
 bif (ltB y0 0) then
 some (0, 5)
 else
 bif (leB 10 y0) then
 some (0, 5)
 else
 Option.bind (z4n a0 y0) fun x1 =>
 bif x1 then
 some (0, 6)
 else
 chk (0 ≤ y0) <|
 z29 (orI .i64 a0 (shlI .i64 1 y0)) a2 a4 (addI .i64 a6 1)
 else
 some (a0, 0)
 ) (z29 a0 a2 a4 a6) :=
 gL o10' (q01 Tryz.f140 [1,1,0,1,0,0])
theorem y4m (a1 a3 a6 : Int) (a8 : List Int) : Le (
 bif (ltB a6 a3) then
 z0g a1 a3 a6 a6 a8
 else
 some a8
 ) (z0d a1 a3 a6 a8) :=
 gL o2' (q01 Tryz.f122 [1,0,0])
theorem qz8 (a2 a4 a6 a8 : Int) (a10 : List Int) : Le (
 bif (leB 0 a8) then
 Option.bind (z10 a8 a6 a2 a10) fun x0 =>
 z0o a2 a4 a6 (subI .i64 a8 1) x0
 else
 z0p a2 a4 (subI .i64 a6 1) a10
 ) (z0o a2 a4 a6 a8 a10) :=
 gL o2' (q01 Tryz.f123 [1,1,1,0,1,0,0])
theorem y3v (lo_1 hi_2 first_3 : Int) (h0 : List Int) : Le (
 z0c hi_2 first_3 lo_1 h0
 ) (z10 lo_1 hi_2 first_3 h0) :=
 cL o2' Tryz.func142
theorem y1i (a1 a3 a6 a8 : Int) (a10 : List Int) (a12 : Int) : Le (
 bif (leB a8 (addI .i64 (addI .i64 a1 (mulI .i64 (quoI .i64 a3 4) 2)) 1)) then
 Option.bind (z3s a12) fun x0 =>
 bif (leB a3 (IntKind.wrap .i64 (andI .u64 x0.1 (subI .u64 a6 1)))) then
 nth a10 (addI .i64 a1 (subI .i64 (IntKind.wrap .i64 (andI .u64 x0.1 (subI .u64 a6 1))) a3)) fun _ =>
 nth a10 a8 fun _ =>
 nthN a10 (Int.toNat (addI .i64 a1 (subI .i64 (IntKind.wrap .i64 (andI .u64 x0.1 (subI .u64 a6 1))) a3))) fun y1 =>
 nthN a10 (Int.toNat a8) fun y2 =>
 nth a10 a8 fun _ =>
 nthN a10 (Int.toNat a8) fun _y3 =>
 nth (List.set a10 (Int.toNat a8) y1) (addI .i64 a1 (subI .i64 (IntKind.wrap .i64 (andI .u64 x0.1 (subI .u64 a6 1))) a3)) fun _ =>
 nthN (List.set a10 (Int.toNat a8) y1) (Int.toNat (addI .i64 a1 (subI .i64 (IntKind.wrap .i64 (andI .u64 x0.1 (subI .u64 a6 1))) a3))) fun _y4 =>
 z0b a1 a3 a6 (addI .i64 a8 1) (List.set (List.set a10 (Int.toNat a8) y1) (Int.toNat (addI .i64 a1 (subI .i64 (IntKind.wrap .i64 (andI .u64 x0.1 (subI .u64 a6 1))) a3))) y2) x0.2
 else
 nth a10 (addI .i64 a1 (IntKind.wrap .i64 (andI .u64 x0.1 (subI .u64 a6 1)))) fun _ =>
 nth a10 a8 fun _ =>
 nthN a10 (Int.toNat (addI .i64 a1 (IntKind.wrap .i64 (andI .u64 x0.1 (subI .u64 a6 1))))) fun y5 =>
 nthN a10 (Int.toNat a8) fun y6 =>
 nth a10 a8 fun _ =>
 nthN a10 (Int.toNat a8) fun _y7 =>
 nth (List.set a10 (Int.toNat a8) y5) (addI .i64 a1 (IntKind.wrap .i64 (andI .u64 x0.1 (subI .u64 a6 1)))) fun _ =>
 nthN (List.set a10 (Int.toNat a8) y5) (Int.toNat (addI .i64 a1 (IntKind.wrap .i64 (andI .u64 x0.1 (subI .u64 a6 1))))) fun _y8 =>
 z0b a1 a3 a6 (addI .i64 a8 1) (List.set (List.set a10 (Int.toNat a8) y5) (Int.toNat (addI .i64 a1 (IntKind.wrap .i64 (andI .u64 x0.1 (subI .u64 a6 1))))) y6) x0.2
 else
 some a10
 ) (z0b a1 a3 a6 a8 a10 a12) :=
 gL o2' (q01 Tryz.f124 [1,1,0,1,1,1,0,0])
theorem y7g (h0 : Int) : Le (
 some ((xorI .u64 (xorI .u64 (xorI .u64 h0 (shlI .u64 h0 13)) (shrI .u64 (xorI .u64 h0 (shlI .u64 h0 13)) 7)) (shlI .u64 (xorI .u64 (xorI .u64 h0 (shlI .u64 h0 13)) (shrI .u64 (xorI .u64 h0 (shlI .u64 h0 13)) 7)) 17)), (xorI .u64 (xorI .u64 (xorI .u64 h0 (shlI .u64 h0 13)) (shrI .u64 (xorI .u64 h0 (shlI .u64 h0 13)) 7)) (shlI .u64 (xorI .u64 (xorI .u64 h0 (shlI .u64 h0 13)) (shrI .u64 (xorI .u64 h0 (shlI .u64 h0 13)) 7)) 17)))
 ) (z3s h0) :=
 cL o23' Tryz.func144
theorem y74 (a1 a3 : Int) (a5 : List Int) : Le (
 bif (ltB a1 a3) then
 nth a5 a3 fun _ =>
 nth a5 a1 fun _ =>
 nthN a5 (Int.toNat a3) fun y0 =>
 nthN a5 (Int.toNat a1) fun y1 =>
 nth a5 a1 fun _ =>
 nthN a5 (Int.toNat a1) fun _y2 =>
 nth (List.set a5 (Int.toNat a1) y0) a3 fun _ =>
 nthN (List.set a5 (Int.toNat a1) y0) (Int.toNat a3) fun _y3 =>
 z0s (addI .i64 a1 1) (subI .i64 a3 1) (List.set (List.set a5 (Int.toNat a1) y0) (Int.toNat a3) y1)
 else
 some a5
 ) (z0s a1 a3 a5) :=
 gL o2' (q01 Tryz.f126 [1,1,0,0])
theorem qzq (a1 a3 a6 a8 : Int) (a10 : List Int) : Le (
 bif (ltB a8 5) then
 z0t a1 a3 a6 a8 true a10
 else
 some (false, a10)
 ) (z03 a1 a3 a6 a8 a10) :=
 gL o6' (q01 Tryz.f127 [1,1,0,1,0,0])
theorem y40 (a1 a4 a6 : Int) (a8 : List Int) : Le (
 z0q a1 a4 a6 a8
 ) (z0a a1 a4 a6 a8) :=
 gL o8' (q01 Tryz.f128 [1,1,1,0,0,0])
theorem y6x (a1 a4 a6 : Int) (a8 : List Int) : Le (
 bif (leB a4 a6) then
 nth a8 a4 fun _ =>
 nth a8 a1 fun _ =>
 nthN a8 (Int.toNat a4) fun y0 =>
 nthN a8 (Int.toNat a1) fun y1 =>
 Option.bind (z08 y0 y1) fun x2 =>
 bif (ltB x2 0) then
 z0w a1 (addI .i64 a4 1) a6 a8
 else
 z0l a1 a4 a6 false a8
 else
 z0l a1 a4 a6 false a8
 ) (z0w a1 a4 a6 a8) :=
 gL o11' (q01 Tryz.f129 [1,1,1,0,0,0])
theorem qv0 (a0 : Int) (a2 : List Int) (a4 a6 : Int) : Le (
 bif (ltB a6 a4) then
 nth a2 a6 fun y0 =>
 bif (neB y0 a0) then
 some y0
 else
 z46 a0 a2 a4 (addI .i64 a6 1)
 else
 some a0
 ) (z46 a0 a2 a4 a6) :=
 gL o0' (q01 Tryz.f102 [1,1,0,1,0,0])
theorem y0v (a0 : Int) (a4 : List Trust) (a6 a8 a10 : Int) (a12 : List Int) (a14 : List Trust) (a16 : Int) (a18 : List Int) (a20 : List Trust) (a22 : Int) (a24 : List Int) (a26 : List Trust) : Le (
 bif (ltB a8 a6) then
 nth a4 a8 fun y0 =>
 Option.bind (z4r y0 a0) fun x1 =>
 bif (eqB x1.Threshold 0) then
 Option.bind (z45 a22 1) fun x2 =>
 z25 a0 a4 a6 (addI .i64 a8 1) a10 a12 a14 a16 a18 a20 x2 a24 a26
 else
 capOk (List.length a26 + List.length ([(Trust.mk x1.Threshold x1.Nodes x1.Inner)] : List (Trust))) <|
 z25 a0 a4 a6 (addI .i64 a8 1) a10 a12 a14 a16 a18 a20 a22 a24 (a26 ++ ([(Trust.mk x1.Threshold x1.Nodes x1.Inner)] : List (Trust)))
 else
 some (Trust.mk a22 a24 a26)
 ) (z25 a0 a4 a6 a8 a10 a12 a14 a16 a18 a20 a22 a24 a26) :=
 gL o4' (q01 Tryz.f108 [1,1,1,0,1,0,0])
theorem qz0 (a0 : Int) (a4 : List Trust) (a6 a8 a10 : Int) (a12 : List Int) (a14 : List Trust) (a16 : Int) (a18 : List Int) (a20 : List Trust) (a22 : Int) (a24 : List Int) (a26 : List Trust) : Le (
 bif (ltB a8 a6) then
 nth a4 a8 fun y0 =>
 Option.bind (z5t y0 a0) fun x1 =>
 bif (leB x1.Threshold 0) then
 Option.bind (z5n a22) fun x2 =>
 z38 a0 a4 a6 (addI .i64 a8 1) a10 a12 a14 a16 a18 a20 x2 a24 a26
 else
 capOk (List.length a26 + List.length ([(Trust.mk x1.Threshold x1.Nodes x1.Inner)] : List (Trust))) <|
 z38 a0 a4 a6 (addI .i64 a8 1) a10 a12 a14 a16 a18 a20 a22 a24 (a26 ++ ([(Trust.mk x1.Threshold x1.Nodes x1.Inner)] : List (Trust)))
 else
 some (Trust.mk a22 a24 a26)
 ) (z38 a0 a4 a6 a8 a10 a12 a14 a16 a18 a20 a22 a24 a26) :=
 gL o4' (q01 Tryz.f96 [1,1,1,0,1,0,0])
theorem y0z (a0 : Int) (a2 : List Trust) (a4 a6 a8 : Int) (a10 : List Int) (a12 : List Trust) : Le (
 bif (ltB a6 a4) then
 nth a2 a6 fun y0 =>
 Option.bind (z4t y0) fun x1 =>
 z2n (orI .i64 a0 x1) a2 a4 (addI .i64 a6 1) a8 a10 a12
 else
 some a0
 ) (z2n a0 a2 a4 a6 a8 a10 a12) :=
 gL o0' (q01 Tryz.f112 [1,1,1,0,1,0,0])
theorem y04 (a0 : Int) (a2 : List Trust) (a4 a6 a8 : Int) (a10 : List Int) (a12 : List Trust) : Le (
 bif (ltB a6 a4) then
 nth a2 a6 fun y0 =>
 Option.bind (z5u y0) fun x1 =>
 z41 (orI .i64 a0 x1) a2 a4 (addI .i64 a6 1) a8 a10 a12
 else
 some a0
 ) (z41 a0 a2 a4 a6 a8 a10 a12) :=
 gL o0' (q01 Tryz.f92 [1,1,1,0,1,0,0])
theorem qz4 (a1 : Int) (a3 : List Int) (a5 : Bool) (a7 : List Int) (a9 a11 : Int) (a13 : List Member) : Le (
 bif (ltB a11 a9) then
 nth a7 a11 fun y0 =>
 nth a13 y0 fun y1 =>
 Option.bind (z27 y1.Trust a1) fun x2 =>
 bif (!x2) then
 chk (0 ≤ y0) <|
 capOk (List.length a3 + List.length ([y0] : List (Int))) <|
 z2e (subI .i64 a1 (shlI .i64 1 y0)) (a3 ++ ([y0] : List (Int))) true a13
 else
 z20 a1 a3 a5 a7 a9 (addI .i64 a11 1) a13
 else
 z3t a1 a3 a5 a7 a9 a11 false a13
 ) (z20 a1 a3 a5 a7 a9 a11 a13) :=
 gL o3' (q01 Tryz.f118 [1,1,1,1,0,1,0,0,1,0,1,1,0,0])
theorem qyt (a0 a2 : List Trust) (a4 a6 : Int) : Le (
 bif (ltB a6 a4) then
 nth a2 a6 fun y0 =>
 z15 a0 0 false a2 a4 a6 ((List.length a0 : Nat) : Int) 0 y0.Threshold y0.Nodes y0.Inner
 else
 some a0
 ) (z21 a0 a2 a4 a6) :=
 gL o12' (q01 Tryz.f98 [1,1,0,1,0,0])
end Go.Proofs.YtbmelgbadedbbaaGreat
