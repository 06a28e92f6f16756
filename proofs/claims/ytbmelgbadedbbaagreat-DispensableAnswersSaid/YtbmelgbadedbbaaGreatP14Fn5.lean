/- What the functions come to, printed by a program and checked by the kernel. -/
import Derived.Test.YtbmelgbadedbbaaGreatP14Df
namespace Go.Proofs.YtbmelgbadedbbaaGreat
open Go Go.Ab
set_option maxRecDepth 100000
theorem y0t (a1 : Int) (a3 : List Int) (a5 a7 a9 : Int) (a11 : List Int) (a13 : List Trust) : Le (
 bif (ltB a7 a5) then
 nth a3 a7 fun y0 =>
 Option.bind (z56 y0) fun x1 =>
 bif x1 then
 chk (0 ≤ y0) <|
 z2l (orI .i64 a1 (shlI .i64 1 y0)) a3 a5 (addI .i64 a7 1) a9 a11 a13
 else
 z2l a1 a3 a5 (addI .i64 a7 1) a9 a11 a13
 else
 z2m a1 a13 ((List.length a13 : Nat) : Int) 0 a9 a11 a13
 ) (z2l a1 a3 a5 a7 a9 a11 a13) :=
 gL o0' (q01 Tryz.f112 [1,1,0,1,0,0])
theorem qp6 (a0 a2 a4 : Int) : Le (
 Option.bind (z2e a4 a0) fun x0 =>
 bif x0 then
 Option.bind (z5a a4) fun x1 =>
 bif (eqB x1 a2) then
 some (a4, true)
 else
 z2p a0 a2 (addI .i64 a4 1)
 else
 bif (eqB a2 a0) then
 some (0, false)
 else
 chk (0 ≤ (addI .i64 a2 1)) <|
 some ((subI .i64 (shlI .i64 1 (addI .i64 a2 1)) 1), true)
 ) (z2p a0 a2 a4) :=
 gL o18' (q01 Tryz.f105 [1,1,1,0,1,0,0])
theorem y1j (a0 : Int) (a3 : List Int) (a5 : List Member) : Le (
 Option.bind (z33 (Config.mk a5) a0) fun x0 =>
 bif (!x0.2) then
 some (a0, a3)
 else
 capOk (List.length a3 + List.length ([x0.1] : List (Int))) <|
 chk (0 ≤ x0.1) <|
 z2a (q40 .i64 a0 (shlI .i64 1 x0.1)) (a3 ++ ([x0.1] : List (Int))) a5
 ) (z2a a0 a3 a5) :=
 gL o23' (q01 Tryz.f134 [1,1,1,1,0,0])
theorem qzj (a2 a4 a6 a8 : Int) (a10 a12 : List Member) : Le (
 Option.bind (z37 (Config.mk a10)) fun x0 =>
 bif (leB a4 x0) then
 nth a12 a2 fun y1 =>
 Option.bind (z24 y1.Trust a4) fun x2 =>
 bif x2 then
 nth a10 a2 fun y3 =>
 Option.bind (z24 y3.Trust a4) fun x4 =>
 bif (!x4) then
 some 14
 else
 z3m a2 (addI .i64 a4 1) a6 a8 a10 a12
 else
 z3m a2 (addI .i64 a4 1) a6 a8 a10 a12
 else
 z2z a6 (addI .i64 a8 1) a10 a12
 ) (z3m a2 a4 a6 a8 a10 a12) :=
 gL o0' (q01 Tryz.f23 [1,1,1,1,1,0,1,0,0,1,1,0,0,1,1,1,0,0])
theorem qzw (a0 a3 : Int) (a5 : List Trust) (a7 a9 a11 : Int) (a13 : List Int) (a15 : List Trust) : Le (
 bif (ltB a9 a7) then
 nth a5 a9 fun y0 =>
 Option.bind (z24 y0 a0) fun x1 =>
 bif x1 then
 z1v a0 (addI .i64 a3 1) a5 a7 (addI .i64 a9 1) a11 a13 a15
 else
 z1v a0 a3 a5 a7 (addI .i64 a9 1) a11 a13 a15
 else
 some (leB a11 a3)
 ) (z1v a0 a3 a5 a7 a9 a11 a13 a15) :=
 gL o1' (q01 Tryz.f63 [1,1,1,1,0,1,0,0])
theorem qzb (a0 a3 : Int) (a5 : List Trust) (a7 a9 a11 : Int) (a13 : List Int) (a15 : List Trust) : Le (
 bif (ltB a9 a7) then
 nth a5 a9 fun y0 =>
 Option.bind (z1r y0 a0) fun x1 =>
 bif x1 then
 z1e a0 (addI .i64 a3 1) a5 a7 (addI .i64 a9 1) a11 a13 a15
 else
 z1e a0 a3 a5 a7 (addI .i64 a9 1) a11 a13 a15
 else
 some (leB a11 a3)
 ) (z1e a0 a3 a5 a7 a9 a11 a13 a15) :=
 gL o1' (q01 Tryz.f83 [1,1,1,1,0,1,0,0])
theorem qz9 (a2 a4 a6 : Int) (a8 : List Int) (a10 : List Trust) (a12 : Int) (a14 : List Int) (a16 : List Trust) : Le (
 bif (ltB a4 a2) then
 nth a10 a4 fun y0 =>
 nth a16 a4 fun y1 =>
 Option.bind (z4x y0 y1) fun x2 =>
 bif (!x2) then
 some false
 else
 z3b a2 (addI .i64 a4 1) a6 a8 a10 a12 a14 a16
 else
 some true
 ) (z3b a2 a4 a6 a8 a10 a12 a14 a16) :=
 gL o1' (q01 Tryz.f90 [1,1,0,1,0,0])
theorem qzo (a1 : Int) (a3 : List Int) (a5 a7 a9 : Int) (a11 : List Int) (a13 : List Trust) : Le (
 bif (ltB a7 a5) then
 nth a3 a7 fun y0 =>
 bif (leB 0 y0) then
 bif (ltB y0 10) then
 chk (0 ≤ y0) <|
 z2y (orI .i64 a1 (shlI .i64 1 y0)) a3 a5 (addI .i64 a7 1) a9 a11 a13
 else
 z2y a1 a3 a5 (addI .i64 a7 1) a9 a11 a13
 else
 z2y a1 a3 a5 (addI .i64 a7 1) a9 a11 a13
 else
 z4b a1 a13 ((List.length a13 : Nat) : Int) 0 a9 a11 a13
 ) (z2y a1 a3 a5 a7 a9 a11 a13) :=
 gL o0' (q01 Tryz.f92 [1,1,0,1,0,0])
theorem qvb (a0 a2 : List Int) (a4 a6 : Int) : Le (
 bif (ltB a6 a4) then
 nth a0 a6 fun y0 =>
 nth a2 a6 fun y1 =>
 bif (neB y0 y1) then
 some false
 else
 z4a a0 a2 a4 (addI .i64 a6 1)
 else
 some true
 ) (z4a a0 a2 a4 a6) :=
 gL o1' (q01 Tryz.f114 [1,1,0,1,0,0])
theorem y61 (a0 : Int) (a2 : List Int) (a4 a6 : Int) (a8 : List Member) : Le (
 bif (ltB a6 a4) then
 nth a2 a6 fun y0 =>
 chk (0 ≤ y0) <|
 z46 (subI .i64 a0 (shlI .i64 1 y0)) a2 a4 (addI .i64 a6 1) a8
 else
 some a0
 ) (z46 a0 a2 a4 a6 a8) :=
 gL o0' (q01 Tryz.f95 [1,1,1,0,1,0,0])
theorem y7d (a1 : Int) (a3 : List Int) (a5 : Bool) (a7 : List Member) : Le (
 bif a5 then
 Option.bind (z5i a1) fun x0 =>
 z1w a1 a3 false x0 ((List.length x0 : Nat) : Int) 0 a7
 else
 some a3
 ) (z2b a1 a3 a5 a7) :=
 gL o3' (q01 Tryz.f118 [1,1,1,1,0,1,0,0])
theorem y0m (a0 : Int) (a2 : List Int) (a4 a6 : Int) : Le (
 bif (leB a6 a0) then
 bif (eqB (andI .i64 a6 a0) a6) then
 Option.bind (z6a a6) fun x0 =>
 bif (eqB x0 a4) then
 capOk (List.length a2 + List.length ([a6] : List (Int))) <|
 z2c a0 (a2 ++ ([a6] : List (Int))) a4 (addI .i64 a6 1)
 else
 z2c a0 a2 a4 (addI .i64 a6 1)
 else
 z2c a0 a2 a4 (addI .i64 a6 1)
 else
 z2u a0 a2 (addI .i64 a4 1)
 ) (z2c a0 a2 a4 a6) :=
 gL o3' (q01 Tryz.f66 [1,1,0,1,0,0,1,0,0,1,0,0])
theorem qzs (a0 a2 a4 : Int) : Le (
 bif (ltB a4 10) then
 Option.bind (z1y a0) fun x0 =>
 bif x0 then
 chk (0 ≤ a4) <|
 z4t a0 (addI .i64 a2 (andI .i64 (shrI .i64 a0 a4) 1)) (addI .i64 a4 1)
 else
 some a2
 else
 some a2
 ) (z4t a0 a2 a4) :=
 gL o0' (q01 Tryz.f93 [1,1,0,1,0,0])
theorem y1f (a0 a6 : Int) (a8 : List Arr2_Config) (a10 a12 : Int) (a14 : List Int) (a16 a18 : Int) (a20 : List Refutation) (a22 a24 : Int) (a26 a28 : List Member) (a30 a32 a34 : Int) (a36 : List Int) (a38 : Int) (a40 a42 a44 a46 : List Member) (a48 a50 a52 a54 a56 a58 : Int) : Le (
 bif (ltB a24 a22) then
 nth a20 a24 fun y0 =>
 Option.bind (z30 (Config.mk a44) (Config.mk a46) a6 y0) fun x1 =>
 Option.bind (z6b (Config.mk a44) (Config.mk a46) a6 y0) fun x2 =>
 bif (!(x1 == x2)) then
 some false
 else
 z1h a0 a6 a8 a10 a12 a14 a16 a18 a20 a22 (addI .i64 a24 1) a26 a28 a30 a32 a34 a36 a38 a40 a42 a44 a46 a48 a50 a52 a54 a56 a58
 else
 z1a a0 a8 a10 a12 a14 a16 (addI .i64 a18 1) a26 a28 a30 a32 a34 a36 a38 a40 a42 a44 a46
 ) (z1h a0 a6 a8 a10 a12 a14 a16 a18 a20 a22 a24 a26 a28 a30 a32 a34 a36 a38 a40 a42 a44 a46 a48 a50 a52 a54 a56 a58) :=
 gL o1' (q01 Tryz.f5 [1,1,1,1,0,1,0,0,1,1,0,0,1,1,1,0,1,0,0,1,1,0,0,1,1,1,1,1,1,1,1,1,1,1,0,0])
theorem qzt (a0 a5 a7 : Int) (a9 a11 : List Member) (a13 a15 a17 : Int) : Le (
 bif (ltB a7 a5) then
 Option.bind (z5w (Config.mk a11) a0 a7) fun x0 =>
 bif x0 then
 some ((Refutation.mk a7 0 0), 0)
 else
 z3x a0 a5 (addI .i64 a7 1) a9 a11 a13 a15 a17
 else
 Option.bind (z57 (Config.mk a9) a0) fun x1 =>
 Option.bind (z5r x1) fun x2 =>
 bif (neB x2.2.2 0) then
 some ((Refutation.mk 0 0 0), 11)
 else
 some ((Refutation.mk (-1) x2.1 x2.2.1), 0)
 ) (z3x a0 a5 a7 a9 a11 a13 a15 a17) :=
 gL o17' (q01 Tryz.f28 [1,1,0,1,0,0])
theorem y89 (c_0 : Config) : Le (
 Option.bind (z35 c_0) fun x0 =>
 bif (neB x0 0) then
 some (0, 0, x0)
 else
 Option.bind (z5y c_0) fun x1 =>
 bif (eqB x1.1 0) then
 some (0, 0, 11)
 else
 some (x1.1, x1.2, 0)
 ) (z5r c_0) :=
 cL o22' Tryz.func65
theorem y1t (a0 : Int) (a4 a6 : List Int) (a8 a10 : Int) (a12 a14 : List Member) : Le (
 bif (ltB a10 a8) then
 nth a6 a10 fun y0 =>
 bif (eqB (andI .i64 y0 a0) a0) then
 Option.bind (z6l (Config.mk a12) (Config.mk a14) y0) fun x1 =>
 bif x1 then
 capOk (List.length a4 + List.length ([y0] : List (Int))) <|
 z3y a0 (a4 ++ ([y0] : List (Int))) a6 a8 (addI .i64 a10 1) a12 a14
 else
 z3y a0 a4 a6 a8 (addI .i64 a10 1) a12 a14
 else
 z3y a0 a4 a6 a8 (addI .i64 a10 1) a12 a14
 else
 some (a4, 0)
 ) (z3y a0 a4 a6 a8 a10 a12 a14) :=
 gL o16' (q01 Tryz.f29 [1,1,1,0,1,0,0])
theorem y0p (a0 : Bool) (a4 : List Trust) (a6 : List (List Trust)) (a8 a10 : Int) (a12 : List Trust) (a14 a16 : Int) (a18 a20 : List Member) : Le (
 bif (ltB a16 a14) then
 nth a12 a16 fun y0 =>
 Option.bind (z36 y0) fun x1 =>
 bif (neB x1 0) then
 some ((Config.mk ([] : List (Member))), x1)
 else
 z3z a0 a4 a6 a8 a10 a12 a14 (addI .i64 a16 1) a18 a20
 else
 Option.bind (z40 a4) fun x2 =>
 bif (ltB 4 ((List.length x2 : Nat) : Int)) then
 some ((Config.mk ([] : List (Member))), 3)
 else
 bif (eqB ((List.length x2 : Nat) : Int) 1) then
 nth x2 0 fun y3 =>
 capOk (List.length a20 + List.length ([(Member.mk true (Trust.mk y3.Threshold y3.Nodes y3.Inner))] : List (Member))) <|
 z1u a0 a6 a8 (addI .i64 a10 1) a18 (a20 ++ ([(Member.mk true (Trust.mk y3.Threshold y3.Nodes y3.Inner))] : List (Member)))
 else
 bif (ltB 1 ((List.length x2 : Nat) : Int)) then
 bif a0 then
 capOk (List.length a20 + List.length ([(Member.mk true (Trust.mk ((List.length x2 : Nat) : Int) ([] : List (Int)) x2))] : List (Member))) <|
 z1u a0 a6 a8 (addI .i64 a10 1) a18 (a20 ++ ([(Member.mk true (Trust.mk ((List.length x2 : Nat) : Int) ([] : List (Int)) x2))] : List (Member)))
 else
 capOk (List.length a20 + List.length ([(Member.mk true (Trust.mk 1 ([] : List (Int)) x2))] : List (Member))) <|
 z1u a0 a6 a8 (addI .i64 a10 1) a18 (a20 ++ ([(Member.mk true (Trust.mk 1 ([] : List (Int)) x2))] : List (Member)))
 else
 capOk (List.length a20 + List.length ([(Member.mk false (Trust.mk 0 ([] : List (Int)) ([] : List (Trust))))] : List (Member))) <|
 z1u a0 a6 a8 (addI .i64 a10 1) a18 (a20 ++ ([(Member.mk false (Trust.mk 0 ([] : List (Int)) ([] : List (Trust))))] : List (Member)))
 ) (z3z a0 a4 a6 a8 a10 a12 a14 a16 a18 a20) :=
 gL o15' (q01 Tryz.f76 [1,1,1,0,1,0,0,1,1,0,0,1,0,1,0,0])
theorem y3w (l_0 : List Trust) : Le (
 z1x ([] : List (Trust)) l_0 ((List.length l_0 : Nat) : Int) 0
 ) (z40 l_0) :=
 cL o12' Tryz.func98
theorem qv6 (a1 a3 : Int) (a6 : List Trust) (a8 a11 : Int) (a13 : List Int) (a15 a17 : Int) (a19 : List Int) (a21 : List Trust) (a23 : Int) (a25 : List Int) (a27 : List Trust) : Le (
 bif (ltB a11 a1) then
 capOk (List.length a25 + List.length ([a11] : List (Int))) <|
 z50 a1 a3 a6 a8 (addI .i64 a11 3) a13 a15 a17 a19 a21 a23 (a25 ++ ([a11] : List (Int))) a27
 else
 bif (ltB 0 ((List.length a25 : Nat) : Int)) then
 Option.bind (z19 1 ((List.length a25 : Nat) : Int) a13 a15) fun x0 =>
 capOk (List.length a6 + List.length ([(Trust.mk x0.1 a25 a27)] : List (Trust))) <|
 z2i a1 a3 (a6 ++ ([(Trust.mk x0.1 a25 a27)] : List (Trust))) (addI .i64 a8 1) x0.2.1 x0.2.2 a17 a19 a21
 else
 z2i a1 a3 a6 (addI .i64 a8 1) a13 a15 a17 a19 a21
 ) (z50 a1 a3 a6 a8 a11 a13 a15 a17 a19 a21 a23 a25 a27) :=
 gL o5' (q01 Tryz.f75 [1,1,0,1,0,0,1,0,0,1,0,1,0,0])
theorem qqb (a1 a3 a7 : Int) (a9 : List Int) (a11 a13 : Int) (a15 : List Int) (a17 : List Trust) (a19 : Int) (a21 : List Int) (a23 : List Trust) : Le (
 bif (ltB 0 a7) then
 Option.bind (z62 a1 (subI .i64 a3 1) a9 a11) fun x0 =>
 capOk (List.length a23 + List.length ([(Trust.mk x0.1.Threshold x0.1.Nodes x0.1.Inner)] : List (Trust))) <|
 z4l a1 a3 (subI .i64 a7 1) x0.2.1 x0.2.2 a13 a15 a17 a19 a21 (a23 ++ ([(Trust.mk x0.1.Threshold x0.1.Nodes x0.1.Inner)] : List (Trust)))
 else
 bif (ltB 0 ((List.length a23 : Nat) : Int)) then
 Option.bind (z11 3 a9 a11) fun x1 =>
 bif (eqB x1.1 0) then
 Option.bind (z19 1 (addI .i64 ((List.length ([] : List (Int)) : Nat) : Int) ((List.length a23 : Nat) : Int)) x1.2.1 x1.2.2) fun x2 =>
 some ((Trust.mk x2.1 ([] : List (Int)) a23), x2.2.1, x2.2.2)
 else
 Option.bind (z19 1 (addI .i64 ((List.length a21 : Nat) : Int) ((List.length a23 : Nat) : Int)) x1.2.1 x1.2.2) fun x3 =>
 some ((Trust.mk x3.1 a21 a23), x3.2.1, x3.2.2)
 else
 Option.bind (z19 1 (addI .i64 ((List.length a21 : Nat) : Int) ((List.length a23 : Nat) : Int)) a9 a11) fun x4 =>
 some ((Trust.mk x4.1 a21 a23), x4.2.1, x4.2.2)
 ) (z4l a1 a3 a7 a9 a11 a13 a15 a17 a19 a21 a23) :=
 gL o5' (q01 Tryz.f97 [1,1,1,1,0,1,0,0,1,0,0])
theorem y1b (a1 : List Int) (a3 : Int) (a5 : List Int) (a7 : Int) : Le (
 bif (ltB 0 a3) then
 Option.bind (z11 (addI .i64 a3 1) a5 a7) fun x0 =>
 nth a1 x0.1 fun _ =>
 nth a1 a3 fun _ =>
 nthN a1 (Int.toNat x0.1) fun y1 =>
 nthN a1 (Int.toNat a3) fun y2 =>
 nth a1 a3 fun _ =>
 nthN a1 (Int.toNat a3) fun _y3 =>
 nth (List.set a1 (Int.toNat a3) y1) x0.1 fun _ =>
 nthN (List.set a1 (Int.toNat a3) y1) (Int.toNat x0.1) fun _y4 =>
 z3g (List.set (List.set a1 (Int.toNat a3) y1) (Int.toNat x0.1) y2) (subI .i64 a3 1) x0.2.1 x0.2.2
 else
 some (a1, a5, a7)
 ) (z3g a1 a3 a5 a7) :=
 gL o21' (q01 Tryz.f120 [1,1,1,0,1,0,0])
theorem qlf (a0 : List Trust) (a2 a4 a6 : Int) (a8 : List Int) (a10 : List Trust) : Le (
 bif (ltB a4 a2) then
 nth a0 a4 fun y0 =>
 Option.bind (z3o y0) fun x1 =>
 bif (neB x1 0) then
 some x1
 else
 z1n a0 a2 (addI .i64 a4 1) a6 a8 a10
 else
 some 0
 ) (z1n a0 a2 a4 a6 a8 a10) :=
 gL o0' (q01 Tryz.f117 [1,1,1,1,0,1,0,0])
theorem qdb (a0 : Int) (a2 : List Int) (a4 a6 : Int) : Le (
 bif (ltB a6 a4) then
 nth a2 a6 fun y0 =>
 bif (ltB y0 0) then
 some (0, 5)
 else
 bif (leB 10 y0) then
 some (0, 5)
 else
 Option.bind (z4z a0 y0) fun x1 =>
 bif x1 then
 some (0, 6)
 else
 chk (0 ≤ y0) <|
 z26 (orI .i64 a0 (shlI .i64 1 y0)) a2 a4 (addI .i64 a6 1)
 else
 some (a0, 0)
 ) (z26 a0 a2 a4 a6) :=
 gL o10' (q01 Tryz.f140 [1,1,0,1,0,0])
theorem y85 (a1 a3 a6 : Int) (a8 : List Int) : Le (
 bif (ltB a6 a3) then
 z0g a1 a3 a6 a6 a8
 else
 some a8
 ) (z0d a1 a3 a6 a8) :=
 gL o2' (q01 Tryz.f122 [1,0,0])
theorem qzy (a2 a4 a6 a8 : Int) (a10 : List Int) : Le (
 bif (leB 0 a8) then
 Option.bind (z10 a8 a6 a2 a10) fun x0 =>
 z0o a2 a4 a6 (subI .i64 a8 1) x0
 else
 z0p a2 a4 (subI .i64 a6 1) a10
 ) (z0o a2 a4 a6 a8 a10) :=
 gL o2' (q01 Tryz.f123 [1,1,1,0,1,0,0])
theorem y54 (lo_1 hi_2 first_3 : Int) (h0 : List Int) : Le (
 z0c hi_2 first_3 lo_1 h0
 ) (z10 lo_1 hi_2 first_3 h0) :=
 cL o2' Tryz.func142
theorem y0w (a1 a3 a6 a8 : Int) (a10 : List Int) (a12 : Int) : Le (
 bif (leB a8 (addI .i64 (addI .i64 a1 (mulI .i64 (quoI .i64 a3 4) 2)) 1)) then
 Option.bind (z41 a12) fun x0 =>
 bif (leB a3 (IntKind.wrap .i64 (andI .u64 x0.1 (subI .u64 a6 1)))) then
 nth a10 (addI .i64 a1 (subI .i64 (IntKind.wrap .i64 (andI .u64 x0.1 (subI .u64 a6 1))) a3)) fun _ =>
 nth a10 a8 fun _ =>
 nthN a10 (Int.toNat (addI .i64 a1 (subI .i64 (IntKind.wrap .i64 (andI .u64 x0.1 (subI .u64 a6 1))) a3))) fun y1 =>
 nthN a10 (Int.toNat a8) fun y2 =>
 nth a10 a8 fun _ =>
 nthN a10 (Int.toNat a8) fun _y3 =>
 nth (List.set a10 (Int.toNat a8) y1) (addI .i64 a1 (subI .i64 (IntKind.wrap .i64 (andI .u64 x0.1 (subI .u64 a6 1))) a3)) fun _ =>
 nthN (List.set a10 (Int.toNat a8) y1) (Int.toNat (addI .i64 a1 (subI .i64 (IntKind.wrap .i64 (andI .u64 x0.1 (subI .u64 a6 1))) a3))) fun _y4 =>
 z0b a1 a3 a6 (addI .i64 a8 1) (List.set (List.set a10 (Int.toNat a8) y1) (Int.toNat (addI .i64 a1 (subI .i64 (IntKind.wrap .i64 (andI .u64 x0.1 (subI .u64 a6 1))) a3))) y2) x0.2
 else
 nth a10 (addI .i64 a1 (IntKind.wrap .i64 (andI .u64 x0.1 (subI .u64 a6 1)))) fun _ =>
 nth a10 a8 fun _ =>
 nthN a10 (Int.toNat (addI .i64 a1 (IntKind.wrap .i64 (andI .u64 x0.1 (subI .u64 a6 1))))) fun y5 =>
 nthN a10 (Int.toNat a8) fun y6 =>
 nth a10 a8 fun _ =>
 nthN a10 (Int.toNat a8) fun _y7 =>
 nth (List.set a10 (Int.toNat a8) y5) (addI .i64 a1 (IntKind.wrap .i64 (andI .u64 x0.1 (subI .u64 a6 1)))) fun _ =>
 nthN (List.set a10 (Int.toNat a8) y5) (Int.toNat (addI .i64 a1 (IntKind.wrap .i64 (andI .u64 x0.1 (subI .u64 a6 1))))) fun _y8 =>
 z0b a1 a3 a6 (addI .i64 a8 1) (List.set (List.set a10 (Int.toNat a8) y5) (Int.toNat (addI .i64 a1 (IntKind.wrap .i64 (andI .u64 x0.1 (subI .u64 a6 1))))) y6) x0.2
 else
 some a10
 ) (z0b a1 a3 a6 a8 a10 a12) :=
 gL o2' (q01 Tryz.f124 [1,1,0,1,1,1,0,0])
theorem y3v (h0 : Int) : Le (
 some ((xorI .u64 (xorI .u64 (xorI .u64 h0 (shlI .u64 h0 13)) (shrI .u64 (xorI .u64 h0 (shlI .u64 h0 13)) 7)) (shlI .u64 (xorI .u64 (xorI .u64 h0 (shlI .u64 h0 13)) (shrI .u64 (xorI .u64 h0 (shlI .u64 h0 13)) 7)) 17)), (xorI .u64 (xorI .u64 (xorI .u64 h0 (shlI .u64 h0 13)) (shrI .u64 (xorI .u64 h0 (shlI .u64 h0 13)) 7)) (shlI .u64 (xorI .u64 (xorI .u64 h0 (shlI .u64 h0 13)) (shrI .u64 (xorI .u64 h0 (shlI .u64 h0 13)) 7)) 17)))
 ) (z41 h0) :=
 cL o24' Tryz.func144
theorem y6i (a1 a3 : Int) (a5 : List Int) : Le (
 bif (ltB a1 a3) then
 nth a5 a3 fun _ =>
 nth a5 a1 fun _ =>
 nthN a5 (Int.toNat a3) fun y0 =>
 nthN a5 (Int.toNat a1) fun y1 =>
 nth a5 a1 fun _ =>
 nthN a5 (Int.toNat a1) fun _y2 =>
 nth (List.set a5 (Int.toNat a1) y0) a3 fun _ =>
 nthN (List.set a5 (Int.toNat a1) y0) (Int.toNat a3) fun _y3 =>
 z0s (addI .i64 a1 1) (subI .i64 a3 1) (List.set (List.set a5 (Int.toNat a1) y0) (Int.toNat a3) y1)
 else
 some a5
 ) (z0s a1 a3 a5) :=
 gL o2' (q01 Tryz.f126 [1,1,0,0])
theorem y0n (a1 a3 a6 a8 : Int) (a10 : List Int) : Le (
 bif (ltB a8 5) then
 z0t a1 a3 a6 a8 true a10
 else
 some (false, a10)
 ) (z03 a1 a3 a6 a8 a10) :=
 gL o7' (q01 Tryz.f127 [1,1,0,1,0,0])
theorem y7y (a1 a4 a6 : Int) (a8 : List Int) : Le (
 z0q a1 a4 a6 a8
 ) (z0a a1 a4 a6 a8) :=
 gL o8' (q01 Tryz.f128 [1,1,1,0,0,0])
theorem y6q (a1 a4 a6 : Int) (a8 : List Int) : Le (
 bif (leB a4 a6) then
 nth a8 a4 fun _ =>
 nth a8 a1 fun _ =>
 nthN a8 (Int.toNat a4) fun y0 =>
 nthN a8 (Int.toNat a1) fun y1 =>
 Option.bind (z08 y0 y1) fun x2 =>
 bif (ltB x2 0) then
 z0w a1 (addI .i64 a4 1) a6 a8
 else
 z0l a1 a4 a6 false a8
 else
 z0l a1 a4 a6 false a8
 ) (z0w a1 a4 a6 a8) :=
 gL o11' (q01 Tryz.f129 [1,1,1,0,0,0])
theorem qvx (a0 : Int) (a2 : List Int) (a4 a6 : Int) : Le (
 bif (ltB a6 a4) then
 nth a2 a6 fun y0 =>
 bif (neB y0 a0) then
 some y0
 else
 z4i a0 a2 a4 (addI .i64 a6 1)
 else
 some a0
 ) (z4i a0 a2 a4 a6) :=
 gL o0' (q01 Tryz.f102 [1,1,0,1,0,0])
theorem y0l (a0 : Int) (a4 : List Trust) (a6 a8 a10 : Int) (a12 : List Int) (a14 : List Trust) (a16 : Int) (a18 : List Int) (a20 : List Trust) (a22 : Int) (a24 : List Int) (a26 : List Trust) : Le (
 bif (ltB a8 a6) then
 nth a4 a8 fun y0 =>
 Option.bind (z52 y0 a0) fun x1 =>
 bif (eqB x1.Threshold 0) then
 Option.bind (z4h a22 1) fun x2 =>
 z21 a0 a4 a6 (addI .i64 a8 1) a10 a12 a14 a16 a18 a20 x2 a24 a26
 else
 capOk (List.length a26 + List.length ([(Trust.mk x1.Threshold x1.Nodes x1.Inner)] : List (Trust))) <|
 z21 a0 a4 a6 (addI .i64 a8 1) a10 a12 a14 a16 a18 a20 a22 a24 (a26 ++ ([(Trust.mk x1.Threshold x1.Nodes x1.Inner)] : List (Trust)))
 else
 some (Trust.mk a22 a24 a26)
 ) (z21 a0 a4 a6 a8 a10 a12 a14 a16 a18 a20 a22 a24 a26) :=
 gL o4' (q01 Tryz.f108 [1,1,1,0,1,0,0])
theorem y1x (a0 : Int) (a4 : List Trust) (a6 a8 a10 : Int) (a12 : List Int) (a14 : List Trust) (a16 : Int) (a18 : List Int) (a20 : List Trust) (a22 : Int) (a24 : List Int) (a26 : List Trust) : Le (
 bif (ltB a8 a6) then
 nth a4 a8 fun y0 =>
 Option.bind (z67 y0 a0) fun x1 =>
 bif (leB x1.Threshold 0) then
 Option.bind (z60 a22) fun x2 =>
 z3c a0 a4 a6 (addI .i64 a8 1) a10 a12 a14 a16 a18 a20 x2 a24 a26
 else
 capOk (List.length a26 + List.length ([(Trust.mk x1.Threshold x1.Nodes x1.Inner)] : List (Trust))) <|
 z3c a0 a4 a6 (addI .i64 a8 1) a10 a12 a14 a16 a18 a20 a22 a24 (a26 ++ ([(Trust.mk x1.Threshold x1.Nodes x1.Inner)] : List (Trust)))
 else
 some (Trust.mk a22 a24 a26)
 ) (z3c a0 a4 a6 a8 a10 a12 a14 a16 a18 a20 a22 a24 a26) :=
 gL o4' (q01 Tryz.f96 [1,1,1,0,1,0,0])
theorem y0d (a0 : Int) (a2 : List Trust) (a4 a6 a8 : Int) (a10 : List Int) (a12 : List Trust) : Le (
 bif (ltB a6 a4) then
 nth a2 a6 fun y0 =>
 Option.bind (z54 y0) fun x1 =>
 z2m (orI .i64 a0 x1) a2 a4 (addI .i64 a6 1) a8 a10 a12
 else
 some a0
 ) (z2m a0 a2 a4 a6 a8 a10 a12) :=
 gL o0' (q01 Tryz.f112 [1,1,1,0,1,0,0])
theorem y1w (a0 : Int) (a2 : List Trust) (a4 a6 a8 : Int) (a10 : List Int) (a12 : List Trust) : Le (
 bif (ltB a6 a4) then
 nth a2 a6 fun y0 =>
 Option.bind (z68 y0) fun x1 =>
 z4b (orI .i64 a0 x1) a2 a4 (addI .i64 a6 1) a8 a10 a12
 else
 some a0
 ) (z4b a0 a2 a4 a6 a8 a10 a12) :=
 gL o0' (q01 Tryz.f92 [1,1,1,0,1,0,0])
theorem y1k (a1 : Int) (a3 : List Int) (a5 : Bool) (a7 : List Int) (a9 a11 : Int) (a13 : List Member) : Le (
 bif (ltB a11 a9) then
 nth a7 a11 fun y0 =>
 nth a13 y0 fun y1 =>
 Option.bind (z24 y1.Trust a1) fun x2 =>
 bif (!x2) then
 chk (0 ≤ y0) <|
 capOk (List.length a3 + List.length ([y0] : List (Int))) <|
 z2b (subI .i64 a1 (shlI .i64 1 y0)) (a3 ++ ([y0] : List (Int))) true a13
 else
 z1w a1 a3 a5 a7 a9 (addI .i64 a11 1) a13
 else
 z42 a1 a3 a5 a7 a9 a11 false a13
 ) (z1w a1 a3 a5 a7 a9 a11 a13) :=
 gL o3' (q01 Tryz.f118 [1,1,1,1,0,1,0,0,1,0,1,1,0,0])
theorem qzd (a0 a2 : List Trust) (a4 a6 : Int) : Le (
 bif (ltB a6 a4) then
 nth a2 a6 fun y0 =>
 z16 a0 0 false a2 a4 a6 ((List.length a0 : Nat) : Int) 0 y0.Threshold y0.Nodes y0.Inner
 else
 some a0
 ) (z1x a0 a2 a4 a6) :=
 gL o12' (q01 Tryz.f98 [1,1,0,1,0,0])
end Go.Proofs.YtbmelgbadedbbaaGreat
