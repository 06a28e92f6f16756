/- What the functions come to, printed by a program and checked by the kernel. -/
import Derived.Test.YtjfhnffdijlboaaGreatP15Df
namespace Go.Proofs.YtjfhnffdijlboaaGreat
open Go Go.Ab
set_option maxRecDepth 100000
theorem y76 (low_0 high_1 : Config) (b_2 : Int) : Le (
 Option.bind (z5j low_0 high_1 b_2) fun x0 =>
 bif neB x0 0 then
 some ((Refutation.mk 0 0 0), x0)
 else
 z4e b_2 (high_1.Members.length : Int) 0 low_0.Members high_1.Members 0 0 0
 ) (z6x low_0 high_1 b_2) :=
 cL o19' Tryz.func76
theorem y0s (a2 a4 a6 a8 a10 a12 : Int) (a14 : List Refutation) (a16 a18 a20 a22 : Int) (a24 : List Refutation) : Le (
 bif ltB a4 a2 then
 nth a14 a4 fun y0 =>
 nth a24 a4 fun y1 =>
 bif (!((eqB y0.Node y1.Node) && ((eqB y0.A y1.A) && ((eqB y0.B y1.B) && true)))) then
 some false
 else
 z5b a2 (addI .i64 a4 1) a6 a8 a10 a12 a14 a16 a18 a20 a22 a24
 else
 some true
 ) (z5b a2 a4 a6 a8 a10 a12 a14 a16 a18 a20 a22 a24) :=
 gL o1' (q0a Tryz.f34 [1,1,0,1,0,0])
theorem y3k (a0 a2 : Int) (a4 a6 : List Int) (a8 a10 : Int) (a12 : List Member) : Le (
 bif ltB a10 a8 then
 nth a6 a10 fun y0 =>
 bif eqB (andI .i64 y0 a0) a0 then
 chk (0 <= a2) <|
 bif (eqB (andI .i64 (shrI .i64 y0 a2) 1) 0) then
 capOk (List.length a4 + List.length ([y0] : List Int)) <|
 z2j a0 a2 (a4 ++ ([y0] : List Int)) a6 a8 (addI .i64 a10 1) a12
 else
 z2j a0 a2 a4 a6 a8 (addI .i64 a10 1) a12
 else
 z2j a0 a2 a4 a6 a8 (addI .i64 a10 1) a12
 else
 some a4
 ) (z2j a0 a2 a4 a6 a8 a10 a12) :=
 gL o2' (q0a Tryz.f64 [1,1,0,1,0,0])
theorem y0m (a0 a3 : Int) (a5 : List Trust) (a7 a9 a11 : Int) (a13 : List Int) (a15 : List Trust) : Le (
 bif ltB a9 a7 then
 nth a5 a9 fun y0 =>
 Option.bind (z1w y0 a0) fun x1 =>
 bif x1 then
 z21 a0 (addI .i64 a3 1) a5 a7 (addI .i64 a9 1) a11 a13 a15
 else
 z21 a0 a3 a5 a7 (addI .i64 a9 1) a11 a13 a15
 else
 some (leB a11 a3)
 ) (z21 a0 a3 a5 a7 a9 a11 a13 a15) :=
 gL o1' (q0a Tryz.f44 [1,1,1,1,0,1,0,0])
theorem y1x (a0 : Int) (a5 : List Int) (a7 a9 : Int) (a11 a13 : List Member) (a15 a17 a19 : Int) : Le (
 bif ltB a9 a7 then
 nth a5 a9 fun y0 =>
 Option.bind (z4i (Config.mk a13) y0 a0) fun x1 =>
 bif x1 then
 some ((Refutation.mk y0 0 0), 0)
 else
 z2a a0 a5 a7 (addI .i64 a9 1) a11 a13 a15 a17 a19
 else
 Option.bind (z2s (Config.mk a11) a0) fun x2 =>
 Option.bind (z2w x2) fun x3 =>
 bif neB x3.2.2 0 then
 some ((Refutation.mk 0 0 0), x3.2.2)
 else
 some ((Refutation.mk (-1) x3.1 x3.2.1), 0)
 ) (z2a a0 a5 a7 a9 a11 a13 a15 a17 a19) :=
 gL o19' (q0a Tryz.f61 [1,1,0,1,0,0])
theorem y0q (a3 : List Int) (a5 a7 : Int) (a9 a11 : List Member) (a13 a15 a17 a19 : Int) (a21 : List Refutation) : Le (
 bif ltB a7 a5 then
 nth a3 a7 fun y0 =>
 nth a21 a7 fun y1 =>
 Option.bind (z78 (Config.mk a9) (Config.mk a11) y0 y1) fun x2 =>
 bif !x2 then
 some false
 else
 z4u a3 a5 (addI .i64 a7 1) a9 a11 a13 a15 a17 a19 a21
 else
 some true
 ) (z4u a3 a5 a7 a9 a11 a13 a15 a17 a19 a21) :=
 gL o1' (q0a Tryz.f26 [1,1,1,0,1,0,1,1,1,1,1,1,1,0,1,1,0,1,0,0])
theorem y63 (low_0 high_1 : Config) (b_2 : Int) (x_3 : Refutation) : Le (
 Option.bind (z5j low_0 high_1 b_2) fun x0 =>
 bif neB x0 0 then
 some false
 else
 bif neB x_3.Node (-1) then
 Option.bind (z6r high_1 b_2 x_3.Node) fun x1 =>
 bif x1 then
 bif eqB x_3.A 0 then
 some (eqB x_3.B 0)
 else
 some false
 else
 some false
 else
 Option.bind (z43 low_0 b_2) fun x2 =>
 Option.bind (z1q x2 x_3.A) fun x3 =>
 bif x3 then
 Option.bind (z1q x2 x_3.B) fun x4 =>
 bif x4 then
 some (eqB (andI .i64 x_3.A x_3.B) 0)
 else
 some false
 else
 some false
 ) (z78 low_0 high_1 b_2 x_3) :=
 cL o1' Tryz.func65
theorem yai (high_0 : Config) (b_1 k_2 : Int) : Le (
 bif ltB k_2 0 then
 some false
 else
 bif (leB (high_0.Members.length : Int) k_2) then
 some false
 else
 Option.bind (z2y b_1 k_2) fun x0 =>
 bif x0 then
 some false
 else
 nth high_0.Members k_2 fun y1 =>
 bif !y1.Declared then
 some true
 else
 nth high_0.Members k_2 fun y2 =>
 Option.bind (z3g high_0) fun x3 =>
 Option.bind (z1w y2.Trust (subI .i64 x3 b_1)) fun x4 =>
 some (!x4)
 ) (z6r high_0 b_1 k_2) :=
 cL o1' Tryz.func102
theorem y1f (a0 : Bool) (a4 : List Trust) (a6 : List (List Trust)) (a8 a10 : Int) (a12 : List Trust) (a14 a16 : Int) (a18 a20 : List Member) : Le (
 bif ltB a16 a14 then
 nth a12 a16 fun y0 =>
 Option.bind (z3f y0) fun x1 =>
 bif neB x1 0 then
 some ((Config.mk ([] : List Member)), x1)
 else
 z4a a0 a4 a6 a8 a10 a12 a14 (addI .i64 a16 1) a18 a20
 else
 Option.bind (z4b a4) fun x2 =>
 bif (ltB 4 (x2.length : Int)) then
 some ((Config.mk ([] : List Member)), 3)
 else
 bif (eqB (x2.length : Int) 1) then
 nth x2 0 fun y3 =>
 capOk (List.length a20 + List.length ([(Member.mk true (Trust.mk y3.Threshold y3.Nodes y3.Inner))] : List Member)) <|
 z1z a0 a6 a8 (addI .i64 a10 1) a18 (a20 ++ ([(Member.mk true (Trust.mk y3.Threshold y3.Nodes y3.Inner))] : List Member))
 else
 bif (ltB 1 (x2.length : Int)) then
 bif a0 then
 capOk (List.length a20 + List.length ([(Member.mk true (Trust.mk (x2.length : Int) ([] : List Int) x2))] : List Member)) <|
 z1z a0 a6 a8 (addI .i64 a10 1) a18 (a20 ++ ([(Member.mk true (Trust.mk (x2.length : Int) ([] : List Int) x2))] : List Member))
 else
 capOk (List.length a20 + List.length ([(Member.mk true (Trust.mk 1 ([] : List Int) x2))] : List Member)) <|
 z1z a0 a6 a8 (addI .i64 a10 1) a18 (a20 ++ ([(Member.mk true (Trust.mk 1 ([] : List Int) x2))] : List Member))
 else
 capOk (List.length a20 + List.length ([(Member.mk false (Trust.mk 0 ([] : List Int) ([] : List Trust)))] : List Member)) <|
 z1z a0 a6 a8 (addI .i64 a10 1) a18 (a20 ++ ([(Member.mk false (Trust.mk 0 ([] : List Int) ([] : List Trust)))] : List Member))
 ) (z4a a0 a4 a6 a8 a10 a12 a14 a16 a18 a20) :=
 gL o14' (q0a Tryz.f81 [1,1,1,0,1,0,0,1,1,0,0,1,0,1,0,0])
theorem y7t (l_0 : List Trust) : Le (
 z22 ([] : List Trust) l_0 (l_0.length : Int) 0
 ) (z4b l_0) :=
 cL o22' Tryz.func111
theorem qyg (a1 a3 : Int) (a6 : List Trust) (a8 a11 : Int) (a13 : List Int) (a15 a17 : Int) (a19 : List Int) (a21 : List Trust) (a23 : Int) (a25 : List Int) (a27 : List Trust) : Le (
 bif ltB a11 a1 then
 capOk (List.length a25 + List.length ([a11] : List Int)) <|
 z5l a1 a3 a6 a8 (addI .i64 a11 3) a13 a15 a17 a19 a21 a23 (a25 ++ ([a11] : List Int)) a27
 else
 bif (ltB 0 (a25.length : Int)) then
 Option.bind (z1a 1 (a25.length : Int) a13 a15) fun x0 =>
 capOk (List.length a6 + List.length ([(Trust.mk x0.1 a25 a27)] : List Trust)) <|
 z2m a1 a3 (a6 ++ ([(Trust.mk x0.1 a25 a27)] : List Trust)) (addI .i64 a8 1) x0.2.1 x0.2.2 a17 a19 a21
 else
 z2m a1 a3 a6 (addI .i64 a8 1) a13 a15 a17 a19 a21
 ) (z5l a1 a3 a6 a8 a11 a13 a15 a17 a19 a21 a23 a25 a27) :=
 gL o4' (q0a Tryz.f80 [1,1,0,1,0,0,1,0,0,1,0,1,0,0])
theorem qqa (a1 a3 a7 : Int) (a9 : List Int) (a11 a13 : Int) (a15 : List Int) (a17 : List Trust) (a19 : Int) (a21 : List Int) (a23 : List Trust) : Le (
 bif ltB 0 a7 then
 Option.bind (z6v a1 (subI .i64 a3 1) a9 a11) fun x0 =>
 capOk (List.length a23 + List.length ([(Trust.mk x0.1.Threshold x0.1.Nodes x0.1.Inner)] : List Trust)) <|
 z4y a1 a3 (subI .i64 a7 1) x0.2.1 x0.2.2 a13 a15 a17 a19 a21 (a23 ++ ([(Trust.mk x0.1.Threshold x0.1.Nodes x0.1.Inner)] : List Trust))
 else
 bif (ltB 0 (a23.length : Int)) then
 Option.bind (z10 3 a9 a11) fun x1 =>
 bif eqB x1.1 0 then
 Option.bind (z1a 1 (addI .i64 ((List.length ([] : List Int) : Nat) : Int) (a23.length : Int)) x1.2.1 x1.2.2) fun x2 =>
 some ((Trust.mk x2.1 ([] : List Int) a23), x2.2.1, x2.2.2)
 else
 Option.bind (z1a 1 (addI .i64 (a21.length : Int) (a23.length : Int)) x1.2.1 x1.2.2) fun x3 =>
 some ((Trust.mk x3.1 a21 a23), x3.2.1, x3.2.2)
 else
 Option.bind (z1a 1 (addI .i64 (a21.length : Int) (a23.length : Int)) a9 a11) fun x4 =>
 some ((Trust.mk x4.1 a21 a23), x4.2.1, x4.2.2)
 ) (z4y a1 a3 a7 a9 a11 a13 a15 a17 a19 a21 a23) :=
 gL o4' (q0a Tryz.f110 [1,1,1,1,0,1,0,0,1,0,0])
theorem y2v (a1 : List Int) (a3 : Int) (a5 : List Int) (a7 : Int) : Le (
 bif ltB 0 a3 then
 Option.bind (z10 (addI .i64 a3 1) a5 a7) fun x0 =>
 nth a1 x0.1 fun _ =>
 nth a1 a3 fun _ =>
 nthN a1 (Int.toNat x0.1) fun y1 =>
 nthN a1 (Int.toNat a3) fun y2 =>
 nth a1 a3 fun _ =>
 nthN a1 (Int.toNat a3) fun _y3 =>
 nth (List.set a1 (Int.toNat a3) y1) x0.1 fun _ =>
 nthN (List.set a1 (Int.toNat a3) y1) (Int.toNat x0.1) fun _y4 =>
 z3t (List.set (List.set a1 (Int.toNat a3) y1) (Int.toNat x0.1) y2) (subI .i64 a3 1) x0.2.1 x0.2.2
 else
 some (a1, a5, a7)
 ) (z3t a1 a3 a5 a7) :=
 gL o21' (q0a Tryz.f131 [1,1,1,0,1,0,0])
theorem qli (a0 : List Trust) (a2 a4 a6 : Int) (a8 : List Int) (a10 : List Trust) : Le (
 bif ltB a4 a2 then
 nth a0 a4 fun y0 =>
 Option.bind (z40 y0) fun x1 =>
 bif neB x1 0 then
 some x1
 else
 z1p a0 a2 (addI .i64 a4 1) a6 a8 a10
 else
 some 0
 ) (z1p a0 a2 a4 a6 a8 a10) :=
 gL o0' (q0a Tryz.f115 [1,1,1,1,0,1,0,0])
theorem qe8 (a0 : Int) (a2 : List Int) (a4 a6 : Int) : Le (
 bif ltB a6 a4 then
 nth a2 a6 fun y0 =>
 bif ltB y0 0 then
 some (0, 5)
 else
 bif leB 10 y0 then
 some (0, 5)
 else
 Option.bind (z2y a0 y0) fun x1 =>
 bif x1 then
 some (0, 6)
 else
 chk (0 <= y0) <|
 z2c (orI .i64 a0 (shlI .i64 1 y0)) a2 a4 (addI .i64 a6 1)
 else
 some (a0, 0)
 ) (z2c a0 a2 a4 a6) :=
 gL o5' (q0a Tryz.f133 [1,1,0,1,0,0])
theorem y7q (a1 : Int) (a3 : List Int) (a5 : Bool) (a7 : List Int) (a9 a11 : Int) (a13 : Bool) (a15 : List Member) : Le (
 bif a5 then
 Option.bind (z5i a1) fun x0 =>
 z20 a1 a3 false x0 (x0.length : Int) 0 a15
 else
 some a3
 ) (z4c a1 a3 a5 a7 a9 a11 a13 a15) :=
 gL o2' (q0a Tryz.f54 [1,1,1,1,0,1,0,0])
theorem y1e (a0 : Int) (a2 : List Trust) (a4 a6 a8 : Int) (a10 : List Int) (a12 : List Trust) : Le (
 bif ltB a6 a4 then
 nth a2 a6 fun y0 =>
 Option.bind (z71 y0) fun x1 =>
 z4n (orI .i64 a0 x1) a2 a4 (addI .i64 a6 1) a8 a10 a12
 else
 some a0
 ) (z4n a0 a2 a4 a6 a8 a10 a12) :=
 gL o0' (q0a Tryz.f88 [1,1,1,0,1,0,0])
theorem y24 (a0 : Int) (a4 : List Trust) (a6 a8 a10 : Int) (a12 : List Int) (a14 : List Trust) (a16 : Int) (a18 : List Int) (a20 : List Trust) (a22 : Int) (a24 : List Int) (a26 : List Trust) : Le (
 bif ltB a8 a6 then
 nth a4 a8 fun y0 =>
 Option.bind (z73 y0 a0) fun x1 =>
 bif leB x1.Threshold 0 then
 Option.bind (z6q a22) fun x2 =>
 z3m a0 a4 a6 (addI .i64 a8 1) a10 a12 a14 a16 a18 a20 x2 a24 a26
 else
 capOk (List.length a26 + List.length ([(Trust.mk x1.Threshold x1.Nodes x1.Inner)] : List Trust)) <|
 z3m a0 a4 a6 (addI .i64 a8 1) a10 a12 a14 a16 a18 a20 a22 a24 (a26 ++ ([(Trust.mk x1.Threshold x1.Nodes x1.Inner)] : List Trust))
 else
 some (Trust.mk a22 a24 a26)
 ) (z3m a0 a4 a6 a8 a10 a12 a14 a16 a18 a20 a22 a24 a26) :=
 gL o6' (q0a Tryz.f117 [1,1,1,0,1,0,0])
theorem y7d (a1 a3 a6 : Int) (a8 : List Int) : Le (
 bif ltB a6 a3 then
 z0g a1 a3 a6 a6 a8
 else
 some a8
 ) (z0d a1 a3 a6 a8) :=
 gL o3' (q0a Tryz.f153 [1,0,0])
theorem y0g (a2 a4 a6 a8 : Int) (a10 : List Int) : Le (
 bif leB 0 a8 then
 Option.bind (z11 a8 a6 a2 a10) fun x0 =>
 z0o a2 a4 a6 (subI .i64 a8 1) x0
 else
 z0p a2 a4 (subI .i64 a6 1) a10
 ) (z0o a2 a4 a6 a8 a10) :=
 gL o3' (q0a Tryz.f154 [1,1,1,0,1,0,0])
theorem yah (lo_1 hi_2 first_3 : Int) (h0 : List Int) : Le (
 z0c hi_2 first_3 lo_1 h0
 ) (z11 lo_1 hi_2 first_3 h0) :=
 cL o3' Tryz.func169
theorem y2d (a1 a3 a6 a8 : Int) (a10 : List Int) (a12 : Int) : Le (
 bif (leB a8 (addI .i64 (addI .i64 a1 (mulI .i64 (quoI .i64 a3 4) 2)) 1)) then
 Option.bind (z4d a12) fun x0 =>
 bif (leB a3 (IntKind.wrap .i64 (andI .u64 x0.1 (subI .u64 a6 1)))) then
 nth a10 (addI .i64 a1 (subI .i64 (IntKind.wrap .i64 (andI .u64 x0.1 (subI .u64 a6 1))) a3)) fun _ =>
 nth a10 a8 fun _ =>
 nthN a10 (Int.toNat (addI .i64 a1 (subI .i64 (IntKind.wrap .i64 (andI .u64 x0.1 (subI .u64 a6 1))) a3))) fun y1 =>
 nthN a10 (Int.toNat a8) fun y2 =>
 nth a10 a8 fun _ =>
 nthN a10 (Int.toNat a8) fun _y3 =>
 nth (List.set a10 (Int.toNat a8) y1) (addI .i64 a1 (subI .i64 (IntKind.wrap .i64 (andI .u64 x0.1 (subI .u64 a6 1))) a3)) fun _ =>
 nthN (List.set a10 (Int.toNat a8) y1) (Int.toNat (addI .i64 a1 (subI .i64 (IntKind.wrap .i64 (andI .u64 x0.1 (subI .u64 a6 1))) a3))) fun _y4 =>
 z0b a1 a3 a6 (addI .i64 a8 1) (List.set (List.set a10 (Int.toNat a8) y1) (Int.toNat (addI .i64 a1 (subI .i64 (IntKind.wrap .i64 (andI .u64 x0.1 (subI .u64 a6 1))) a3))) y2) x0.2
 else
 nth a10 (addI .i64 a1 (IntKind.wrap .i64 (andI .u64 x0.1 (subI .u64 a6 1)))) fun _ =>
 nth a10 a8 fun _ =>
 nthN a10 (Int.toNat (addI .i64 a1 (IntKind.wrap .i64 (andI .u64 x0.1 (subI .u64 a6 1))))) fun y5 =>
 nthN a10 (Int.toNat a8) fun y6 =>
 nth a10 a8 fun _ =>
 nthN a10 (Int.toNat a8) fun _y7 =>
 nth (List.set a10 (Int.toNat a8) y5) (addI .i64 a1 (IntKind.wrap .i64 (andI .u64 x0.1 (subI .u64 a6 1)))) fun _ =>
 nthN (List.set a10 (Int.toNat a8) y5) (Int.toNat (addI .i64 a1 (IntKind.wrap .i64 (andI .u64 x0.1 (subI .u64 a6 1))))) fun _y8 =>
 z0b a1 a3 a6 (addI .i64 a8 1) (List.set (List.set a10 (Int.toNat a8) y5) (Int.toNat (addI .i64 a1 (IntKind.wrap .i64 (andI .u64 x0.1 (subI .u64 a6 1))))) y6) x0.2
 else
 some a10
 ) (z0b a1 a3 a6 a8 a10 a12) :=
 gL o3' (q0a Tryz.f155 [1,1,0,1,1,1,0,0])
theorem y8f (h0 : Int) : Le (
 some ((xorI .u64 (xorI .u64 (xorI .u64 h0 (shlI .u64 h0 13)) (shrI .u64 (xorI .u64 h0 (shlI .u64 h0 13)) 7)) (shlI .u64 (xorI .u64 (xorI .u64 h0 (shlI .u64 h0 13)) (shrI .u64 (xorI .u64 h0 (shlI .u64 h0 13)) 7)) 17)), (xorI .u64 (xorI .u64 (xorI .u64 h0 (shlI .u64 h0 13)) (shrI .u64 (xorI .u64 h0 (shlI .u64 h0 13)) 7)) (shlI .u64 (xorI .u64 (xorI .u64 h0 (shlI .u64 h0 13)) (shrI .u64 (xorI .u64 h0 (shlI .u64 h0 13)) 7)) 17)))
 ) (z4d h0) :=
 cL o31' Tryz.func171
theorem y6e (a1 a3 : Int) (a5 : List Int) : Le (
 bif ltB a1 a3 then
 nth a5 a3 fun _ =>
 nth a5 a1 fun _ =>
 nthN a5 (Int.toNat a3) fun y0 =>
 nthN a5 (Int.toNat a1) fun y1 =>
 nth a5 a1 fun _ =>
 nthN a5 (Int.toNat a1) fun _y2 =>
 nth (List.set a5 (Int.toNat a1) y0) a3 fun _ =>
 nthN (List.set a5 (Int.toNat a1) y0) (Int.toNat a3) fun _y3 =>
 z0s (addI .i64 a1 1) (subI .i64 a3 1) (List.set (List.set a5 (Int.toNat a1) y0) (Int.toNat a3) y1)
 else
 some a5
 ) (z0s a1 a3 a5) :=
 gL o3' (q0a Tryz.f157 [1,1,0,0])
theorem y3g (a1 a3 a6 a8 : Int) (a10 : List Int) : Le (
 bif ltB a8 5 then
 z0t a1 a3 a6 a8 true a10
 else
 some (false, a10)
 ) (z03 a1 a3 a6 a8 a10) :=
 gL o11' (q0a Tryz.f158 [1,1,0,1,0,0])
theorem y9x (a1 a4 a6 : Int) (a8 : List Int) : Le (
 z0q a1 a4 a6 a8
 ) (z0a a1 a4 a6 a8) :=
 gL o15' (q0a Tryz.f159 [1,1,1,0,0,0])
theorem y9p (a1 a4 a6 : Int) (a8 : List Int) : Le (
 bif leB a4 a6 then
 nth a8 a4 fun _ =>
 nth a8 a1 fun _ =>
 nthN a8 (Int.toNat a4) fun y0 =>
 nthN a8 (Int.toNat a1) fun y1 =>
 Option.bind (z08 y0 y1) fun x2 =>
 bif ltB x2 0 then
 z0w a1 (addI .i64 a4 1) a6 a8
 else
 z0l a1 a4 a6 false a8
 else
 z0l a1 a4 a6 false a8
 ) (z0w a1 a4 a6 a8) :=
 gL o8' (q0a Tryz.f160 [1,1,1,0,0,0])
theorem qyk (a0 : Int) (a2 : List Int) (a4 a6 : Int) : Le (
 bif ltB a6 a4 then
 nth a2 a6 fun y0 =>
 bif neB y0 a0 then
 some y0
 else
 z4v a0 a2 a4 (addI .i64 a6 1)
 else
 some a0
 ) (z4v a0 a2 a4 a6) :=
 gL o0' (q0a Tryz.f143 [1,1,0,1,0,0])
theorem y1c (a0 : Int) (a4 : List Trust) (a6 a8 a10 : Int) (a12 : List Int) (a14 : List Trust) (a16 : Int) (a18 : List Int) (a20 : List Trust) (a22 : Int) (a24 : List Int) (a26 : List Trust) : Le (
 bif ltB a8 a6 then
 nth a4 a8 fun y0 =>
 Option.bind (z5q y0 a0) fun x1 =>
 bif eqB x1.Threshold 0 then
 Option.bind (z4t a22 1) fun x2 =>
 z27 a0 a4 a6 (addI .i64 a8 1) a10 a12 a14 a16 a18 a20 x2 a24 a26
 else
 capOk (List.length a26 + List.length ([(Trust.mk x1.Threshold x1.Nodes x1.Inner)] : List Trust)) <|
 z27 a0 a4 a6 (addI .i64 a8 1) a10 a12 a14 a16 a18 a20 a22 a24 (a26 ++ ([(Trust.mk x1.Threshold x1.Nodes x1.Inner)] : List Trust))
 else
 some (Trust.mk a22 a24 a26)
 ) (z27 a0 a4 a6 a8 a10 a12 a14 a16 a18 a20 a22 a24 a26) :=
 gL o6' (q0a Tryz.f123 [1,1,1,0,1,0,0])
theorem y1k (a0 a3 : Int) (a5 : List Trust) (a7 a9 a11 : Int) (a13 : List Int) (a15 : List Trust) : Le (
 bif ltB a9 a7 then
 nth a5 a9 fun y0 =>
 Option.bind (z1i y0 a0) fun x1 =>
 bif x1 then
 z1e a0 (addI .i64 a3 1) a5 a7 (addI .i64 a9 1) a11 a13 a15
 else
 z1e a0 a3 a5 a7 (addI .i64 a9 1) a11 a13 a15
 else
 some (leB a11 a3)
 ) (z1e a0 a3 a5 a7 a9 a11 a13 a15) :=
 gL o1' (q0a Tryz.f93 [1,1,1,1,0,1,0,0])
theorem y3e (a0 : Int) (a2 : List Trust) (a4 a6 a8 : Int) (a10 : List Int) (a12 : List Trust) : Le (
 bif ltB a6 a4 then
 nth a2 a6 fun y0 =>
 Option.bind (z5s y0) fun x1 =>
 z2r (orI .i64 a0 x1) a2 a4 (addI .i64 a6 1) a8 a10 a12
 else
 some a0
 ) (z2r a0 a2 a4 a6 a8 a10 a12) :=
 gL o0' (q0a Tryz.f137 [1,1,1,0,1,0,0])
theorem y1u (a0 a5 a7 : Int) (a9 a11 : List Member) (a13 a15 a17 : Int) : Le (
 bif ltB a7 a5 then
 Option.bind (z6r (Config.mk a11) a0 a7) fun x0 =>
 bif x0 then
 some ((Refutation.mk a7 0 0), 0)
 else
 z4e a0 a5 (addI .i64 a7 1) a9 a11 a13 a15 a17
 else
 Option.bind (z43 (Config.mk a9) a0) fun x1 =>
 Option.bind (z5t x1) fun x2 =>
 bif neB x2.2.2 0 then
 some ((Refutation.mk 0 0 0), 11)
 else
 some ((Refutation.mk (-1) x2.1 x2.2.1), 0)
 ) (z4e a0 a5 a7 a9 a11 a13 a15 a17) :=
 gL o19' (q0a Tryz.f76 [1,1,0,1,0,0])
theorem y2h (a0 a2 : List Trust) (a4 a6 : Int) : Le (
 bif ltB a6 a4 then
 nth a2 a6 fun y0 =>
 z15 a0 0 false a2 a4 a6 (a0.length : Int) 0 y0.Threshold y0.Nodes y0.Inner
 else
 some a0
 ) (z22 a0 a2 a4 a6) :=
 gL o22' (q0a Tryz.f111 [1,1,0,1,0,0])
theorem y2k (a1 a3 a6 a8 : Int) (a10 : List Int) : Le (
 bif ltB a1 a8 then
 nth a10 a8 fun _ =>
 nth a10 (subI .i64 a8 1) fun _ =>
 nthN a10 (Int.toNat a8) fun y0 =>
 nthN a10 (Int.toNat (subI .i64 a8 1)) fun y1 =>
 Option.bind (z08 y0 y1) fun x2 =>
 bif ltB x2 0 then
 nth a10 (subI .i64 a8 1) fun _ =>
 nth a10 a8 fun _ =>
 nthN a10 (Int.toNat (subI .i64 a8 1)) fun y3 =>
 nthN a10 (Int.toNat a8) fun y4 =>
 nth a10 a8 fun _ =>
 nthN a10 (Int.toNat a8) fun _y5 =>
 nth (List.set a10 (Int.toNat a8) y3) (subI .i64 a8 1) fun _ =>
 nthN (List.set a10 (Int.toNat a8) y3) (Int.toNat (subI .i64 a8 1)) fun _y6 =>
 z0g a1 a3 a6 (subI .i64 a8 1) (List.set (List.set a10 (Int.toNat a8) y3) (Int.toNat (subI .i64 a8 1)) y4)
 else
 z0d a1 a3 (addI .i64 a6 1) a10
 else
 z0d a1 a3 (addI .i64 a6 1) a10
 ) (z0g a1 a3 a6 a8 a10) :=
 gL o3' (q0a Tryz.f153 [1,0,0,1,0,0,1,0,0])
theorem y3m (a2 a4 a6 : Int) (a8 : List Int) : Le (
 bif leB 0 a6 then
 nth a8 (addI .i64 a2 a6) fun _ =>
 nth a8 a2 fun _ =>
 nthN a8 (Int.toNat (addI .i64 a2 a6)) fun y0 =>
 nthN a8 (Int.toNat a2) fun y1 =>
 nth a8 a2 fun _ =>
 nthN a8 (Int.toNat a2) fun _y2 =>
 nth (List.set a8 (Int.toNat a2) y0) (addI .i64 a2 a6) fun _ =>
 nthN (List.set a8 (Int.toNat a2) y0) (Int.toNat (addI .i64 a2 a6)) fun _y3 =>
 Option.bind (z11 a4 a6 a2 (List.set (List.set a8 (Int.toNat a2) y0) (Int.toNat (addI .i64 a2 a6)) y1)) fun x4 =>
 z0p a2 a4 (subI .i64 a6 1) x4
 else
 some a8
 ) (z0p a2 a4 a6 a8) :=
 gL o3' (q0a Tryz.f154 [1,1,1,1,1,0,0])
theorem ya2 (a1 a3 a6 : Int) (a8 : List Int) : Le (
 bif (leB a1 (addI .i64 (mulI .i64 2 a6) 1)) then
 some a8
 else
 bif (ltB (addI .i64 (addI .i64 (mulI .i64 2 a6) 1) 1) a1) then
 nth a8 (addI .i64 a3 (addI .i64 (mulI .i64 2 a6) 1)) fun _ =>
 nth a8 (addI .i64 (addI .i64 a3 (addI .i64 (mulI .i64 2 a6) 1)) 1) fun _ =>
 nthN a8 (Int.toNat (addI .i64 a3 (addI .i64 (mulI .i64 2 a6) 1))) fun y0 =>
 nthN a8 (Int.toNat (addI .i64 (addI .i64 a3 (addI .i64 (mulI .i64 2 a6) 1)) 1)) fun y1 =>
 Option.bind (z08 y0 y1) fun x2 =>
 bif ltB x2 0 then
 nth a8 (addI .i64 a3 a6) fun _ =>
 nth a8 (addI .i64 a3 (addI .i64 (addI .i64 (mulI .i64 2 a6) 1) 1)) fun _ =>
 nthN a8 (Int.toNat (addI .i64 a3 a6)) fun y3 =>
 nthN a8 (Int.toNat (addI .i64 a3 (addI .i64 (addI .i64 (mulI .i64 2 a6) 1) 1))) fun y4 =>
 Option.bind (z08 y3 y4) fun x5 =>
 bif !(ltB x5 0) then
 some a8
 else
 nth a8 (addI .i64 a3 (addI .i64 (addI .i64 (mulI .i64 2 a6) 1) 1)) fun _ =>
 nth a8 (addI .i64 a3 a6) fun _ =>
 nthN a8 (Int.toNat (addI .i64 a3 (addI .i64 (addI .i64 (mulI .i64 2 a6) 1) 1))) fun y6 =>
 nthN a8 (Int.toNat (addI .i64 a3 a6)) fun y7 =>
 nth a8 (addI .i64 a3 a6) fun _ =>
 nthN a8 (Int.toNat (addI .i64 a3 a6)) fun _y8 =>
 nth (List.set a8 (Int.toNat (addI .i64 a3 a6)) y6) (addI .i64 a3 (addI .i64 (addI .i64 (mulI .i64 2 a6) 1) 1)) fun _ =>
 nthN (List.set a8 (Int.toNat (addI .i64 a3 a6)) y6) (Int.toNat (addI .i64 a3 (addI .i64 (addI .i64 (mulI .i64 2 a6) 1) 1))) fun _y9 =>
 z0c a1 a3 (addI .i64 (addI .i64 (mulI .i64 2 a6) 1) 1) (List.set (List.set a8 (Int.toNat (addI .i64 a3 a6)) y6) (Int.toNat (addI .i64 a3 (addI .i64 (addI .i64 (mulI .i64 2 a6) 1) 1))) y7)
 else
 nth a8 (addI .i64 a3 a6) fun _ =>
 nth a8 (addI .i64 a3 (addI .i64 (mulI .i64 2 a6) 1)) fun _ =>
 nthN a8 (Int.toNat (addI .i64 a3 a6)) fun y10 =>
 nthN a8 (Int.toNat (addI .i64 a3 (addI .i64 (mulI .i64 2 a6) 1))) fun y11 =>
 Option.bind (z08 y10 y11) fun x12 =>
 bif !(ltB x12 0) then
 some a8
 else
 nth a8 (addI .i64 a3 (addI .i64 (mulI .i64 2 a6) 1)) fun _ =>
 nth a8 (addI .i64 a3 a6) fun _ =>
 nthN a8 (Int.toNat (addI .i64 a3 (addI .i64 (mulI .i64 2 a6) 1))) fun y13 =>
 nthN a8 (Int.toNat (addI .i64 a3 a6)) fun y14 =>
 nth a8 (addI .i64 a3 a6) fun _ =>
 nthN a8 (Int.toNat (addI .i64 a3 a6)) fun _y15 =>
 nth (List.set a8 (Int.toNat (addI .i64 a3 a6)) y13) (addI .i64 a3 (addI .i64 (mulI .i64 2 a6) 1)) fun _ =>
 nthN (List.set a8 (Int.toNat (addI .i64 a3 a6)) y13) (Int.toNat (addI .i64 a3 (addI .i64 (mulI .i64 2 a6) 1))) fun _y16 =>
 z0c a1 a3 (addI .i64 (mulI .i64 2 a6) 1) (List.set (List.set a8 (Int.toNat (addI .i64 a3 a6)) y13) (Int.toNat (addI .i64 a3 (addI .i64 (mulI .i64 2 a6) 1))) y14)
 else
 nth a8 (addI .i64 a3 a6) fun _ =>
 nth a8 (addI .i64 a3 (addI .i64 (mulI .i64 2 a6) 1)) fun _ =>
 nthN a8 (Int.toNat (addI .i64 a3 a6)) fun y17 =>
 nthN a8 (Int.toNat (addI .i64 a3 (addI .i64 (mulI .i64 2 a6) 1))) fun y18 =>
 Option.bind (z08 y17 y18) fun x19 =>
 bif !(ltB x19 0) then
 some a8
 else
 nth a8 (addI .i64 a3 (addI .i64 (mulI .i64 2 a6) 1)) fun _ =>
 nth a8 (addI .i64 a3 a6) fun _ =>
 nthN a8 (Int.toNat (addI .i64 a3 (addI .i64 (mulI .i64 2 a6) 1))) fun y20 =>
 nthN a8 (Int.toNat (addI .i64 a3 a6)) fun y21 =>
 nth a8 (addI .i64 a3 a6) fun _ =>
 nthN a8 (Int.toNat (addI .i64 a3 a6)) fun _y22 =>
 nth (List.set a8 (Int.toNat (addI .i64 a3 a6)) y20) (addI .i64 a3 (addI .i64 (mulI .i64 2 a6) 1)) fun _ =>
 nthN (List.set a8 (Int.toNat (addI .i64 a3 a6)) y20) (Int.toNat (addI .i64 a3 (addI .i64 (mulI .i64 2 a6) 1))) fun _y23 =>
 z0c a1 a3 (addI .i64 (mulI .i64 2 a6) 1) (List.set (List.set a8 (Int.toNat (addI .i64 a3 a6)) y20) (Int.toNat (addI .i64 a3 (addI .i64 (mulI .i64 2 a6) 1))) y21)
 ) (z0c a1 a3 a6 a8) :=
 gL o3' (q0a Tryz.f169 [1,0,0])
theorem y6q (a1 a3 a6 a8 : Int) (a10 : Bool) (a12 : List Int) : Le (
 bif ltB a6 a3 then
 nth a12 a6 fun _ =>
 nth a12 (subI .i64 a6 1) fun _ =>
 nthN a12 (Int.toNat a6) fun y0 =>
 nthN a12 (Int.toNat (subI .i64 a6 1)) fun y1 =>
 Option.bind (z08 y0 y1) fun x2 =>
 bif !(ltB x2 0) then
 z0h a1 a3 (addI .i64 a6 1) a8 a12
 else
 bif eqB a6 a3 then
 some (true, a12)
 else
 bif ltB (subI .i64 a3 a1) 50 then
 some (false, a12)
 else
 nth a12 (subI .i64 a6 1) fun _ =>
 nth a12 a6 fun _ =>
 nthN a12 (Int.toNat (subI .i64 a6 1)) fun y3 =>
 nthN a12 (Int.toNat a6) fun y4 =>
 nth a12 a6 fun _ =>
 nthN a12 (Int.toNat a6) fun _y5 =>
 nth (List.set a12 (Int.toNat a6) y3) (subI .i64 a6 1) fun _ =>
 nthN (List.set a12 (Int.toNat a6) y3) (Int.toNat (subI .i64 a6 1)) fun _y6 =>
 bif leB 2 (subI .i64 a6 a1) then
 z07 a1 a3 a6 a8 (subI .i64 a6 1) (List.set (List.set a12 (Int.toNat a6) y3) (Int.toNat (subI .i64 a6 1)) y4)
 else
 bif leB 2 (subI .i64 a3 a6) then
 z05 a1 a3 a6 a8 (addI .i64 a6 1) (List.set (List.set a12 (Int.toNat a6) y3) (Int.toNat (subI .i64 a6 1)) y4)
 else
 z03 a1 a3 a6 (addI .i64 a8 1) (List.set (List.set a12 (Int.toNat a6) y3) (Int.toNat (subI .i64 a6 1)) y4)
 else
 bif eqB a6 a3 then
 some (true, a12)
 else
 bif ltB (subI .i64 a3 a1) 50 then
 some (false, a12)
 else
 nth a12 (subI .i64 a6 1) fun _ =>
 nth a12 a6 fun _ =>
 nthN a12 (Int.toNat (subI .i64 a6 1)) fun y7 =>
 nthN a12 (Int.toNat a6) fun y8 =>
 nth a12 a6 fun _ =>
 nthN a12 (Int.toNat a6) fun _y9 =>
 nth (List.set a12 (Int.toNat a6) y7) (subI .i64 a6 1) fun _ =>
 nthN (List.set a12 (Int.toNat a6) y7) (Int.toNat (subI .i64 a6 1)) fun _y10 =>
 bif leB 2 (subI .i64 a6 a1) then
 z07 a1 a3 a6 a8 (subI .i64 a6 1) (List.set (List.set a12 (Int.toNat a6) y7) (Int.toNat (subI .i64 a6 1)) y8)
 else
 bif leB 2 (subI .i64 a3 a6) then
 z05 a1 a3 a6 a8 (addI .i64 a6 1) (List.set (List.set a12 (Int.toNat a6) y7) (Int.toNat (subI .i64 a6 1)) y8)
 else
 z03 a1 a3 a6 (addI .i64 a8 1) (List.set (List.set a12 (Int.toNat a6) y7) (Int.toNat (subI .i64 a6 1)) y8)
 ) (z0t a1 a3 a6 a8 a10 a12) :=
 gL o11' (q0a Tryz.f158 [1,1,0,1,0,0,1,0,0,0,0,0])
theorem ya9 (a1 a4 a6 : Int) (a8 : List Int) : Le (
 bif leB a4 a6 then
 nth a8 a1 fun _ =>
 nth a8 a4 fun _ =>
 nthN a8 (Int.toNat a1) fun y0 =>
 nthN a8 (Int.toNat a4) fun y1 =>
 Option.bind (z08 y0 y1) fun x2 =>
 bif !(ltB x2 0) then
 z0q a1 (addI .i64 a4 1) a6 a8
 else
 z0f a1 a4 a6 false a8
 else
 z0f a1 a4 a6 false a8
 ) (z0q a1 a4 a6 a8) :=
 gL o15' (q0a Tryz.f159 [1,1,1,0,0,0,0,0,0,0])
theorem y9a (a1 a4 a6 : Int) (a8 : Bool) (a10 : List Int) : Le (
 bif leB a4 a6 then
 nth a10 a6 fun _ =>
 nth a10 a1 fun _ =>
 nthN a10 (Int.toNat a6) fun y0 =>
 nthN a10 (Int.toNat a1) fun y1 =>
 Option.bind (z08 y0 y1) fun x2 =>
 bif !(ltB x2 0) then
 z0x a1 a4 (subI .i64 a6 1) a10
 else
 bif ltB a6 a4 then
 nth a10 a1 fun _ =>
 nth a10 a6 fun _ =>
 nthN a10 (Int.toNat a1) fun y3 =>
 nthN a10 (Int.toNat a6) fun y4 =>
 nth a10 a6 fun _ =>
 nthN a10 (Int.toNat a6) fun _y5 =>
 nth (List.set a10 (Int.toNat a6) y3) a1 fun _ =>
 nthN (List.set a10 (Int.toNat a6) y3) (Int.toNat a1) fun _y6 =>
 some (a6, true, (List.set (List.set a10 (Int.toNat a6) y3) (Int.toNat a1) y4))
 else
 nth a10 a6 fun _ =>
 nth a10 a4 fun _ =>
 nthN a10 (Int.toNat a6) fun y7 =>
 nthN a10 (Int.toNat a4) fun y8 =>
 nth a10 a4 fun _ =>
 nthN a10 (Int.toNat a4) fun _y9 =>
 nth (List.set a10 (Int.toNat a4) y7) a6 fun _ =>
 nthN (List.set a10 (Int.toNat a4) y7) (Int.toNat a6) fun _y10 =>
 z06 a1 (addI .i64 a4 1) (subI .i64 a6 1) (List.set (List.set a10 (Int.toNat a4) y7) (Int.toNat a6) y8)
 else
 bif ltB a6 a4 then
 nth a10 a1 fun _ =>
 nth a10 a6 fun _ =>
 nthN a10 (Int.toNat a1) fun y11 =>
 nthN a10 (Int.toNat a6) fun y12 =>
 nth a10 a6 fun _ =>
 nthN a10 (Int.toNat a6) fun _y13 =>
 nth (List.set a10 (Int.toNat a6) y11) a1 fun _ =>
 nthN (List.set a10 (Int.toNat a6) y11) (Int.toNat a1) fun _y14 =>
 some (a6, true, (List.set (List.set a10 (Int.toNat a6) y11) (Int.toNat a1) y12))
 else
 nth a10 a6 fun _ =>
 nth a10 a4 fun _ =>
 nthN a10 (Int.toNat a6) fun y15 =>
 nthN a10 (Int.toNat a4) fun y16 =>
 nth a10 a4 fun _ =>
 nthN a10 (Int.toNat a4) fun _y17 =>
 nth (List.set a10 (Int.toNat a4) y15) a6 fun _ =>
 nthN (List.set a10 (Int.toNat a4) y15) (Int.toNat a6) fun _y18 =>
 z06 a1 (addI .i64 a4 1) (subI .i64 a6 1) (List.set (List.set a10 (Int.toNat a4) y15) (Int.toNat a6) y16)
 ) (z0l a1 a4 a6 a8 a10) :=
 gL o8' (q0a Tryz.f160 [1,1,1,1,0,0,0])
theorem qqb (a0 : List Trust) (a3 : Int) (a5 : Bool) (a7 : List Trust) (a9 a11 a14 a16 a18 : Int) (a20 : List Int) (a22 : List Trust) : Le (
 bif ltB a16 a14 then
 nth a0 a16 fun _ =>
 nthN a0 (Int.toNat a16) fun y0 =>
 Option.bind (z63 y0 (Trust.mk a18 a20 a22)) fun x1 =>
 bif a5 then
 bif ltB x1 0 then
 z15 a0 (addI .i64 a16 1) true a7 a9 a11 a14 (addI .i64 a16 1) a18 a20 a22
 else
 z15 a0 a3 true a7 a9 a11 a14 (addI .i64 a16 1) a18 a20 a22
 else
 bif ltB x1 0 then
 z15 a0 (addI .i64 a16 1) (eqB x1 0) a7 a9 a11 a14 (addI .i64 a16 1) a18 a20 a22
 else
 z15 a0 a3 (eqB x1 0) a7 a9 a11 a14 (addI .i64 a16 1) a18 a20 a22
 else
 bif a5 then
 z22 a0 a7 a9 (addI .i64 a11 1)
 else
 capOk (List.length a0 + List.length ([(Trust.mk 0 ([] : List Int) ([] : List Trust))] : List Trust)) <|
 hiK (List.length (a0 ++ ([(Trust.mk 0 ([] : List Int) ([] : List Trust))] : List Trust))) (addI .i64 a3 1) fun b2 =>
 hiK (List.length (a0 ++ ([(Trust.mk 0 ([] : List Int) ([] : List Trust))] : List Trust))) a3 fun b3 =>
 chk ((List.length (a0 ++ ([(Trust.mk 0 ([] : List Int) ([] : List Trust))] : List Trust))) <= List.length (a0 ++ ([(Trust.mk 0 ([] : List Int) ([] : List Trust))] : List Trust))) <|
 chk ((List.length (a0 ++ ([(Trust.mk 0 ([] : List Int) ([] : List Trust))] : List Trust))) <= List.length (a0 ++ ([(Trust.mk 0 ([] : List Int) ([] : List Trust))] : List Trust))) <|
 nth (List.take b2 (a0 ++ ([(Trust.mk 0 ([] : List Int) ([] : List Trust))] : List Trust)) ++ List.take ((List.length (a0 ++ ([(Trust.mk 0 ([] : List Int) ([] : List Trust))] : List Trust))) - b2) (List.drop b3 (List.take (List.length (a0 ++ ([(Trust.mk 0 ([] : List Int) ([] : List Trust))] : List Trust))) (a0 ++ ([(Trust.mk 0 ([] : List Int) ([] : List Trust))] : List Trust)))) ++ List.drop (b2 + (min ((List.length (a0 ++ ([(Trust.mk 0 ([] : List Int) ([] : List Trust))] : List Trust))) - b2) (List.length (List.drop b3 (List.take (List.length (a0 ++ ([(Trust.mk 0 ([] : List Int) ([] : List Trust))] : List Trust))) (a0 ++ ([(Trust.mk 0 ([] : List Int) ([] : List Trust))] : List Trust))))))) (a0 ++ ([(Trust.mk 0 ([] : List Int) ([] : List Trust))] : List Trust))) a3 fun _ =>
 nthN (List.take b2 (a0 ++ ([(Trust.mk 0 ([] : List Int) ([] : List Trust))] : List Trust)) ++ List.take ((List.length (a0 ++ ([(Trust.mk 0 ([] : List Int) ([] : List Trust))] : List Trust))) - b2) (List.drop b3 (List.take (List.length (a0 ++ ([(Trust.mk 0 ([] : List Int) ([] : List Trust))] : List Trust))) (a0 ++ ([(Trust.mk 0 ([] : List Int) ([] : List Trust))] : List Trust)))) ++ List.drop (b2 + (min ((List.length (a0 ++ ([(Trust.mk 0 ([] : List Int) ([] : List Trust))] : List Trust))) - b2) (List.length (List.drop b3 (List.take (List.length (a0 ++ ([(Trust.mk 0 ([] : List Int) ([] : List Trust))] : List Trust))) (a0 ++ ([(Trust.mk 0 ([] : List Int) ([] : List Trust))] : List Trust))))))) (a0 ++ ([(Trust.mk 0 ([] : List Int) ([] : List Trust))] : List Trust))) (Int.toNat a3) fun _y4 =>
 z22 (List.set (List.take b2 (a0 ++ ([(Trust.mk 0 ([] : List Int) ([] : List Trust))] : List Trust)) ++ List.take ((List.length (a0 ++ ([(Trust.mk 0 ([] : List Int) ([] : List Trust))] : List Trust))) - b2) (List.drop b3 (List.take (List.length (a0 ++ ([(Trust.mk 0 ([] : List Int) ([] : List Trust))] : List Trust))) (a0 ++ ([(Trust.mk 0 ([] : List Int) ([] : List Trust))] : List Trust)))) ++ List.drop (b2 + (min ((List.length (a0 ++ ([(Trust.mk 0 ([] : List Int) ([] : List Trust))] : List Trust))) - b2) (List.length (List.drop b3 (List.take (List.length (a0 ++ ([(Trust.mk 0 ([] : List Int) ([] : List Trust))] : List Trust))) (a0 ++ ([(Trust.mk 0 ([] : List Int) ([] : List Trust))] : List Trust))))))) (a0 ++ ([(Trust.mk 0 ([] : List Int) ([] : List Trust))] : List Trust))) (Int.toNat a3) (Trust.mk a18 a20 a22)) a7 a9 (addI .i64 a11 1)
 ) (z15 a0 a3 a5 a7 a9 a11 a14 a16 a18 a20 a22) :=
 gL o22' (q0a Tryz.f111 [1,1,0,1,0,0,1,1,0,0,1,1,0,1,0,0])
end Go.Proofs.YtjfhnffdijlboaaGreat
