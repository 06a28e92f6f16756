/- What the functions come to, printed by a program and checked by the kernel. -/
import Derived.Test.YtjfhnffdijlboaaGreatP15Df
namespace Go.Proofs.YtjfhnffdijlboaaGreat
open Go Go.Ab
set_option maxRecDepth 100000
theorem y62 (low_0 : Config) (ill_1 v_2 : Int) : Le (
 Option.bind (z5l low_0) fun x0 =>
 Option.bind (z4v x0) fun x1 =>
 z2m ill_1 v_2 ([] : List Int) x1 (x1.length : Int) 0 low_0.Members
 ) (z66 low_0 ill_1 v_2) :=
 cL o2' Tryz.func64
theorem y2l (a0 a3 : Int) (a5 : List Int) (a7 a9 a11 : Int) (a13 : List Int) (a15 : List Trust) : Le (
 bif ltB a9 a7 then
 nth a5 a9 fun y0 =>
 Option.bind (z2q a0 y0) fun x1 =>
 bif x1 then
 z2h a0 (addI .i64 a3 1) a5 a7 (addI .i64 a9 1) a11 a13 a15
 else
 z2h a0 a3 a5 a7 (addI .i64 a9 1) a11 a13 a15
 else
 z20 a0 a3 a15 (a15.length : Int) 0 a11 a13 a15
 ) (z2h a0 a3 a5 a7 a9 a11 a13 a15) :=
 gL o1' (q01 Tryz.f44 [1,1,1,0,1,0,0])
theorem y24 (a4 a6 a8 a10 a12 : Int) (a14 : List Explanation) (a16 a18 a20 a22 a24 a26 : Int) (a28 : List Refutation) (a30 : List Int) (a32 : Int) (a34 a36 : List Member) (a38 a40 a42 a44 : Int) (a46 : List Refutation) : Le (
 bif ltB a18 a16 then
 nth a14 a18 fun y0 =>
 Option.bind (z5s (Config.mk a34) (Config.mk a36) a4 a8 y0) fun x1 =>
 bif x1 then
 Option.bind (z2q a6 a8) fun x2 =>
 bif (!((eqB y0.Kind 1) == x2)) then
 some false
 else
 z1l a4 a6 a8 a10 a12 a14 a16 (addI .i64 a18 1) a20 a22 a24 a26 a28 a30 a32 a34 a36 a38 a40 a42 a44 a46
 else
 z1l a4 a6 a8 a10 a12 a14 a16 (addI .i64 a18 1) a20 a22 a24 a26 a28 a30 a32 a34 a36 a38 a40 a42 a44 a46
 else
 z1k a4 a6 a10 (addI .i64 a12 1) a20 a22 a24 a26 a28 a30 a32 a34 a36
 ) (z1l a4 a6 a8 a10 a12 a14 a16 a18 a20 a22 a24 a26 a28 a30 a32 a34 a36 a38 a40 a42 a44 a46) :=
 gL o1' (q01 Tryz.f7 [1,1,1,1,1,1,1,0,1,0,0,1,1,0,0,1,1,1,1,0,0])
theorem y1d (a4 : List Int) (a6 a8 : Int) (a10 a12 : List Member) (a14 a16 a18 a20 : Int) (a22 : List Refutation) (a24 a26 a28 a30 : Int) (a32 : List Refutation) : Le (
 bif ltB a8 a6 then
 nth a4 a8 fun y0 =>
 Option.bind (z4q (Config.mk a10) (Config.mk a12) y0) fun x1 =>
 capOk (List.length a32 + List.length ([(Refutation.mk x1.1.Node x1.1.A x1.1.B)] : List Refutation)) <|
 z39 a4 a6 (addI .i64 a8 1) a10 a12 a14 a16 a18 a20 a22 a24 a26 a28 a30 (a32 ++ ([(Refutation.mk x1.1.Node x1.1.A x1.1.B)] : List Refutation))
 else
 some ((Explanation.mk a24 a26 a28 a30 a32), 0)
 ) (z39 a4 a6 a8 a10 a12 a14 a16 a18 a20 a22 a24 a26 a28 a30 a32) :=
 gL o22' (q01 Tryz.f25 [1,1,1,1,1,1,0,1,0,0])
theorem y9u (low_0 high_1 : Config) (b_2 : Int) : Le (
 Option.bind (z2z low_0 high_1 b_2) fun x0 =>
 bif neB x0 0 then
 some ((Refutation.mk 0 0 0), x0)
 else
 Option.bind (z1g high_1) fun x1 =>
 Option.bind (z4w (q1o .i64 x1 b_2)) fun x2 =>
 z2c b_2 x2 (x2.length : Int) 0 low_0.Members high_1.Members 0 0 0
 ) (z4q low_0 high_1 b_2) :=
 cL o24' Tryz.func61
theorem y6u (a0 a2 : Int) (a7 : Bool) (a9 a11 : List Member) (a13 a15 a17 a19 : Int) (a21 : List Refutation) : Le (
 bif eqB a13 1 then
 Option.bind (z22 (Config.mk a9) a0) fun x0 =>
 Option.bind (z76 (Config.mk a9) (Config.mk a11) a15) fun x1 =>
 bif x0.1 then
 bif eqB x1.2 0 then
 bif x1.1 then
 bif eqB (andI .i64 a15 a0) a0 then
 Option.bind (z2q a15 a2) fun x2 =>
 some (!x2)
 else
 some false
 else
 some false
 else
 some false
 else
 some false
 else
 bif eqB a13 2 then
 Option.bind (z5f (Config.mk a9) a0) fun x3 =>
 Option.bind (z1a x3 a17) fun x4 =>
 bif x4 then
 Option.bind (z1a x3 a19) fun x5 =>
 bif x5 then
 some (eqB (andI .i64 a17 a19) 0)
 else
 some false
 else
 some false
 else
 bif eqB a13 3 then
 Option.bind (z2q a0 a2) fun x6 =>
 some x6
 else
 bif eqB a13 4 then
 Option.bind (z66 (Config.mk a9) a0 a2) fun x7 =>
 bif (neB (x7.length : Int) (a21.length : Int)) then
 some false
 else
 z4i x7 (x7.length : Int) 0 a9 a11 a13 a15 a17 a19 a21
 else
 some false
 ) (z1u a0 a2 a7 a9 a11 a13 a15 a17 a19 a21) :=
 y8c (T := tn) (o := o1') sigOk 100000 (by kernel_rfl)
theorem y7b (low_0 high_1 : Config) (b_2 : Int) : Le (
 Option.bind (z5q low_0 high_1 b_2) fun x0 =>
 bif neB x0 0 then
 some (false, x0)
 else
 Option.bind (z70 low_0 high_1 b_2) fun x1 =>
 some (x1, 0)
 ) (z76 low_0 high_1 b_2) :=
 cL o10' Tryz.func63
theorem y28 (a0 : Int) (a2 a4 : List Int) (a6 a8 : Int) (a10 : List Member) : Le (
 bif ltB a8 a6 then
 nth a4 a8 fun y0 =>
 bif eqB (q1o .i64 a0 y0) 0 then
 capOk (List.length a2 + List.length ([y0] : List Int)) <|
 z2r a0 (a2 ++ ([y0] : List Int)) a4 a6 (addI .i64 a8 1) a10
 else
 z2r a0 a2 a4 a6 (addI .i64 a8 1) a10
 else
 some a2
 ) (z2r a0 a2 a4 a6 a8 a10) :=
 gL o2' (q01 Tryz.f60 [1,1,0,1,0,0])
theorem y0w (a0 : List Refutation) (a4 : List Int) (a6 a8 : Int) (a10 a12 : List Member) : Le (
 bif ltB a8 a6 then
 nth a4 a8 fun y0 =>
 nth a0 a8 fun y1 =>
 Option.bind (z51 (Config.mk a10) (Config.mk a12) y0 y1) fun x2 =>
 bif !x2 then
 some false
 else
 z3a a0 a4 a6 (addI .i64 a8 1) a10 a12
 else
 some true
 ) (z3a a0 a4 a6 a8 a10 a12) :=
 gL o1' (q01 Tryz.f71 [1,1,1,0,1,0,0])
theorem y9p (low_0 high_1 : Config) (b_2 : Int) (x_3 : Refutation) : Le (
 Option.bind (z2z low_0 high_1 b_2) fun x0 =>
 bif neB x0 0 then
 some false
 else
 bif leB 0 x_3.Node then
 bif eqB x_3.A 0 then
 bif eqB x_3.B 0 then
 Option.bind (z1g high_1) fun x1 =>
 Option.bind (z24 (q1o .i64 x1 b_2) x_3.Node) fun x2 =>
 bif x2 then
 Option.bind (z49 high_1 x_3.Node b_2) fun x3 =>
 some x3
 else
 some false
 else
 some false
 else
 some false
 else
 Option.bind (z2v low_0 b_2) fun x4 =>
 bif eqB x_3.Node (-1) then
 Option.bind (z1t x4 x_3.A) fun x5 =>
 bif x5 then
 Option.bind (z1t x4 x_3.B) fun x6 =>
 bif x6 then
 some (eqB (andI .i64 x_3.A x_3.B) 0)
 else
 some false
 else
 some false
 else
 some false
 ) (z51 low_0 high_1 b_2 x_3) :=
 cL o1' Tryz.func109
theorem y8g (high_0 : Config) (v_1 b_2 : Int) : Le (
 nth high_0.Members v_1 fun y0 =>
 bif !y0.Declared then
 some true
 else
 Option.bind (z1g high_0) fun x1 =>
 Option.bind (z1h y0.Trust (q1o .i64 x1 b_2)) fun x2 =>
 some (!x2)
 ) (z49 high_0 v_1 b_2) :=
 cL o1' Tryz.func101
theorem qmx (a0 : Int) (a3 : List Int) (a5 a7 : Int) (a9 : List Member) : Le (
 bif ltB a7 a5 then
 nth a3 a7 fun y0 =>
 Option.bind (z41 (Config.mk a9) y0 a0) fun x1 =>
 bif !x1 then
 some (y0, true)
 else
 z1f a0 a3 a5 (addI .i64 a7 1) a9
 else
 some (0, false)
 ) (z1f a0 a3 a5 a7 a9) :=
 gL o17' (q01 Tryz.f108 [1,0,1,0,0])
theorem y1n (c_0 : Config) (k_1 s_2 : Int) : Le (
 nth c_0.Members k_1 fun y0 =>
 Option.bind (z1h y0.Trust s_2) fun x1 =>
 some x1
 ) (z41 c_0 k_1 s_2) :=
 cL o1' Tryz.func130
theorem y31 (a0 : Int) (a2 : List Int) (a4 : Int) : Le (
 bif ltB a4 10 then
 Option.bind (z24 a0 a4) fun x0 =>
 bif x0 then
 capOk (List.length a2 + List.length ([a4] : List Int)) <|
 z31 a0 (a2 ++ ([a4] : List Int)) (addI .i64 a4 1)
 else
 z31 a0 a2 (addI .i64 a4 1)
 else
 some a2
 ) (z31 a0 a2 a4) :=
 gL o2' (q01 Tryz.f55 [1,1,0,1,0,0])
theorem y2y (a0 a3 : Int) (a5 : List Int) (a7 a9 : Int) (a11 a13 : List Member) : Le (
 bif ltB a9 a7 then
 nth a5 a9 fun y0 =>
 Option.bind (z4u (Config.mk a11) y0 (andI .i64 a3 a0)) fun x1 =>
 bif x1 then
 some (y0, true, 0)
 else
 z3b a0 a3 a5 a7 (addI .i64 a9 1) a11 a13
 else
 some ((-1), false, 0)
 ) (z3b a0 a3 a5 a7 a9 a11 a13) :=
 gL o16' (q01 Tryz.f23 [1,1,1,1,0,1,0,0])
theorem y9w (c_0 : Config) (v_1 s_2 : Int) : Le (
 Option.bind (z1j s_2) fun x0 =>
 bif !x0 then
 some false
 else
 Option.bind (z1b c_0) fun x1 =>
 Option.bind (z24 x1 v_1) fun x2 =>
 bif !x2 then
 some false
 else
 chk (0 ≤ v_1) <|
 nth c_0.Members v_1 fun y3 =>
 Option.bind (z1h y3.Trust (orI .i64 (q1o .i64 1023 s_2) (shlI .i64 1 v_1))) fun x4 =>
 some (!x4)
 ) (z4u c_0 v_1 s_2) :=
 cL o1' Tryz.func56
theorem y1u (a0 : Int) (a2 : List Int) (a4 a6 : Int) : Le (
 bif ltB a6 a4 then
 nth a2 a6 fun y0 =>
 bif eqB a0 y0 then
 some true
 else
 z6v a0 a2 a4 (addI .i64 a6 1)
 else
 some false
 ) (z6v a0 a2 a4 a6) :=
 gL o1' (q01 Tryz.f18 [1,0,1,0,0])
theorem y1b (a4 : List (List Trust)) (a7 : List Trust) (a9 : Int) (a11 : List Member) (a13 a15 : Int) (a17 : List Int) (a19 : Int) (a21 a23 a25 : List Member) (a27 : Bool) (a29 : Int) (a31 : List Int) (a33 : List Trust) : Le (
 bif ltB 0 a9 then
 Option.bind (z72 (Trust.mk a29 a31 a33) (a25.length : Int) a17 a19) fun x0 =>
 capOk (List.length a7 + List.length ([(Trust.mk x0.1.Threshold x0.1.Nodes x0.1.Inner)] : List Trust)) <|
 z64 a4 (a7 ++ ([(Trust.mk x0.1.Threshold x0.1.Nodes x0.1.Inner)] : List Trust)) (subI .i64 a9 1) a11 a13 a15 x0.2.1 x0.2.2 a21 a23 a25 a27 a29 a31 a33
 else
 capOk (List.length a4 + List.length ([a7] : List (List Trust))) <|
 z3h (a4 ++ ([a7] : List (List Trust))) a11 a13 (addI .i64 a15 1) a17 a19 a21 a23 a25
 ) (z64 a4 a7 a9 a11 a13 a15 a17 a19 a21 a23 a25 a27 a29 a31 a33) :=
 gL o19' (q01 Tryz.f10 [1,1,1,1,0,1,0,0,1,1,0,0,1,1,0,1,0,1,1,0,0])
theorem qxn (x_1 : Trust) (n_2 : Int) (h0 : List Int) (h1 : Int) : Le (
 Option.bind (z16 3 h0 h1) fun x0 =>
 bif eqB x0.1 0 then
 some ((Trust.mk (if (addI .i64 x_1.Threshold 1) < (addI .i64 (x_1.Nodes.length : Int) (x_1.Inner.length : Int)) then (addI .i64 x_1.Threshold 1) else (addI .i64 (x_1.Nodes.length : Int) (x_1.Inner.length : Int))) x_1.Nodes x_1.Inner), x0.2.1, x0.2.2)
 else
 bif eqB x0.1 1 then
 some ((Trust.mk (if (subI .i64 x_1.Threshold 1) > 1 then (subI .i64 x_1.Threshold 1) else 1) x_1.Nodes x_1.Inner), x0.2.1, x0.2.2)
 else
 Option.bind (z6u n_2 2 x0.2.1 x0.2.2) fun x1 =>
 some ((Trust.mk x1.1.Threshold x1.1.Nodes x1.1.Inner), x1.2.1, x1.2.2)
 ) (z72 x_1 n_2 h0 h1) :=
 cL o8' Tryz.func37
theorem y2b (a0 : Bool) (a4 : List (List Trust)) (a6 a8 : Int) (a10 a12 : List Member) : Le (
 bif ltB a8 a6 then
 nth a4 a8 fun y0 =>
 z42 a0 y0 a4 a6 a8 y0 (y0.length : Int) 0 a10 a12
 else
 Option.bind (z3u (Config.mk a12)) fun x1 =>
 bif neB x1 0 then
 some ((Config.mk ([] : List Member)), x1)
 else
 some ((Config.mk a12), 0)
 ) (z1y a0 a4 a6 a8 a10 a12) :=
 gL o14' (q01 Tryz.f81 [1,1,1,0,1,0,0])
theorem qqn (a1 a5 : Int) (a7 : List Int) (a9 a11 : Int) (a13 : List Int) (a15 : List Trust) (a17 : Int) (a19 : List Int) (a21 : List Trust) : Le (
 bif ltB a5 a1 then
 Option.bind (z16 10 a7 a9) fun x0 =>
 bif ltB x0.1 9 then
 capOk (List.length a19 + List.length ([a5] : List Int)) <|
 z4k a1 (addI .i64 a5 1) x0.2.1 x0.2.2 a11 a13 a15 a17 (a19 ++ ([a5] : List Int)) a21
 else
 z4k a1 (addI .i64 a5 1) x0.2.1 x0.2.2 a11 a13 a15 a17 a19 a21
 else
 bif (eqB (a19.length : Int) 0) then
 Option.bind (z4o ([0, 0, 0, 1, (-1)] : List Int) a7 a9) fun x1 =>
 some ((Trust.mk (if (if (addI .i64 (quoI .i64 (addI .i64 (mulI .i64 2 ((List.length ([0] : List Int) : Nat) : Int)) 2) 3) x1.1) > 1 then (addI .i64 (quoI .i64 (addI .i64 (mulI .i64 2 ((List.length ([0] : List Int) : Nat) : Int)) 2) 3) x1.1) else 1) < ((List.length ([0] : List Int) : Nat) : Int) then (if (addI .i64 (quoI .i64 (addI .i64 (mulI .i64 2 ((List.length ([0] : List Int) : Nat) : Int)) 2) 3) x1.1) > 1 then (addI .i64 (quoI .i64 (addI .i64 (mulI .i64 2 ((List.length ([0] : List Int) : Nat) : Int)) 2) 3) x1.1) else 1) else ((List.length ([0] : List Int) : Nat) : Int)) ([0] : List Int) a21), x1.2.1, x1.2.2)
 else
 Option.bind (z4o ([0, 0, 0, 1, (-1)] : List Int) a7 a9) fun x2 =>
 some ((Trust.mk (if (if (addI .i64 (quoI .i64 (addI .i64 (mulI .i64 2 (a19.length : Int)) 2) 3) x2.1) > 1 then (addI .i64 (quoI .i64 (addI .i64 (mulI .i64 2 (a19.length : Int)) 2) 3) x2.1) else 1) < (a19.length : Int) then (if (addI .i64 (quoI .i64 (addI .i64 (mulI .i64 2 (a19.length : Int)) 2) 3) x2.1) > 1 then (addI .i64 (quoI .i64 (addI .i64 (mulI .i64 2 (a19.length : Int)) 2) 3) x2.1) else 1) else (a19.length : Int)) a19 a21), x2.2.1, x2.2.2)
 ) (z4k a1 a5 a7 a9 a11 a13 a15 a17 a19 a21) :=
 gL o8' (q01 Tryz.f79 [1,1,0,1,0,0])
theorem qwp (a1 a3 : Int) (a6 : List Trust) (a8 : Int) (a10 : List Int) (a12 a14 : Int) (a16 : List Int) (a18 : List Trust) : Le (
 bif ltB a8 3 then
 z56 a1 a3 a6 a8 a8 a10 a12 a14 a16 a18 1 ([] : List Int) ([] : List Trust)
 else
 Option.bind (z16 4 a10 a12) fun x0 =>
 bif eqB x0.1 0 then
 chk ((a6.length : Int) ≠ 0) <|
 nth a6 (remI .i64 a3 (a6.length : Int)) fun _ =>
 nthN a6 (Int.toNat (remI .i64 a3 (a6.length : Int))) fun y1 =>
 some ((Trust.mk y1.Threshold y1.Nodes y1.Inner), x0.2.1, x0.2.2)
 else
 Option.bind (z1i (if (subI .i64 (a6.length : Int) 1) > 1 then (subI .i64 (a6.length : Int) 1) else 1) (a6.length : Int) x0.2.1 x0.2.2) fun x2 =>
 some ((Trust.mk x2.1 ([] : List Int) a6), x2.2.1, x2.2.2)
 ) (z2p a1 a3 a6 a8 a10 a12 a14 a16 a18) :=
 gL o8' (q01 Tryz.f80 [1,1,0,1,0,0])
theorem qw0 (a1 a3 : Int) (a7 : List Int) (a9 a11 : Int) (a13 : List Int) (a15 a17 : Int) (a19 : List Int) (a21 : List Trust) (a23 : Int) (a25 : List Int) (a27 : List Trust) : Le (
 bif ltB a11 a9 then
 nth a7 a11 fun y0 =>
 capOk (List.length a25 + List.length ([y0] : List Int)) <|
 z4l a1 a3 a7 a9 (addI .i64 a11 1) a13 a15 a17 a19 a21 a23 (a25 ++ ([y0] : List Int)) a27
 else
 bif ltB 1 a3 then
 Option.bind (z4o ([0, 0, 1, 1, 2, 3] : List Int) a13 a15) fun x1 =>
 z4m a1 a3 x1.1 x1.2.1 x1.2.2 a17 a19 a21 a23 a25 a27
 else
 Option.bind (z1i 1 (addI .i64 (a25.length : Int) (a27.length : Int)) a13 a15) fun x2 =>
 some ((Trust.mk x2.1 a25 a27), x2.2.1, x2.2.2)
 ) (z4l a1 a3 a7 a9 a11 a13 a15 a17 a19 a21 a23 a25 a27) :=
 gL o8' (q01 Tryz.f110 [1,1,1,0,1,0,0])
theorem y0m (a1 : Int) (a3 : List Int) (a5 : Int) (a7 : List Int) (a9 : Int) : Le (
 bif ltB a5 a1 then
 capOk (List.length a3 + List.length ([a5] : List Int)) <|
 z3m a1 (a3 ++ ([a5] : List Int)) (addI .i64 a5 1) a7 a9
 else
 z3n a3 (subI .i64 a1 1) a7 a9
 ) (z3m a1 a3 a5 a7 a9) :=
 gL o20' (q01 Tryz.f131 [1,1,0,1,0,0])
theorem y0x (a0 : Int) (a2 : List Trust) (a4 a6 a8 : Int) (a10 : List Int) (a12 : List Trust) : Le (
 bif ltB a6 a4 then
 nth a2 a6 fun y0 =>
 Option.bind (z69 y0) fun x1 =>
 z4f (if x1 > a0 then x1 else a0) a2 a4 (addI .i64 a6 1) a8 a10 a12
 else
 some (addI .i64 a0 1)
 ) (z4f a0 a2 a4 a6 a8 a10 a12) :=
 gL o0' (q01 Tryz.f113 [1,1,0,1,0,0])
theorem y3g (a0 : Int) (a2 : List Trust) (a4 a6 a8 : Int) (a10 : List Int) (a12 : List Trust) : Le (
 bif ltB a6 a4 then
 nth a2 a6 fun y0 =>
 Option.bind (z6f y0) fun x1 =>
 z4x (addI .i64 a0 x1) a2 a4 (addI .i64 a6 1) a8 a10 a12
 else
 some a0
 ) (z4x a0 a2 a4 a6 a8 a10 a12) :=
 gL o0' (q01 Tryz.f114 [1,1,0,1,0,0])
theorem qh3 (a1 : List Int) (a3 a5 a7 : Int) (a9 : List Int) (a11 : List Trust) : Le (
 bif ltB a5 a3 then
 nth a1 a5 fun y0 =>
 bif ltB y0 0 then
 some 5
 else
 bif leB 10 y0 then
 some 5
 else
 z1o a1 a3 (addI .i64 a5 1) a7 a9 a11
 else
 Option.bind (z6w a9) fun x1 =>
 bif neB x1.2 0 then
 some x1.2
 else
 z1p a11 (a11.length : Int) 0 a7 a9 a11
 ) (z1o a1 a3 a5 a7 a9 a11) :=
 gL o0' (q01 Tryz.f115 [1,1,0,1,0,0])
theorem y0h (nodes_0 : List Int) : Le (
 z2e 0 nodes_0 (nodes_0.length : Int) 0
 ) (z6w nodes_0) :=
 cL o7' Tryz.func133
theorem y19 (a1 : Int) (a3 : List Int) (a5 : Bool) (a7 : List Int) (a9 a11 : Int) (a13 : List Member) : Le (
 bif ltB a11 a9 then
 nth a7 a11 fun y0 =>
 nth a13 y0 fun y1 =>
 Option.bind (z1v y1.Trust a1) fun x2 =>
 bif !x2 then
 chk (0 ≤ y0) <|
 capOk (List.length a3 + List.length ([y0] : List Int)) <|
 z2i (subI .i64 a1 (shlI .i64 1 y0)) (a3 ++ ([y0] : List Int)) true a13
 else
 z1z a1 a3 a5 a7 a9 (addI .i64 a11 1) a13
 else
 z44 a1 a3 a5 a7 a9 a11 false a13
 ) (z1z a1 a3 a5 a7 a9 a11 a13) :=
 gL o2' (q01 Tryz.f54 [1,1,1,1,0,1,0,0,1,0,1,1,0,0])
theorem y2q (a0 : Int) (a2 : List Int) (a4 a6 : Int) : Le (
 bif leB a6 a0 then
 bif eqB (andI .i64 a6 a0) a6 then
 Option.bind (z6g a6) fun x0 =>
 bif eqB x0 a4 then
 capOk (List.length a2 + List.length ([a6] : List Int)) <|
 z2k a0 (a2 ++ ([a6] : List Int)) a4 (addI .i64 a6 1)
 else
 z2k a0 a2 a4 (addI .i64 a6 1)
 else
 z2k a0 a2 a4 (addI .i64 a6 1)
 else
 z30 a0 a2 (addI .i64 a4 1)
 ) (z2k a0 a2 a4 a6) :=
 gL o2' (q01 Tryz.f46 [1,1,0,1,0,0,1,0,0,1,0,0])
theorem y3o (a0 a2 a4 : Int) : Le (
 bif ltB a4 10 then
 Option.bind (z1s a0) fun x0 =>
 bif x0 then
 chk (0 ≤ a4) <|
 z4y a0 (addI .i64 a2 (andI .i64 (shrI .i64 a0 a4) 1)) (addI .i64 a4 1)
 else
 some a2
 else
 some a2
 ) (z4y a0 a2 a4) :=
 gL o0' (q01 Tryz.f84 [1,1,0,1,0,0])
theorem y39 (a2 a4 a6 : Int) (a8 : List Int) (a10 : List Trust) (a12 : Int) (a14 : List Int) (a16 : List Trust) : Le (
 bif ltB a4 a2 then
 nth a10 a4 fun y0 =>
 nth a16 a4 fun y1 =>
 Option.bind (z53 y0 y1) fun x2 =>
 bif !x2 then
 some false
 else
 z3j a2 (addI .i64 a4 1) a6 a8 a10 a12 a14 a16
 else
 some true
 ) (z3j a2 a4 a6 a8 a10 a12 a14 a16) :=
 gL o1' (q01 Tryz.f86 [1,1,0,1,0,0])
theorem y3k (a1 : Int) (a3 : List Int) (a5 a7 a9 : Int) (a11 : List Int) (a13 : List Trust) : Le (
 bif ltB a7 a5 then
 nth a3 a7 fun y0 =>
 bif leB 0 y0 then
 bif ltB y0 10 then
 chk (0 ≤ y0) <|
 z35 (orI .i64 a1 (shlI .i64 1 y0)) a3 a5 (addI .i64 a7 1) a9 a11 a13
 else
 z35 a1 a3 a5 (addI .i64 a7 1) a9 a11 a13
 else
 z35 a1 a3 a5 (addI .i64 a7 1) a9 a11 a13
 else
 z4d a1 a13 (a13.length : Int) 0 a9 a11 a13
 ) (z35 a1 a3 a5 a7 a9 a11 a13) :=
 gL o0' (q01 Tryz.f88 [1,1,0,1,0,0])
end Go.Proofs.YtjfhnffdijlboaaGreat
