/- What the functions come to, printed by a program and checked by the kernel. -/
import Derived.Test.YtjfhnffdijlboaaGreatP15Df
namespace Go.Proofs.YtjfhnffdijlboaaGreat
open Go Go.Ab
set_option maxRecDepth 100000
theorem y8y (low_0 high_1 : Config) (ill_2 s_3 : Int) : Le (
 Option.bind (z7h low_0 high_1 ill_2) fun x0 =>
 bif neB x0.2 0 then
 some (0, false, x0.2)
 else
 bif ltB s_3 0 then
 some (0, false, 1)
 else
 Option.bind (z3h low_0) fun x1 =>
 bif ltB x1 s_3 then
 some (0, false, 1)
 else
 Option.bind (z5i (q1w .i64 x0.1 s_3)) fun x2 =>
 z3r s_3 x0.1 x2 (x2.length : Int) 0 low_0.Members high_1.Members
 ) (z6l low_0 high_1 ill_2 s_3) :=
 cL o10' Tryz.func32
theorem y93 (low_0 high_1 : Config) (ill_2 v_3 : Int) : Le (
 Option.bind (z4q low_0 high_1 ill_2) fun x0 =>
 bif neB x0.2 0 then
 some ((Explanation.mk 0 0 0 0 ([] : List Refutation)), x0.2)
 else
 bif ltB v_3 0 then
 some ((Explanation.mk 0 0 0 0 ([] : List Refutation)), 5)
 else
 bif (leB (low_0.Members.length : Int) v_3) then
 some ((Explanation.mk 0 0 0 0 ([] : List Refutation)), 5)
 else
 Option.bind (z2y x0.1 v_3) fun x1 =>
 bif !x1 then
 some ((Explanation.mk 1 x0.1 0 0 ([] : List Refutation)), 0)
 else
 Option.bind (z43 low_0 ill_2) fun x2 =>
 Option.bind (z5t x2) fun x3 =>
 bif eqB x3.2.2 0 then
 some ((Explanation.mk 2 0 x3.1 x3.2.1 ([] : List Refutation)), 0)
 else
 Option.bind (z2y ill_2 v_3) fun x4 =>
 bif x4 then
 some ((Explanation.mk 3 0 0 0 ([] : List Refutation)), 0)
 else
 Option.bind (z62 low_0 ill_2 v_3) fun x5 =>
 z3s x5 (x5.length : Int) 0 low_0.Members high_1.Members 0 0 0 0 ([] : List Refutation) 4 0 0 0 ([] : List Refutation)
 ) (z61 low_0 high_1 ill_2 v_3) :=
 cL o17' Tryz.func33
theorem yas (a_0 b_1 : Explanation) : Le (
 bif neB a_0.Kind b_1.Kind then
 some false
 else
 bif neB a_0.Set b_1.Set then
 some false
 else
 bif neB a_0.A b_1.A then
 some false
 else
 bif neB a_0.B b_1.B then
 some false
 else
 bif (neB (a_0.Refutations.length : Int) (b_1.Refutations.length : Int)) then
 some false
 else
 z5b (a_0.Refutations.length : Int) 0 a_0.Kind a_0.Set a_0.A a_0.B a_0.Refutations b_1.Kind b_1.Set b_1.A b_1.B b_1.Refutations
 ) (z7e a_0 b_1) :=
 cL o1' Tryz.func34
theorem y6c (c_0 : Config) : Le (
 Option.bind (z3e c_0) fun x0 =>
 bif neB x0 0 then
 some (0, 0, x0)
 else
 Option.bind (z6n c_0) fun x1 =>
 bif eqB x1.1 0 then
 some (0, 0, 11)
 else
 some (x1.1, x1.2, 0)
 ) (z5t c_0) :=
 cL o23' Tryz.func75
theorem y64 (low_0 : Config) (ill_1 v_2 : Int) : Le (
 Option.bind (z3h low_0) fun x0 =>
 Option.bind (z57 x0) fun x1 =>
 z2j ill_1 v_2 ([] : List Int) x1 (x1.length : Int) 0 low_0.Members
 ) (z62 low_0 ill_1 v_2) :=
 cL o2' Tryz.func64
theorem y2r (a0 a3 : Int) (a5 : List Int) (a7 a9 a11 : Int) (a13 : List Int) (a15 : List Trust) : Le (
 bif ltB a9 a7 then
 nth a5 a9 fun y0 =>
 Option.bind (z2y a0 y0) fun x1 =>
 bif x1 then
 z2e a0 (addI .i64 a3 1) a5 a7 (addI .i64 a9 1) a11 a13 a15
 else
 z2e a0 a3 a5 a7 (addI .i64 a9 1) a11 a13 a15
 else
 z21 a0 a3 a15 (a15.length : Int) 0 a11 a13 a15
 ) (z2e a0 a3 a5 a7 a9 a11 a13 a15) :=
 gL o1' (q0a Tryz.f44 [1,1,1,0,1,0,0])
theorem y2b (a4 : List Int) (a6 a8 : Int) (a10 a12 : List Member) (a14 a16 a18 a20 : Int) (a22 : List Refutation) (a24 a26 a28 a30 : Int) (a32 : List Refutation) : Le (
 bif ltB a8 a6 then
 nth a4 a8 fun y0 =>
 Option.bind (z51 (Config.mk a10) (Config.mk a12) y0) fun x1 =>
 capOk (List.length a32 + List.length ([(Refutation.mk x1.1.Node x1.1.A x1.1.B)] : List Refutation)) <|
 z37 a4 a6 (addI .i64 a8 1) a10 a12 a14 a16 a18 a20 a22 a24 a26 a28 a30 (a32 ++ ([(Refutation.mk x1.1.Node x1.1.A x1.1.B)] : List Refutation))
 else
 some ((Explanation.mk a24 a26 a28 a30 a32), 0)
 ) (z37 a4 a6 a8 a10 a12 a14 a16 a18 a20 a22 a24 a26 a28 a30 a32) :=
 gL o17' (q0a Tryz.f25 [1,1,1,1,1,1,0,1,0,0])
theorem y6g (low_0 high_1 : Config) (b_2 : Int) : Le (
 Option.bind (z2x low_0 high_1 b_2) fun x0 =>
 bif neB x0 0 then
 some ((Refutation.mk 0 0 0), x0)
 else
 Option.bind (z1h high_1) fun x1 =>
 Option.bind (z58 (q1w .i64 x1 b_2)) fun x2 =>
 z2a b_2 x2 (x2.length : Int) 0 low_0.Members high_1.Members 0 0 0
 ) (z51 low_0 high_1 b_2) :=
 cL o19' Tryz.func61
theorem y7s (a0 a2 : Int) (a7 : Bool) (a9 a11 : List Member) (a13 a15 a17 a19 : Int) (a21 : List Refutation) : Le (
 bif eqB a13 1 then
 Option.bind (z3n (Config.mk a9) a0) fun x0 =>
 Option.bind (z7o (Config.mk a9) (Config.mk a11) a15) fun x1 =>
 bif x0.1 then
 bif eqB x1.2 0 then
 bif x1.1 then
 bif eqB (andI .i64 a15 a0) a0 then
 Option.bind (z2y a15 a2) fun x2 =>
 some (!x2)
 else
 some false
 else
 some false
 else
 some false
 else
 some false
 else
 bif eqB a13 2 then
 Option.bind (z43 (Config.mk a9) a0) fun x3 =>
 Option.bind (z1q x3 a17) fun x4 =>
 bif x4 then
 Option.bind (z1q x3 a19) fun x5 =>
 bif x5 then
 some (eqB (andI .i64 a17 a19) 0)
 else
 some false
 else
 some false
 else
 bif eqB a13 3 then
 Option.bind (z2y a0 a2) fun x6 =>
 some x6
 else
 bif eqB a13 4 then
 Option.bind (z62 (Config.mk a9) a0 a2) fun x7 =>
 bif (neB (x7.length : Int) (a21.length : Int)) then
 some false
 else
 z4u x7 (x7.length : Int) 0 a9 a11 a13 a15 a17 a19 a21
 else
 some false
 ) (z1v a0 a2 a7 a9 a11 a13 a15 a17 a19 a21) :=
 y8i (T := tn) (o := o1') sigOk 100000 (by kernel_rfl)
theorem y6l (low_0 high_1 : Config) (b_2 : Int) : Le (
 Option.bind (z5j low_0 high_1 b_2) fun x0 =>
 bif neB x0 0 then
 some (false, x0)
 else
 Option.bind (z7f low_0 high_1 b_2) fun x1 =>
 some (x1, 0)
 ) (z7o low_0 high_1 b_2) :=
 cL o7' Tryz.func63
theorem y1r (a0 : Int) (a2 a4 : List Int) (a6 a8 : Int) (a10 : List Member) : Le (
 bif ltB a8 a6 then
 nth a4 a8 fun y0 =>
 bif eqB (q1w .i64 a0 y0) 0 then
 capOk (List.length a2 + List.length ([y0] : List Int)) <|
 z2o a0 (a2 ++ ([y0] : List Int)) a4 a6 (addI .i64 a8 1) a10
 else
 z2o a0 a2 a4 a6 (addI .i64 a8 1) a10
 else
 some a2
 ) (z2o a0 a2 a4 a6 a8 a10) :=
 gL o2' (q0a Tryz.f60 [1,1,0,1,0,0])
theorem y3f (a0 : List Refutation) (a4 : List Int) (a6 a8 : Int) (a10 a12 : List Member) : Le (
 bif ltB a8 a6 then
 nth a4 a8 fun y0 =>
 nth a0 a8 fun y1 =>
 Option.bind (z5e (Config.mk a10) (Config.mk a12) y0 y1) fun x2 =>
 bif !x2 then
 some false
 else
 z38 a0 a4 a6 (addI .i64 a8 1) a10 a12
 else
 some true
 ) (z38 a0 a4 a6 a8 a10 a12) :=
 gL o1' (q0a Tryz.f71 [1,1,1,0,1,0,0])
theorem y8c (low_0 high_1 : Config) (b_2 : Int) (x_3 : Refutation) : Le (
 Option.bind (z2x low_0 high_1 b_2) fun x0 =>
 bif neB x0 0 then
 some false
 else
 bif leB 0 x_3.Node then
 bif eqB x_3.A 0 then
 bif eqB x_3.B 0 then
 Option.bind (z1h high_1) fun x1 =>
 Option.bind (z24 (q1w .i64 x1 b_2) x_3.Node) fun x2 =>
 bif x2 then
 Option.bind (z4i high_1 x_3.Node b_2) fun x3 =>
 some x3
 else
 some false
 else
 some false
 else
 some false
 else
 Option.bind (z2s low_0 b_2) fun x4 =>
 bif eqB x_3.Node (-1) then
 Option.bind (z1u x4 x_3.A) fun x5 =>
 bif x5 then
 Option.bind (z1u x4 x_3.B) fun x6 =>
 bif x6 then
 some (eqB (andI .i64 x_3.A x_3.B) 0)
 else
 some false
 else
 some false
 else
 some false
 ) (z5e low_0 high_1 b_2 x_3) :=
 cL o1' Tryz.func109
theorem y9j (high_0 : Config) (v_1 b_2 : Int) : Le (
 nth high_0.Members v_1 fun y0 =>
 bif !y0.Declared then
 some true
 else
 Option.bind (z1h high_0) fun x1 =>
 Option.bind (z1i y0.Trust (q1w .i64 x1 b_2)) fun x2 =>
 some (!x2)
 ) (z4i high_0 v_1 b_2) :=
 cL o1' Tryz.func101
theorem qnc (a0 : Int) (a3 : List Int) (a5 a7 : Int) (a9 : List Member) : Le (
 bif ltB a7 a5 then
 nth a3 a7 fun y0 =>
 Option.bind (z48 (Config.mk a9) y0 a0) fun x1 =>
 bif !x1 then
 some (y0, true)
 else
 z1g a0 a3 a5 (addI .i64 a7 1) a9
 else
 some (0, false)
 ) (z1g a0 a3 a5 a7 a9) :=
 gL o18' (q0a Tryz.f108 [1,0,1,0,0])
theorem y2i (c_0 : Config) (k_1 s_2 : Int) : Le (
 nth c_0.Members k_1 fun y0 =>
 Option.bind (z1i y0.Trust s_2) fun x1 =>
 some x1
 ) (z48 c_0 k_1 s_2) :=
 cL o1' Tryz.func130
theorem y3b (a0 : Int) (a2 : List Int) (a4 : Int) : Le (
 bif ltB a4 10 then
 Option.bind (z24 a0 a4) fun x0 =>
 bif x0 then
 capOk (List.length a2 + List.length ([a4] : List Int)) <|
 z30 a0 (a2 ++ ([a4] : List Int)) (addI .i64 a4 1)
 else
 z30 a0 a2 (addI .i64 a4 1)
 else
 some a2
 ) (z30 a0 a2 a4) :=
 gL o2' (q0a Tryz.f55 [1,1,0,1,0,0])
theorem y0h (a0 a3 : Int) (a5 : List Int) (a7 a9 : Int) (a11 a13 : List Member) : Le (
 bif ltB a9 a7 then
 nth a5 a9 fun y0 =>
 Option.bind (z55 (Config.mk a11) y0 (andI .i64 a3 a0)) fun x1 =>
 bif x1 then
 some (y0, true, 0)
 else
 z39 a0 a3 a5 a7 (addI .i64 a9 1) a11 a13
 else
 some ((-1), false, 0)
 ) (z39 a0 a3 a5 a7 a9 a11 a13) :=
 gL o10' (q0a Tryz.f23 [1,1,1,1,0,1,0,0])
theorem yaq (c_0 : Config) (v_1 s_2 : Int) : Le (
 Option.bind (z1j s_2) fun x0 =>
 bif !x0 then
 some false
 else
 Option.bind (z1c c_0) fun x1 =>
 Option.bind (z24 x1 v_1) fun x2 =>
 bif !x2 then
 some false
 else
 chk (0 <= v_1) <|
 nth c_0.Members v_1 fun y3 =>
 Option.bind (z1i y3.Trust (orI .i64 (q1w .i64 1023 s_2) (shlI .i64 1 v_1))) fun x4 =>
 some (!x4)
 ) (z55 c_0 v_1 s_2) :=
 cL o1' Tryz.func56
theorem qwf (a0 a3 a5 : Int) (a7 : List Int) (a9 : List Trust) : Le (
 bif (ltB a3 (a9.length : Int)) then
 bif leB a0 400 then
 nth a9 a3 fun y0 =>
 Option.bind (z6y y0 a0) fun x1 =>
 z4k x1 (addI .i64 a3 1) a5 a7 a9
 else
 some a0
 else
 some a0
 ) (z4k a0 a3 a5 a7 a9) :=
 gL o0' (q0a Tryz.f72 [1,1,0,1,0,0])
theorem y1p (a4 : List (List Trust)) (a7 : List Trust) (a9 : Int) (a11 : List Member) (a13 a15 : Int) (a17 : List Int) (a19 : Int) (a21 a23 a25 : List Member) (a27 : Bool) (a29 : Int) (a31 : List Int) (a33 : List Trust) : Le (
 bif ltB 0 a9 then
 Option.bind (z7i (Trust.mk a29 a31 a33) (a25.length : Int) a17 a19) fun x0 =>
 capOk (List.length a7 + List.length ([(Trust.mk x0.1.Threshold x0.1.Nodes x0.1.Inner)] : List Trust)) <|
 z6j a4 (a7 ++ ([(Trust.mk x0.1.Threshold x0.1.Nodes x0.1.Inner)] : List Trust)) (subI .i64 a9 1) a11 a13 a15 x0.2.1 x0.2.2 a21 a23 a25 a27 a29 a31 a33
 else
 capOk (List.length a4 + List.length ([a7] : List (List Trust))) <|
 z3i (a4 ++ ([a7] : List (List Trust))) a11 a13 (addI .i64 a15 1) a17 a19 a21 a23 a25
 ) (z6j a4 a7 a9 a11 a13 a15 a17 a19 a21 a23 a25 a27 a29 a31 a33) :=
 gL o20' (q0a Tryz.f10 [1,1,1,1,0,1,0,0,1,1,0,0,1,1,0,1,0,1,1,0,0])
theorem qxr (x_1 : Trust) (n_2 : Int) (h0 : List Int) (h1 : Int) : Le (
 Option.bind (z10 3 h0 h1) fun x0 =>
 bif eqB x0.1 0 then
 some ((Trust.mk (if (addI .i64 x_1.Threshold 1) < (addI .i64 (x_1.Nodes.length : Int) (x_1.Inner.length : Int)) then (addI .i64 x_1.Threshold 1) else (addI .i64 (x_1.Nodes.length : Int) (x_1.Inner.length : Int))) x_1.Nodes x_1.Inner), x0.2.1, x0.2.2)
 else
 bif eqB x0.1 1 then
 some ((Trust.mk (if (subI .i64 x_1.Threshold 1) > 1 then (subI .i64 x_1.Threshold 1) else 1) x_1.Nodes x_1.Inner), x0.2.1, x0.2.2)
 else
 Option.bind (z79 n_2 2 x0.2.1 x0.2.2) fun x1 =>
 some ((Trust.mk x1.1.Threshold x1.1.Nodes x1.1.Inner), x1.2.1, x1.2.2)
 ) (z7i x_1 n_2 h0 h1) :=
 cL o4' Tryz.func37
theorem y36 (a0 : Bool) (a4 : List (List Trust)) (a6 a8 : Int) (a10 a12 : List Member) : Le (
 bif ltB a8 a6 then
 nth a4 a8 fun y0 =>
 z4a a0 y0 a4 a6 a8 y0 (y0.length : Int) 0 a10 a12
 else
 Option.bind (z3e (Config.mk a12)) fun x1 =>
 bif neB x1 0 then
 some ((Config.mk ([] : List Member)), x1)
 else
 some ((Config.mk a12), 0)
 ) (z1z a0 a4 a6 a8 a10 a12) :=
 gL o14' (q0a Tryz.f81 [1,1,1,0,1,0,0])
theorem y1l (a2 : List Int) (a4 : Int) (a6 a8 a10 : List Member) : Le (
 bif (leB (a10.length : Int) 10) then
 capOk (List.length a10 + List.length ([(Member.mk false (Trust.mk 0 ([] : List Int) ([] : List Trust)))] : List Member)) <|
 z3p a2 a4 a6 a8 (a10 ++ ([(Member.mk false (Trust.mk 0 ([] : List Int) ([] : List Trust)))] : List Member))
 else
 some ((Config.mk a10), a2, a4)
 ) (z3p a2 a4 a6 a8 a10) :=
 gL o12' (q0a Tryz.f29 [1,1,1,1,0,1,0,1,1,1,1,1,1,1,1,0,0])
theorem qrg (a1 a5 : Int) (a7 : List Int) (a9 a11 : Int) (a13 : List Int) (a15 : List Trust) (a17 : Int) (a19 : List Int) (a21 : List Trust) : Le (
 bif ltB a5 a1 then
 Option.bind (z10 10 a7 a9) fun x0 =>
 bif ltB x0.1 9 then
 capOk (List.length a19 + List.length ([a5] : List Int)) <|
 z4w a1 (addI .i64 a5 1) x0.2.1 x0.2.2 a11 a13 a15 a17 (a19 ++ ([a5] : List Int)) a21
 else
 z4w a1 (addI .i64 a5 1) x0.2.1 x0.2.2 a11 a13 a15 a17 a19 a21
 else
 bif (eqB (a19.length : Int) 0) then
 Option.bind (z18 ([0, 0, 0, 1, (-1)] : List Int) a7 a9) fun x1 =>
 some ((Trust.mk (if (if (addI .i64 (quoI .i64 (addI .i64 (mulI .i64 2 ((List.length ([0] : List Int) : Nat) : Int)) 2) 3) x1.1) > 1 then (addI .i64 (quoI .i64 (addI .i64 (mulI .i64 2 ((List.length ([0] : List Int) : Nat) : Int)) 2) 3) x1.1) else 1) < ((List.length ([0] : List Int) : Nat) : Int) then (if (addI .i64 (quoI .i64 (addI .i64 (mulI .i64 2 ((List.length ([0] : List Int) : Nat) : Int)) 2) 3) x1.1) > 1 then (addI .i64 (quoI .i64 (addI .i64 (mulI .i64 2 ((List.length ([0] : List Int) : Nat) : Int)) 2) 3) x1.1) else 1) else ((List.length ([0] : List Int) : Nat) : Int)) ([0] : List Int) a21), x1.2.1, x1.2.2)
 else
 Option.bind (z18 ([0, 0, 0, 1, (-1)] : List Int) a7 a9) fun x2 =>
 some ((Trust.mk (if (if (addI .i64 (quoI .i64 (addI .i64 (mulI .i64 2 (a19.length : Int)) 2) 3) x2.1) > 1 then (addI .i64 (quoI .i64 (addI .i64 (mulI .i64 2 (a19.length : Int)) 2) 3) x2.1) else 1) < (a19.length : Int) then (if (addI .i64 (quoI .i64 (addI .i64 (mulI .i64 2 (a19.length : Int)) 2) 3) x2.1) > 1 then (addI .i64 (quoI .i64 (addI .i64 (mulI .i64 2 (a19.length : Int)) 2) 3) x2.1) else 1) else (a19.length : Int)) a19 a21), x2.2.1, x2.2.2)
 ) (z4w a1 a5 a7 a9 a11 a13 a15 a17 a19 a21) :=
 gL o4' (q0a Tryz.f79 [1,1,0,1,0,0])
theorem qxn (a1 a3 : Int) (a6 : List Trust) (a8 : Int) (a10 : List Int) (a12 a14 : Int) (a16 : List Int) (a18 : List Trust) : Le (
 bif ltB a8 3 then
 z5l a1 a3 a6 a8 a8 a10 a12 a14 a16 a18 1 ([] : List Int) ([] : List Trust)
 else
 Option.bind (z10 4 a10 a12) fun x0 =>
 bif eqB x0.1 0 then
 chk ((a6.length : Int) ≠ 0) <|
 nth a6 (remI .i64 a3 (a6.length : Int)) fun _ =>
 nthN a6 (Int.toNat (remI .i64 a3 (a6.length : Int))) fun y1 =>
 some ((Trust.mk y1.Threshold y1.Nodes y1.Inner), x0.2.1, x0.2.2)
 else
 Option.bind (z1a (if (subI .i64 (a6.length : Int) 1) > 1 then (subI .i64 (a6.length : Int) 1) else 1) (a6.length : Int) x0.2.1 x0.2.2) fun x2 =>
 some ((Trust.mk x2.1 ([] : List Int) a6), x2.2.1, x2.2.2)
 ) (z2m a1 a3 a6 a8 a10 a12 a14 a16 a18) :=
 gL o4' (q0a Tryz.f80 [1,1,0,1,0,0])
theorem qwk (a1 a3 : Int) (a7 : List Int) (a9 a11 : Int) (a13 : List Int) (a15 a17 : Int) (a19 : List Int) (a21 : List Trust) (a23 : Int) (a25 : List Int) (a27 : List Trust) : Le (
 bif ltB a11 a9 then
 nth a7 a11 fun y0 =>
 capOk (List.length a25 + List.length ([y0] : List Int)) <|
 z4x a1 a3 a7 a9 (addI .i64 a11 1) a13 a15 a17 a19 a21 a23 (a25 ++ ([y0] : List Int)) a27
 else
 bif ltB 1 a3 then
 Option.bind (z18 ([0, 0, 1, 1, 2, 3] : List Int) a13 a15) fun x1 =>
 z4y a1 a3 x1.1 x1.2.1 x1.2.2 a17 a19 a21 a23 a25 a27
 else
 Option.bind (z1a 1 (addI .i64 (a25.length : Int) (a27.length : Int)) a13 a15) fun x2 =>
 some ((Trust.mk x2.1 a25 a27), x2.2.1, x2.2.2)
 ) (z4x a1 a3 a7 a9 a11 a13 a15 a17 a19 a21 a23 a25 a27) :=
 gL o4' (q0a Tryz.f110 [1,1,1,0,1,0,0])
theorem y2o (a1 : Int) (a3 : List Int) (a5 : Int) (a7 : List Int) (a9 : Int) : Le (
 bif ltB a5 a1 then
 capOk (List.length a3 + List.length ([a5] : List Int)) <|
 z3q a1 (a3 ++ ([a5] : List Int)) (addI .i64 a5 1) a7 a9
 else
 z3t a3 (subI .i64 a1 1) a7 a9
 ) (z3q a1 a3 a5 a7 a9) :=
 gL o21' (q0a Tryz.f131 [1,1,0,1,0,0])
theorem y0e (a0 : Int) (a2 : List Trust) (a4 a6 a8 : Int) (a10 : List Int) (a12 : List Trust) : Le (
 bif ltB a6 a4 then
 nth a2 a6 fun y0 =>
 Option.bind (z6p y0) fun x1 =>
 z4r (if x1 > a0 then x1 else a0) a2 a4 (addI .i64 a6 1) a8 a10 a12
 else
 some (addI .i64 a0 1)
 ) (z4r a0 a2 a4 a6 a8 a10 a12) :=
 gL o0' (q0a Tryz.f113 [1,1,0,1,0,0])
theorem y1s (a0 : Int) (a2 : List Trust) (a4 a6 a8 : Int) (a10 : List Int) (a12 : List Trust) : Le (
 bif ltB a6 a4 then
 nth a2 a6 fun y0 =>
 Option.bind (z6z y0) fun x1 =>
 z59 (addI .i64 a0 x1) a2 a4 (addI .i64 a6 1) a8 a10 a12
 else
 some a0
 ) (z59 a0 a2 a4 a6 a8 a10 a12) :=
 gL o0' (q0a Tryz.f114 [1,1,0,1,0,0])
theorem qgb (a1 : List Int) (a3 a5 a7 : Int) (a9 : List Int) (a11 : List Trust) : Le (
 bif ltB a5 a3 then
 nth a1 a5 fun y0 =>
 bif ltB y0 0 then
 some 5
 else
 bif leB 10 y0 then
 some 5
 else
 z1o a1 a3 (addI .i64 a5 1) a7 a9 a11
 else
 Option.bind (z7a a9) fun x1 =>
 bif neB x1.2 0 then
 some x1.2
 else
 z1p a11 (a11.length : Int) 0 a7 a9 a11
 ) (z1o a1 a3 a5 a7 a9 a11) :=
 gL o0' (q0a Tryz.f115 [1,1,0,1,0,0])
theorem y2f (nodes_0 : List Int) : Le (
 z2c 0 nodes_0 (nodes_0.length : Int) 0
 ) (z7a nodes_0) :=
 cL o5' Tryz.func133
theorem y0o (a2 : Int) (a4 : List Int) (a6 a8 : Int) (a10 : List Int) (a12 : List Trust) (a14 : Int) (a16 : List Int) (a18 : List Trust) (a20 : Int) (a22 : List Int) (a24 : List Trust) : Le (
 bif ltB 0 a2 then
 z49 (subI .i64 a2 1) a4 a6 a8 a10 a12 a14 a16 a18 1 ([] : List Int) ([(Trust.mk a20 a22 a24)] : List Trust)
 else
 some ((Trust.mk a20 a22 a24), a4, a6)
 ) (z49 a2 a4 a6 a8 a10 a12 a14 a16 a18 a20 a22 a24) :=
 gL o4' (q0a Tryz.f73 [1,1,0,1,0,1,1,1,1,1,1,1,1,1,0,1,0,1,0,0])
theorem y2p (a1 : Int) (a3 : List Int) (a5 : Bool) (a7 : List Int) (a9 a11 : Int) (a13 : List Member) : Le (
 bif ltB a11 a9 then
 nth a7 a11 fun y0 =>
 nth a13 y0 fun y1 =>
 Option.bind (z1w y1.Trust a1) fun x2 =>
 bif !x2 then
 chk (0 <= y0) <|
 capOk (List.length a3 + List.length ([y0] : List Int)) <|
 z2f (subI .i64 a1 (shlI .i64 1 y0)) (a3 ++ ([y0] : List Int)) true a13
 else
 z20 a1 a3 a5 a7 a9 (addI .i64 a11 1) a13
 else
 z4c a1 a3 a5 a7 a9 a11 false a13
 ) (z20 a1 a3 a5 a7 a9 a11 a13) :=
 gL o2' (q0a Tryz.f54 [1,1,1,1,0,1,0,0,1,0,1,1,0,0])
theorem y0f (a0 : Int) (a2 : List Int) (a4 a6 : Int) : Le (
 bif leB a6 a0 then
 bif eqB (andI .i64 a6 a0) a6 then
 Option.bind (z70 a6) fun x0 =>
 bif eqB x0 a4 then
 capOk (List.length a2 + List.length ([a6] : List Int)) <|
 z2h a0 (a2 ++ ([a6] : List Int)) a4 (addI .i64 a6 1)
 else
 z2h a0 a2 a4 (addI .i64 a6 1)
 else
 z2h a0 a2 a4 (addI .i64 a6 1)
 else
 z2z a0 a2 (addI .i64 a4 1)
 ) (z2h a0 a2 a4 a6) :=
 gL o2' (q0a Tryz.f46 [1,1,0,1,0,0,1,0,0,1,0,0])
theorem y32 (a0 a2 a4 : Int) : Le (
 bif ltB a4 10 then
 Option.bind (z1t a0) fun x0 =>
 bif x0 then
 chk (0 <= a4) <|
 z5a a0 (addI .i64 a2 (andI .i64 (shrI .i64 a0 a4) 1)) (addI .i64 a4 1)
 else
 some a2
 else
 some a2
 ) (z5a a0 a2 a4) :=
 gL o0' (q0a Tryz.f84 [1,1,0,1,0,0])
theorem y2x (a2 a4 a6 : Int) (a8 : List Int) (a10 : List Trust) (a12 : Int) (a14 : List Int) (a16 : List Trust) : Le (
 bif ltB a4 a2 then
 nth a10 a4 fun y0 =>
 nth a16 a4 fun y1 =>
 Option.bind (z5g y0 y1) fun x2 =>
 bif !x2 then
 some false
 else
 z3k a2 (addI .i64 a4 1) a6 a8 a10 a12 a14 a16
 else
 some true
 ) (z3k a2 a4 a6 a8 a10 a12 a14 a16) :=
 gL o1' (q0a Tryz.f86 [1,1,0,1,0,0])
theorem y1d (a1 : Int) (a3 : List Int) (a5 a7 a9 : Int) (a11 : List Int) (a13 : List Trust) : Le (
 bif ltB a7 a5 then
 nth a3 a7 fun y0 =>
 bif leB 0 y0 then
 bif ltB y0 10 then
 chk (0 <= y0) <|
 z34 (orI .i64 a1 (shlI .i64 1 y0)) a3 a5 (addI .i64 a7 1) a9 a11 a13
 else
 z34 a1 a3 a5 (addI .i64 a7 1) a9 a11 a13
 else
 z34 a1 a3 a5 (addI .i64 a7 1) a9 a11 a13
 else
 z4n a1 a13 (a13.length : Int) 0 a9 a11 a13
 ) (z34 a1 a3 a5 a7 a9 a11 a13) :=
 gL o0' (q0a Tryz.f88 [1,1,0,1,0,0])
end Go.Proofs.YtjfhnffdijlboaaGreat
