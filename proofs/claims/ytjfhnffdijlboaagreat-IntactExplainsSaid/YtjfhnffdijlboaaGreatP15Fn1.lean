/- What the functions come to, printed by a program and checked by the kernel. -/
import Derived.Test.YtjfhnffdijlboaaGreatP15Df
namespace Go.Proofs.YtjfhnffdijlboaaGreat
open Go Go.Ab
set_option maxRecDepth 100000
theorem y60 (c_0 : Config) : Le (
 Option.bind (z4a c_0) fun x0 =>
 Option.bind (z4v x0) fun x1 =>
 z3r x1 (x1.length : Int) 0 c_0.Members
 ) (z6n c_0) :=
 cL o7' Tryz.func89
theorem y8l (low_0 high_1 : Config) (b_2 : Int) : Le (
 Option.bind (z46 low_0 high_1) fun x0 =>
 bif neB x0 0 then
 some x0
 else
 Option.bind (z38 low_0 b_2) fun x1 =>
 some x1
 ) (z2z low_0 high_1 b_2) :=
 cL o0' Tryz.func99
theorem y8s (c_0 : Config) : Le (
 chk (0 ≤ (c_0.Members.length : Int)) <|
 some (subI .i64 (shlI .i64 1 (c_0.Members.length : Int)) 1)
 ) (z1g c_0) :=
 cL o0' Tryz.func100
theorem y6x (s_0 : Int) : Le (
 z2g s_0 ([] : List Int) 0
 ) (z4r s_0) :=
 cL o2' Tryz.func98
theorem y7g (c_0 : Config) (b_1 : Int) : Le (
 Option.bind (z1r c_0) fun x0 =>
 bif neB x0 0 then
 some x0
 else
 bif ltB b_1 0 then
 some 1
 else
 Option.bind (z1g c_0) fun x1 =>
 bif ltB x1 b_1 then
 some 1
 else
 some 0
 ) (z38 c_0 b_1) :=
 cL o0' Tryz.func104
theorem y9m (c_0 : Config) (s_1 : Int) : Le (
 z1m s_1 c_0.Members (c_0.Members.length : Int) 0 c_0.Members ([] : List Member) ([] : List Member)
 ) (z2v c_0 s_1) :=
 cL o5' Tryz.func59
theorem y84 (c_0 : Config) : Le (
 Option.bind (z1r c_0) fun x0 =>
 bif neB x0 0 then
 some (false, x0)
 else
 Option.bind (z47 c_0) fun x1 =>
 some ((eqB x1.1 0), 0)
 ) (z4p c_0) :=
 cL o10' Tryz.func105
theorem y1q (c_0 : Config) : Le (
 chk (0 ≤ (c_0.Members.length : Int)) <|
 some (subI .i64 (shlI .i64 1 (c_0.Members.length : Int)) 1)
 ) (z4a c_0) :=
 cL o0' Tryz.func116
theorem y8m (low_0 high_1 : Config) : Le (
 Option.bind (z1r low_0) fun x0 =>
 bif neB x0 0 then
 some x0
 else
 Option.bind (z1r high_1) fun x1 =>
 bif neB x1 0 then
 some x1
 else
 bif (neB (low_0.Members.length : Int) (high_1.Members.length : Int)) then
 some 1
 else
 Option.bind (z1b low_0) fun x2 =>
 Option.bind (z1b high_1) fun x3 =>
 bif neB x2 x3 then
 some 1
 else
 bif (ltB 7 (low_0.Members.length : Int)) then
 some 3
 else
 z1x high_1.Members (high_1.Members.length : Int) 0 low_0.Members high_1.Members
 ) (z46 low_0 high_1) :=
 cL o0' Tryz.func66
theorem y5k (c_0 : Config) : Le (
 bif (ltB 10 (c_0.Members.length : Int)) then
 some 3
 else
 z26 c_0.Members (c_0.Members.length : Int) 0 c_0.Members
 ) (z1r c_0) :=
 cL o0' Tryz.func94
theorem y85 (c_0 : Config) : Le (
 z1c (c_0.Members.length : Int) 0 true c_0.Members
 ) (z47 c_0) :=
 cL o7' Tryz.func95
theorem y8e (c_0 : Config) : Le (
 z18 0 c_0.Members (c_0.Members.length : Int) 0 c_0.Members
 ) (z1b c_0) :=
 cL o0' Tryz.func92
theorem y1y (a3 a5 : Int) (a7 : List Int) (a9 a11 : Int) (a13 : List Int) (a15 : Int) (a17 a19 : List Member) : Le (
 bif ltB a11 a9 then
 nth a7 a11 fun y0 =>
 Option.bind (z16 64 a13 a15) fun x1 =>
 Option.bind (z3w (Config.mk a17) y0 (q1o .i64 a5 a3)) fun x2 =>
 bif x2 then
 some false
 else
 Option.bind (z3w (Config.mk a19) y0 (q1o .i64 a5 a3)) fun x3 =>
 bif x3 then
 some false
 else
 Option.bind (z3w (Config.mk a19) y0 (q1o .i64 (andI .i64 x1.1 a5) a3)) fun x4 =>
 bif x4 then
 some false
 else
 z2b a3 a5 a7 a9 (addI .i64 a11 1) x1.2.1 x1.2.2 a17 a19
 else
 Option.bind (law15_awake) fun x5 =>
 some x5
 ) (z2b a3 a5 a7 a9 a11 a13 a15 a17 a19) :=
 gL o1' (q01 Tryz.f4 [1,1,1,1,1,1,0,1,0,0])
theorem y8q (c_0 : Config) (v_1 s_2 : Int) : Le (
 Option.bind (z1s s_2) fun x0 =>
 bif !x0 then
 some false
 else
 Option.bind (z29 c_0) fun x1 =>
 Option.bind (z2q x1 v_1) fun x2 =>
 bif !x2 then
 some false
 else
 chk (0 ≤ v_1) <|
 nth c_0.Members v_1 fun y3 =>
 Option.bind (z1v y3.Trust (orI .i64 (subI .i64 1023 s_2) (shlI .i64 1 v_1))) fun x4 =>
 some (!x4)
 ) (z3w c_0 v_1 s_2) :=
 cL o1' Tryz.func21
theorem ya3 (s_0 node_1 : Int) : Le (
 Option.bind (z1s s_0) fun x0 =>
 bif x0 then
 bif leB 0 node_1 then
 bif ltB node_1 10 then
 chk (0 ≤ node_1) <|
 some (eqB (andI .i64 (shrI .i64 s_0 node_1) 1) 1)
 else
 some false
 else
 some false
 else
 some false
 ) (z2q s_0 node_1) :=
 cL o1' Tryz.func24
theorem y8v (t_0 : Trust) (s_1 : Int) : Le (
 Option.bind (z1s s_1) fun x0 =>
 bif !x0 then
 some false
 else
 z2h s_1 0 t_0.Nodes (t_0.Nodes.length : Int) 0 t_0.Threshold t_0.Nodes t_0.Inner
 ) (z1v t_0 s_1) :=
 cL o1' Tryz.func44
theorem y2z (a4 a6 a8 a10 a12 a14 a16 a18 : Int) (a20 : List Refutation) (a22 : List Int) (a24 : Int) (a26 a28 : List Member) : Le (
 bif ltB a10 a8 then
 Option.bind (z5r (Config.mk a26) (Config.mk a28) a4 a10) fun x0 =>
 bif neB x0.2 0 then
 some false
 else
 Option.bind (z6o (Config.mk a26) (Config.mk a28) a4 a10 x0.1) fun x1 =>
 bif !x1 then
 some false
 else
 Option.bind (z5s (Config.mk a26) (Config.mk a28) a4 a10 x0.1) fun x2 =>
 bif !x2 then
 some false
 else
 Option.bind (z2q a6 a10) fun x3 =>
 bif (!((eqB x0.1.Kind 1) == x3)) then
 some false
 else
 Option.bind (z16 16 a22 a24) fun x4 =>
 Option.bind (z16 16 x4.2.1 x4.2.2) fun x5 =>
 Option.bind (z16 16 x5.2.1 x5.2.2) fun x6 =>
 z1l a4 a6 a10 a8 a10 ([(Explanation.mk a12 a14 a16 a18 a20), (Explanation.mk 1 x4.1 0 0 ([] : List Refutation)), (Explanation.mk 3 0 0 0 ([] : List Refutation)), (Explanation.mk 2 0 x5.1 x6.1 ([] : List Refutation))] : List Explanation) ((List.length ([(Explanation.mk a12 a14 a16 a18 a20), (Explanation.mk 1 x4.1 0 0 ([] : List Refutation)), (Explanation.mk 3 0 0 0 ([] : List Refutation)), (Explanation.mk 2 0 x5.1 x6.1 ([] : List Refutation))] : List Explanation) : Nat) : Int) 0 a12 a14 a16 a18 a20 x6.2.1 x6.2.2 a26 a28 x0.1.Kind x0.1.Set x0.1.A x0.1.B x0.1.Refutations
 else
 Option.bind (law15_awake) fun x7 =>
 some x7
 ) (z1k a4 a6 a8 a10 a12 a14 a16 a18 a20 a22 a24 a26 a28) :=
 gL o1' (q01 Tryz.f7 [1,1,1,1,1,1,1,0,1,0,0])
theorem y72 (low_0 high_1 : Config) (ill_2 v_3 : Int) : Le (
 Option.bind (z6b low_0 high_1 ill_2) fun x0 =>
 bif neB x0.2.2 0 then
 some ((Explanation.mk 0 0 0 0 ([] : List Refutation)), x0.2.2)
 else
 bif ltB v_3 0 then
 some ((Explanation.mk 0 0 0 0 ([] : List Refutation)), 5)
 else
 bif (leB (low_0.Members.length : Int) v_3) then
 some ((Explanation.mk 0 0 0 0 ([] : List Refutation)), 5)
 else
 Option.bind (z24 x0.1 v_3) fun x1 =>
 bif x1 then
 Option.bind (z2a low_0) fun x2 =>
 some ((Explanation.mk 1 (q1o .i64 x2 x0.1) 0 0 ([] : List Refutation)), 0)
 else
 bif !x0.2.1 then
 Option.bind (z2v low_0 ill_2) fun x3 =>
 Option.bind (z2y x3) fun x4 =>
 some ((Explanation.mk 2 0 x4.1 x4.2.1 ([] : List Refutation)), 0)
 else
 Option.bind (z24 ill_2 v_3) fun x5 =>
 bif x5 then
 some ((Explanation.mk 3 0 0 0 ([] : List Refutation)), 0)
 else
 Option.bind (z58 low_0 ill_2 v_3) fun x6 =>
 z39 x6 (x6.length : Int) 0 low_0.Members high_1.Members 0 0 0 0 ([] : List Refutation) 4 0 0 0 ([] : List Refutation)
 ) (z5r low_0 high_1 ill_2 v_3) :=
 cL o22' Tryz.func25
theorem y73 (low_0 high_1 : Config) (ill_2 v_3 : Int) (x_4 : Explanation) : Le (
 Option.bind (z6p low_0 high_1 ill_2) fun x0 =>
 bif neB x0 0 then
 some false
 else
 bif ltB v_3 0 then
 some false
 else
 bif (leB (low_0.Members.length : Int) v_3) then
 some false
 else
 bif neB x_4.Kind 1 then
 bif neB x_4.Set 0 then
 some false
 else
 bif neB x_4.Kind 2 then
 bif neB x_4.A 0 then
 some false
 else
 bif neB x_4.B 0 then
 some false
 else
 bif neB x_4.Kind 4 then
 bif (ltB 0 (x_4.Refutations.length : Int)) then
 some false
 else
 z1u ill_2 v_3 false low_0.Members high_1.Members x_4.Kind x_4.Set x_4.A x_4.B x_4.Refutations
 else
 z1u ill_2 v_3 false low_0.Members high_1.Members x_4.Kind x_4.Set x_4.A x_4.B x_4.Refutations
 else
 bif neB x_4.Kind 4 then
 bif (ltB 0 (x_4.Refutations.length : Int)) then
 some false
 else
 z1u ill_2 v_3 false low_0.Members high_1.Members x_4.Kind x_4.Set x_4.A x_4.B x_4.Refutations
 else
 z1u ill_2 v_3 false low_0.Members high_1.Members x_4.Kind x_4.Set x_4.A x_4.B x_4.Refutations
 else
 bif neB x_4.Kind 2 then
 bif neB x_4.A 0 then
 some false
 else
 bif neB x_4.B 0 then
 some false
 else
 bif neB x_4.Kind 4 then
 bif (ltB 0 (x_4.Refutations.length : Int)) then
 some false
 else
 z1u ill_2 v_3 false low_0.Members high_1.Members x_4.Kind x_4.Set x_4.A x_4.B x_4.Refutations
 else
 z1u ill_2 v_3 false low_0.Members high_1.Members x_4.Kind x_4.Set x_4.A x_4.B x_4.Refutations
 else
 bif neB x_4.Kind 4 then
 bif (ltB 0 (x_4.Refutations.length : Int)) then
 some false
 else
 z1u ill_2 v_3 false low_0.Members high_1.Members x_4.Kind x_4.Set x_4.A x_4.B x_4.Refutations
 else
 z1u ill_2 v_3 false low_0.Members high_1.Members x_4.Kind x_4.Set x_4.A x_4.B x_4.Refutations
 ) (z6o low_0 high_1 ill_2 v_3 x_4) :=
 cL o1' Tryz.func26
theorem y5r (low_0 high_1 : Config) (ill_2 v_3 : Int) (x_4 : Explanation) : Le (
 Option.bind (z46 low_0 high_1) fun x0 =>
 bif neB x0 0 then
 some false
 else
 bif ltB ill_2 0 then
 some false
 else
 Option.bind (z2a low_0) fun x1 =>
 bif ltB x1 ill_2 then
 some false
 else
 bif ltB v_3 0 then
 some false
 else
 bif (leB (low_0.Members.length : Int) v_3) then
 some false
 else
 bif eqB x_4.Kind 1 then
 Option.bind (z23 low_0 ill_2) fun x2 =>
 Option.bind (z5t low_0 high_1 x_4.Set) fun x3 =>
 Option.bind (z55 x_4 true false false) fun x4 =>
 bif x4 then
 bif x2.1 then
 bif x3.1 then
 bif eqB (q1o .i64 ill_2 x_4.Set) 0 then
 Option.bind (z24 x_4.Set v_3) fun x5 =>
 some (!x5)
 else
 some false
 else
 some false
 else
 some false
 else
 some false
 else
 bif eqB x_4.Kind 2 then
 Option.bind (z2v low_0 ill_2) fun x6 =>
 Option.bind (z55 x_4 false true false) fun x7 =>
 bif x7 then
 Option.bind (z1t x6 x_4.A) fun x8 =>
 bif x8 then
 Option.bind (z1t x6 x_4.B) fun x9 =>
 bif x9 then
 some (eqB (andI .i64 x_4.A x_4.B) 0)
 else
 some false
 else
 some false
 else
 some false
 else
 bif eqB x_4.Kind 3 then
 Option.bind (z55 x_4 false false false) fun x10 =>
 bif x10 then
 Option.bind (z24 ill_2 v_3) fun x11 =>
 some x11
 else
 some false
 else
 bif eqB x_4.Kind 4 then
 Option.bind (z55 x_4 false false true) fun x12 =>
 bif x12 then
 Option.bind (z5u low_0 high_1 ill_2 v_3 x_4.Refutations) fun x13 =>
 some x13
 else
 some false
 else
 some false
 ) (z5s low_0 high_1 ill_2 v_3 x_4) :=
 cL o1' Tryz.func27
theorem y7n (s_0 node_1 : Int) : Le (
 Option.bind (z1j s_0) fun x0 =>
 bif x0 then
 bif leB 0 node_1 then
 bif ltB node_1 10 then
 chk (0 ≤ node_1) <|
 some (neB (andI .i64 s_0 (shlI .i64 1 node_1)) 0)
 else
 some false
 else
 some false
 else
 some false
 ) (z24 s_0 node_1) :=
 cL o1' Tryz.func57
theorem y9y (c_0 : Config) : Le (
 Option.bind (z1r c_0) fun x0 =>
 bif neB x0 0 then
 some (0, 0, x0)
 else
 Option.bind (z47 c_0) fun x1 =>
 bif eqB x1.1 0 then
 some (0, 0, 11)
 else
 some (x1.1, x1.2, 0)
 ) (z2y c_0) :=
 cL ⟨[.lf (.i .i64), .lf (.i .i64), .lf (.i .i64)],[]⟩ Tryz.func58
theorem y88 (c_0 : Config) (ill_1 v_2 : Int) : Le (
 chk (0 ≤ v_2) <|
 Option.bind (z2a c_0) fun x0 =>
 Option.bind (z4r (q1o .i64 x0 (shlI .i64 1 v_2))) fun x1 =>
 z2r ill_1 ([] : List Int) x1 (x1.length : Int) 0 c_0.Members
 ) (z58 c_0 ill_1 v_2) :=
 cL o2' Tryz.func60
theorem y7x (low_0 high_1 : Config) (ill_2 : Int) : Le (
 Option.bind (z68 low_0 high_1) fun x0 =>
 bif neB x0 0 then
 some x0
 else
 bif ltB ill_2 0 then
 some 1
 else
 Option.bind (z5l low_0) fun x1 =>
 bif ltB x1 ill_2 then
 some 1
 else
 some 0
 ) (z6p low_0 high_1 ill_2) :=
 cL o0' Tryz.func62
theorem y7h (low_0 high_1 : Config) (b_2 : Int) : Le (
 Option.bind (z2z low_0 high_1 b_2) fun x0 =>
 bif neB x0 0 then
 some (false, x0)
 else
 Option.bind (z59 low_0 high_1 b_2) fun x1 =>
 some (x1, 0)
 ) (z5t low_0 high_1 b_2) :=
 cL o10' Tryz.func68
theorem y5x (x_0 : Explanation) (set_1 quorums_2 refutations_3 : Bool) : Le (
 bif set_1 then
 bif quorums_2 then
 bif refutations_3 then
 some true
 else
 some (eqB (x_0.Refutations.length : Int) 0)
 else
 bif eqB x_0.A 0 then
 bif eqB x_0.B 0 then
 bif refutations_3 then
 some true
 else
 some (eqB (x_0.Refutations.length : Int) 0)
 else
 some false
 else
 some false
 else
 bif eqB x_0.Set 0 then
 bif quorums_2 then
 bif refutations_3 then
 some true
 else
 some (eqB (x_0.Refutations.length : Int) 0)
 else
 bif eqB x_0.A 0 then
 bif eqB x_0.B 0 then
 bif refutations_3 then
 some true
 else
 some (eqB (x_0.Refutations.length : Int) 0)
 else
 some false
 else
 some false
 else
 some false
 ) (z55 x_0 set_1 quorums_2 refutations_3) :=
 cL o1' Tryz.func69
theorem y22 (c_0 : Config) (s_1 : Int) : Le (
 Option.bind (z1j s_1) fun x0 =>
 bif !x0 then
 some false
 else
 bif eqB s_1 0 then
 some false
 else
 Option.bind (z5v c_0 s_1) fun x1 =>
 bif !x1 then
 some false
 else
 Option.bind (z3e c_0 s_1) fun x2 =>
 some (!x2.2)
 ) (z1t c_0 s_1) :=
 cL o1' Tryz.func70
theorem y70 (low_0 high_1 : Config) (ill_2 v_3 : Int) (l_4 : List Refutation) : Le (
 Option.bind (z58 low_0 ill_2 v_3) fun x0 =>
 bif (neB (l_4.length : Int) (x0.length : Int)) then
 some false
 else
 z3a l_4 x0 (x0.length : Int) 0 low_0.Members high_1.Members
 ) (z5u low_0 high_1 ill_2 v_3 l_4) :=
 cL o1' Tryz.func71
theorem y1w (s_0 : Int) : Le (
 Option.bind (z2o s_0 10) fun x0 =>
 some x0
 ) (z1j s_0) :=
 cL o1' Tryz.func91
theorem y97 (c_0 : Config) : Le (
 chk (0 ≤ (c_0.Members.length : Int)) <|
 some (subI .i64 (shlI .i64 1 (c_0.Members.length : Int)) 1)
 ) (z5l c_0) :=
 cL o0' Tryz.func74
theorem y6y (low_0 high_1 : Config) (b_2 : Int) : Le (
 Option.bind (z3o high_1 b_2) fun x0 =>
 bif !x0.1 then
 some false
 else
 Option.bind (z23 low_0 b_2) fun x1 =>
 some x1.1
 ) (z59 low_0 high_1 b_2) :=
 cL o1' Tryz.func106
theorem y9n (c_0 : Config) (s_1 : Int) : Le (
 Option.bind (z1b c_0) fun x0 =>
 some (eqB (q1o .i64 s_1 x0) 0)
 ) (z5v c_0 s_1) :=
 cL o1' Tryz.func107
theorem y3c (c_0 : Config) (s_1 : Int) : Le (
 Option.bind (z4w s_1) fun x0 =>
 z1f s_1 x0 (x0.length : Int) 0 c_0.Members
 ) (z3e c_0 s_1) :=
 cL o17' Tryz.func108
theorem qvq (s_0 n_1 : Int) : Le (
 bif leB 0 s_0 then
 chk (0 ≤ n_1) <|
 some (ltB s_0 (shlI .i64 1 n_1))
 else
 some false
 ) (z2o s_0 n_1) :=
 cL o1' Tryz.func118
theorem y8z (high_0 : Config) (b_1 : Int) : Le (
 Option.bind (z38 high_0 b_1) fun x0 =>
 bif neB x0 0 then
 some (false, x0)
 else
 Option.bind (z1g high_0) fun x1 =>
 bif eqB (q1o .i64 x1 b_1) 0 then
 some (true, 0)
 else
 Option.bind (z1t high_0 (q1o .i64 x1 b_1)) fun x2 =>
 some (x2, 0)
 ) (z3o high_0 b_1) :=
 cL o10' Tryz.func129
theorem y8d (s_0 : Int) : Le (
 z31 s_0 ([] : List Int) 0
 ) (z4w s_0) :=
 cL o2' Tryz.func55
theorem y0j (a2 a4 a6 a8 : Int) (a10 : List Int) (a12 : Int) (a14 a16 : List Member) : Le (
 bif ltB a8 7 then
 bif neB (andI .i64 a6 a4) a4 then
 Option.bind (z36 (Config.mk a14) (Config.mk a16) a2 a6) fun x0 =>
 bif neB x0.2.2 0 then
 some false
 else
 bif !x0.2.1 then
 some false
 else
 Option.bind (z2q (q1o .i64 a4 a6) x0.1) fun x1 =>
 bif !x1 then
 some false
 else
 Option.bind (z3w (Config.mk a14) x0.1 (andI .i64 a6 a4)) fun x2 =>
 bif !x2 then
 some false
 else
 chk (0 ≤ x0.1) <|
 z25 a2 a4 (orI .i64 a6 (shlI .i64 1 x0.1)) (addI .i64 a8 1) a10 a12 a14 a16
 else
 Option.bind (z36 (Config.mk a14) (Config.mk a16) a2 a6) fun x3 =>
 bif eqB x3.2.2 0 then
 bif !x3.2.1 then
 bif eqB (andI .i64 a6 a4) a4 then
 Option.bind (law15_awake) fun x4 =>
 some x4
 else
 some false
 else
 some false
 else
 some false
 else
 Option.bind (z36 (Config.mk a14) (Config.mk a16) a2 a6) fun x5 =>
 bif eqB x5.2.2 0 then
 bif !x5.2.1 then
 bif eqB (andI .i64 a6 a4) a4 then
 Option.bind (law15_awake) fun x6 =>
 some x6
 else
 some false
 else
 some false
 else
 some false
 ) (z25 a2 a4 a6 a8 a10 a12 a14 a16) :=
 gL o1' (q01 Tryz.f6 [1,1,1,1,1,1,1,1,1,1,0,1,0,0])
theorem y7l (low_0 high_1 : Config) (ill_2 s_3 : Int) : Le (
 Option.bind (z2f low_0 high_1 ill_2) fun x0 =>
 bif neB x0.2 0 then
 some (0, false, x0.2)
 else
 bif ltB s_3 0 then
 some (0, false, 1)
 else
 Option.bind (z2a low_0) fun x1 =>
 bif ltB x1 s_3 then
 some (0, false, 1)
 else
 Option.bind (z4w (q1o .i64 x0.1 s_3)) fun x2 =>
 z3b s_3 x0.1 x2 (x2.length : Int) 0 low_0.Members high_1.Members
 ) (z36 low_0 high_1 ill_2 s_3) :=
 cL o16' Tryz.func23
theorem y1o (a0 : Int) (a2 a4 : List Int) (a6 a8 : Int) (a10 : List Int) (a12 : Int) (a14 a16 : List Member) : Le (
 bif ltB a8 a6 then
 nth a4 a8 fun y0 =>
 bif neB (andI .i64 y0 a0) a0 then
 some false
 else
 z17 a0 a2 a4 a6 (addI .i64 a8 1) a10 a12 a14 a16
 else
 Option.bind (mk_In a2 a0) fun x1 =>
 bif x1 then
 Option.bind (law15_awake) fun x2 =>
 some x2
 else
 some false
 ) (z17 a0 a2 a4 a6 a8 a10 a12 a14 a16) :=
 gL o1' (q01 Tryz.f3 [1,1,1,1,1,1,1,1,1,1,1,0,1,0,0])
end Go.Proofs.YtjfhnffdijlboaaGreat
