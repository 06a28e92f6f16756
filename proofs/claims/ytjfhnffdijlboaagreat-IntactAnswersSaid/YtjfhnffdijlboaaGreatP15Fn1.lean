/- What the functions come to, printed by a program and checked by the kernel. -/
import Derived.Test.YtjfhnffdijlboaaGreatP15Df
namespace Go.Proofs.YtjfhnffdijlboaaGreat
open Go Go.Ab
set_option maxRecDepth 100000
theorem y78 (c_0 : Config) : Le (
 Option.bind (z4j c_0) fun x0 =>
 Option.bind (z57 x0) fun x1 =>
 z3x x1 (x1.length : Int) 0 c_0.Members
 ) (z6n c_0) :=
 cL o5' Tryz.func89
theorem y8j (low_0 high_1 : Config) (b_2 : Int) : Le (
 Option.bind (z4f low_0 high_1) fun x0 =>
 bif neB x0 0 then
 some x0
 else
 Option.bind (z36 low_0 b_2) fun x1 =>
 some x1
 ) (z2x low_0 high_1 b_2) :=
 cL o0' Tryz.func99
theorem y8q (c_0 : Config) : Le (
 chk (0 <= (c_0.Members.length : Int)) <|
 some (subI .i64 (shlI .i64 1 (c_0.Members.length : Int)) 1)
 ) (z1h c_0) :=
 cL o0' Tryz.func100
theorem yau (s_0 : Int) : Le (
 z2d s_0 ([] : List Int) 0
 ) (z52 s_0) :=
 cL o2' Tryz.func98
theorem y61 (c_0 : Config) (b_1 : Int) : Le (
 Option.bind (z1s c_0) fun x0 =>
 bif neB x0 0 then
 some x0
 else
 bif ltB b_1 0 then
 some 1
 else
 Option.bind (z1h c_0) fun x1 =>
 bif ltB x1 b_1 then
 some 1
 else
 some 0
 ) (z36 c_0 b_1) :=
 cL o0' Tryz.func104
theorem y9u (c_0 : Config) (s_1 : Int) : Le (
 z1k s_1 c_0.Members (c_0.Members.length : Int) 0 c_0.Members ([] : List Member) ([] : List Member)
 ) (z2s c_0 s_1) :=
 cL o9' Tryz.func59
theorem y9z (c_0 : Config) : Le (
 Option.bind (z1s c_0) fun x0 =>
 bif neB x0 0 then
 some (false, x0)
 else
 Option.bind (z4g c_0) fun x1 =>
 some ((eqB x1.1 0), 0)
 ) (z50 c_0) :=
 cL o7' Tryz.func105
theorem y31 (c_0 : Config) : Le (
 chk (0 <= (c_0.Members.length : Int)) <|
 some (subI .i64 (shlI .i64 1 (c_0.Members.length : Int)) 1)
 ) (z4j c_0) :=
 cL o0' Tryz.func116
theorem ya5 (low_0 high_1 : Config) : Le (
 Option.bind (z1s low_0) fun x0 =>
 bif neB x0 0 then
 some x0
 else
 Option.bind (z1s high_1) fun x1 =>
 bif neB x1 0 then
 some x1
 else
 bif (neB (low_0.Members.length : Int) (high_1.Members.length : Int)) then
 some 1
 else
 Option.bind (z1c low_0) fun x2 =>
 Option.bind (z1c high_1) fun x3 =>
 bif neB x2 x3 then
 some 1
 else
 bif (ltB 7 (low_0.Members.length : Int)) then
 some 3
 else
 z1y high_1.Members (high_1.Members.length : Int) 0 low_0.Members high_1.Members
 ) (z4f low_0 high_1) :=
 cL o0' Tryz.func66
theorem yac (c_0 : Config) : Le (
 bif (ltB 10 (c_0.Members.length : Int)) then
 some 3
 else
 z25 c_0.Members (c_0.Members.length : Int) 0 c_0.Members
 ) (z1s c_0) :=
 cL o0' Tryz.func94
theorem y9w (c_0 : Config) : Le (
 z1d (c_0.Members.length : Int) 0 true c_0.Members
 ) (z4g c_0) :=
 cL o5' Tryz.func95
theorem y7y (c_0 : Config) : Le (
 z19 0 c_0.Members (c_0.Members.length : Int) 0 c_0.Members
 ) (z1c c_0) :=
 cL o0' Tryz.func92
theorem y1n (a0 a2 : Int) (a7 : List Arr2_Config) (a9 a11 : Int) (a13 a15 : List Member) (a17 a19 a21 a23 : Int) (a25 : List Refutation) (a27 : List Int) (a29 : Int) (a31 a33 : List Member) : Le (
 bif ltB a11 a9 then
 nth a7 a11 fun y0 =>
 bif (ltB 4 (y0.e0.Members.length : Int)) then
 bif (leB (y0.e0.Members.length : Int) 7) then
 z17 a0 a2 a7 a9 (addI .i64 a11 1) a13 a15 a17 a19 a21 a23 a25 a27 a29 a31 a33
 else
 Option.bind (z7q (Config.mk a31) a27 a29) fun x1 =>
 Option.bind (z10 4 x1.2.1 x1.2.2) fun x2 =>
 z1l a0 a2 x1.1 x2.1 a7 a9 a11 ([a0, x1.1] : List Int) ((List.length ([a0, x1.1] : List Int) : Nat) : Int) 0 a13 a15 a17 a19 a21 a23 a25 x2.2.1 x2.2.2 a31 a33 y0.e0.Members y0.e1.Members
 else
 Option.bind (z7q (Config.mk a31) a27 a29) fun x3 =>
 Option.bind (z10 4 x3.2.1 x3.2.2) fun x4 =>
 z1l a0 a2 x3.1 x4.1 a7 a9 a11 ([a0, x3.1] : List Int) ((List.length ([a0, x3.1] : List Int) : Nat) : Int) 0 a13 a15 a17 a19 a21 a23 a25 x4.2.1 x4.2.2 a31 a33 y0.e0.Members y0.e1.Members
 else
 Option.bind (law15_awake) fun x5 =>
 some x5
 ) (z17 a0 a2 a7 a9 a11 a13 a15 a17 a19 a21 a23 a25 a27 a29 a31 a33) :=
 gL o1' (q0a Tryz.f8 [1,1,1,1,0,1,0,0])
theorem ya7 (c_0 : Config) (v_1 s_2 : Int) : Le (
 Option.bind (z1t s_2) fun x0 =>
 bif !x0 then
 some false
 else
 Option.bind (z28 c_0) fun x1 =>
 Option.bind (z2y x1 v_1) fun x2 =>
 bif !x2 then
 some false
 else
 chk (0 <= v_1) <|
 nth c_0.Members v_1 fun y3 =>
 Option.bind (z1w y3.Trust (orI .i64 (subI .i64 1023 s_2) (shlI .i64 1 v_1))) fun x4 =>
 some (!x4)
 ) (z68 c_0 v_1 s_2) :=
 cL o1' Tryz.func21
theorem yaf (s_0 node_1 : Int) : Le (
 Option.bind (z1t s_0) fun x0 =>
 bif x0 then
 bif leB 0 node_1 then
 bif ltB node_1 10 then
 chk (0 <= node_1) <|
 some (eqB (andI .i64 (shrI .i64 s_0 node_1) 1) 1)
 else
 some false
 else
 some false
 else
 some false
 ) (z2y s_0 node_1) :=
 cL o1' Tryz.func24
theorem y6o (t_0 : Trust) (s_1 : Int) : Le (
 Option.bind (z1t s_1) fun x0 =>
 bif !x0 then
 some false
 else
 z2e s_1 0 t_0.Nodes (t_0.Nodes.length : Int) 0 t_0.Threshold t_0.Nodes t_0.Inner
 ) (z1w t_0 s_1) :=
 cL o1' Tryz.func44
theorem y5z (low_0 high_1 : Config) (ill_2 v_3 : Int) : Le (
 Option.bind (z6s low_0 high_1 ill_2) fun x0 =>
 bif neB x0.2.2 0 then
 some ((Explanation.mk 0 0 0 0 ([] : List Refutation)), x0.2.2)
 else
 bif ltB v_3 0 then
 some ((Explanation.mk 0 0 0 0 ([] : List Refutation)), 5)
 else
 bif (leB (low_0.Members.length : Int) v_3) then
 some ((Explanation.mk 0 0 0 0 ([] : List Refutation)), 5)
 else
 Option.bind (z24 x0.1 v_3) fun x1 =>
 bif x1 then
 Option.bind (z29 low_0) fun x2 =>
 some ((Explanation.mk 1 (q1w .i64 x2 x0.1) 0 0 ([] : List Refutation)), 0)
 else
 bif !x0.2.1 then
 Option.bind (z2s low_0 ill_2) fun x3 =>
 Option.bind (z2w x3) fun x4 =>
 some ((Explanation.mk 2 0 x4.1 x4.2.1 ([] : List Refutation)), 0)
 else
 Option.bind (z24 ill_2 v_3) fun x5 =>
 bif x5 then
 some ((Explanation.mk 3 0 0 0 ([] : List Refutation)), 0)
 else
 Option.bind (z5n low_0 ill_2 v_3) fun x6 =>
 z37 x6 (x6.length : Int) 0 low_0.Members high_1.Members 0 0 0 0 ([] : List Refutation) 4 0 0 0 ([] : List Refutation)
 ) (z5m low_0 high_1 ill_2 v_3) :=
 cL o17' Tryz.func25
theorem y89 (low_0 high_1 : Config) (ill_2 v_3 : Int) (x_4 : Explanation) : Le (
 Option.bind (z6o low_0 high_1 ill_2) fun x0 =>
 bif neB x0 0 then
 some false
 else
 bif ltB v_3 0 then
 some false
 else
 bif (leB (low_0.Members.length : Int) v_3) then
 some false
 else
 bif neB x_4.Kind 1 then
 bif neB x_4.Set 0 then
 some false
 else
 bif neB x_4.Kind 2 then
 bif neB x_4.A 0 then
 some false
 else
 bif neB x_4.B 0 then
 some false
 else
 bif neB x_4.Kind 4 then
 bif (ltB 0 (x_4.Refutations.length : Int)) then
 some false
 else
 z1v ill_2 v_3 false low_0.Members high_1.Members x_4.Kind x_4.Set x_4.A x_4.B x_4.Refutations
 else
 z1v ill_2 v_3 false low_0.Members high_1.Members x_4.Kind x_4.Set x_4.A x_4.B x_4.Refutations
 else
 bif neB x_4.Kind 4 then
 bif (ltB 0 (x_4.Refutations.length : Int)) then
 some false
 else
 z1v ill_2 v_3 false low_0.Members high_1.Members x_4.Kind x_4.Set x_4.A x_4.B x_4.Refutations
 else
 z1v ill_2 v_3 false low_0.Members high_1.Members x_4.Kind x_4.Set x_4.A x_4.B x_4.Refutations
 else
 bif neB x_4.Kind 2 then
 bif neB x_4.A 0 then
 some false
 else
 bif neB x_4.B 0 then
 some false
 else
 bif neB x_4.Kind 4 then
 bif (ltB 0 (x_4.Refutations.length : Int)) then
 some false
 else
 z1v ill_2 v_3 false low_0.Members high_1.Members x_4.Kind x_4.Set x_4.A x_4.B x_4.Refutations
 else
 z1v ill_2 v_3 false low_0.Members high_1.Members x_4.Kind x_4.Set x_4.A x_4.B x_4.Refutations
 else
 bif neB x_4.Kind 4 then
 bif (ltB 0 (x_4.Refutations.length : Int)) then
 some false
 else
 z1v ill_2 v_3 false low_0.Members high_1.Members x_4.Kind x_4.Set x_4.A x_4.B x_4.Refutations
 else
 z1v ill_2 v_3 false low_0.Members high_1.Members x_4.Kind x_4.Set x_4.A x_4.B x_4.Refutations
 ) (z75 low_0 high_1 ill_2 v_3 x_4) :=
 cL o1' Tryz.func26
theorem y7g (low_0 high_1 : Config) (ill_2 v_3 : Int) (x_4 : Explanation) : Le (
 Option.bind (z4f low_0 high_1) fun x0 =>
 bif neB x0 0 then
 some false
 else
 bif ltB ill_2 0 then
 some false
 else
 Option.bind (z29 low_0) fun x1 =>
 bif ltB x1 ill_2 then
 some false
 else
 bif ltB v_3 0 then
 some false
 else
 bif (leB (low_0.Members.length : Int) v_3) then
 some false
 else
 bif eqB x_4.Kind 1 then
 Option.bind (z23 low_0 ill_2) fun x2 =>
 Option.bind (z69 low_0 high_1 x_4.Set) fun x3 =>
 Option.bind (z5k x_4 true false false) fun x4 =>
 bif x4 then
 bif x2.1 then
 bif x3.1 then
 bif eqB (q1w .i64 ill_2 x_4.Set) 0 then
 Option.bind (z24 x_4.Set v_3) fun x5 =>
 some (!x5)
 else
 some false
 else
 some false
 else
 some false
 else
 some false
 else
 bif eqB x_4.Kind 2 then
 Option.bind (z2s low_0 ill_2) fun x6 =>
 Option.bind (z5k x_4 false true false) fun x7 =>
 bif x7 then
 Option.bind (z1u x6 x_4.A) fun x8 =>
 bif x8 then
 Option.bind (z1u x6 x_4.B) fun x9 =>
 bif x9 then
 some (eqB (andI .i64 x_4.A x_4.B) 0)
 else
 some false
 else
 some false
 else
 some false
 else
 bif eqB x_4.Kind 3 then
 Option.bind (z5k x_4 false false false) fun x10 =>
 bif x10 then
 Option.bind (z24 ill_2 v_3) fun x11 =>
 some x11
 else
 some false
 else
 bif eqB x_4.Kind 4 then
 Option.bind (z5k x_4 false false true) fun x12 =>
 bif x12 then
 Option.bind (z6a low_0 high_1 ill_2 v_3 x_4.Refutations) fun x13 =>
 some x13
 else
 some false
 else
 some false
 ) (z6u low_0 high_1 ill_2 v_3 x_4) :=
 cL o1' Tryz.func27
theorem y9o (s_0 node_1 : Int) : Le (
 Option.bind (z1j s_0) fun x0 =>
 bif x0 then
 bif leB 0 node_1 then
 bif ltB node_1 10 then
 chk (0 <= node_1) <|
 some (neB (andI .i64 s_0 (shlI .i64 1 node_1)) 0)
 else
 some false
 else
 some false
 else
 some false
 ) (z24 s_0 node_1) :=
 cL o1' Tryz.func57
theorem y8e (c_0 : Config) : Le (
 Option.bind (z1s c_0) fun x0 =>
 bif neB x0 0 then
 some (0, 0, x0)
 else
 Option.bind (z4g c_0) fun x1 =>
 bif eqB x1.1 0 then
 some (0, 0, 11)
 else
 some (x1.1, x1.2, 0)
 ) (z2w c_0) :=
 cL o23' Tryz.func58
theorem y7l (c_0 : Config) (ill_1 v_2 : Int) : Le (
 chk (0 <= v_2) <|
 Option.bind (z29 c_0) fun x0 =>
 Option.bind (z52 (q1w .i64 x0 (shlI .i64 1 v_2))) fun x1 =>
 z2o ill_1 ([] : List Int) x1 (x1.length : Int) 0 c_0.Members
 ) (z5n c_0 ill_1 v_2) :=
 cL o2' Tryz.func60
theorem yad (low_0 high_1 : Config) (ill_2 : Int) : Le (
 Option.bind (z6m low_0 high_1) fun x0 =>
 bif neB x0 0 then
 some x0
 else
 bif ltB ill_2 0 then
 some 1
 else
 Option.bind (z3h low_0) fun x1 =>
 bif ltB x1 ill_2 then
 some 1
 else
 some 0
 ) (z6o low_0 high_1 ill_2) :=
 cL o0' Tryz.func62
theorem y7e (low_0 high_1 : Config) (b_2 : Int) : Le (
 Option.bind (z2x low_0 high_1 b_2) fun x0 =>
 bif neB x0 0 then
 some (false, x0)
 else
 Option.bind (z5o low_0 high_1 b_2) fun x1 =>
 some (x1, 0)
 ) (z69 low_0 high_1 b_2) :=
 cL o7' Tryz.func68
theorem y94 (x_0 : Explanation) (set_1 quorums_2 refutations_3 : Bool) : Le (
 bif set_1 then
 bif quorums_2 then
 bif refutations_3 then
 some true
 else
 some (eqB (x_0.Refutations.length : Int) 0)
 else
 bif eqB x_0.A 0 then
 bif eqB x_0.B 0 then
 bif refutations_3 then
 some true
 else
 some (eqB (x_0.Refutations.length : Int) 0)
 else
 some false
 else
 some false
 else
 bif eqB x_0.Set 0 then
 bif quorums_2 then
 bif refutations_3 then
 some true
 else
 some (eqB (x_0.Refutations.length : Int) 0)
 else
 bif eqB x_0.A 0 then
 bif eqB x_0.B 0 then
 bif refutations_3 then
 some true
 else
 some (eqB (x_0.Refutations.length : Int) 0)
 else
 some false
 else
 some false
 else
 some false
 ) (z5k x_0 set_1 quorums_2 refutations_3) :=
 cL o1' Tryz.func69
theorem y3w (c_0 : Config) (s_1 : Int) : Le (
 Option.bind (z1j s_1) fun x0 =>
 bif !x0 then
 some false
 else
 bif eqB s_1 0 then
 some false
 else
 Option.bind (z6b c_0 s_1) fun x1 =>
 bif !x1 then
 some false
 else
 Option.bind (z3c c_0 s_1) fun x2 =>
 some (!x2.2)
 ) (z1u c_0 s_1) :=
 cL o1' Tryz.func70
theorem y9q (low_0 high_1 : Config) (ill_2 v_3 : Int) (l_4 : List Refutation) : Le (
 Option.bind (z5n low_0 ill_2 v_3) fun x0 =>
 bif (neB (l_4.length : Int) (x0.length : Int)) then
 some false
 else
 z38 l_4 x0 (x0.length : Int) 0 low_0.Members high_1.Members
 ) (z6a low_0 high_1 ill_2 v_3 l_4) :=
 cL o1' Tryz.func71
theorem y3x (s_0 : Int) : Le (
 Option.bind (z2l s_0 10) fun x0 =>
 some x0
 ) (z1j s_0) :=
 cL o1' Tryz.func91
theorem y7f (c_0 : Config) : Le (
 chk (0 <= (c_0.Members.length : Int)) <|
 some (subI .i64 (shlI .i64 1 (c_0.Members.length : Int)) 1)
 ) (z3h c_0) :=
 cL o0' Tryz.func74
theorem y7i (low_0 high_1 : Config) (b_2 : Int) : Le (
 Option.bind (z3u high_1 b_2) fun x0 =>
 bif !x0.1 then
 some false
 else
 Option.bind (z23 low_0 b_2) fun x1 =>
 some x1.1
 ) (z5o low_0 high_1 b_2) :=
 cL o1' Tryz.func106
theorem y8d (c_0 : Config) (s_1 : Int) : Le (
 Option.bind (z1c c_0) fun x0 =>
 some (eqB (q1w .i64 s_1 x0) 0)
 ) (z6b c_0 s_1) :=
 cL o1' Tryz.func107
theorem y2j (c_0 : Config) (s_1 : Int) : Le (
 Option.bind (z58 s_1) fun x0 =>
 z1g s_1 x0 (x0.length : Int) 0 c_0.Members
 ) (z3c c_0 s_1) :=
 cL o18' Tryz.func108
theorem qvp (s_0 n_1 : Int) : Le (
 bif leB 0 s_0 then
 chk (0 <= n_1) <|
 some (ltB s_0 (shlI .i64 1 n_1))
 else
 some false
 ) (z2l s_0 n_1) :=
 cL o1' Tryz.func118
theorem y6r (high_0 : Config) (b_1 : Int) : Le (
 Option.bind (z36 high_0 b_1) fun x0 =>
 bif neB x0 0 then
 some (false, x0)
 else
 Option.bind (z1h high_0) fun x1 =>
 bif eqB (q1w .i64 x1 b_1) 0 then
 some (true, 0)
 else
 Option.bind (z1u high_0 (q1w .i64 x1 b_1)) fun x2 =>
 some (x2, 0)
 ) (z3u high_0 b_1) :=
 cL o7' Tryz.func129
theorem ya4 (s_0 : Int) : Le (
 z30 s_0 ([] : List Int) 0
 ) (z58 s_0) :=
 cL o2' Tryz.func55
theorem y69 (low_0 high_1 : Config) (ill_2 s_3 : Int) : Le (
 Option.bind (z5h low_0 high_1 ill_2) fun x0 =>
 bif neB x0.2 0 then
 some (0, false, x0.2)
 else
 bif ltB s_3 0 then
 some (0, false, 1)
 else
 Option.bind (z29 low_0) fun x1 =>
 bif ltB x1 s_3 then
 some (0, false, 1)
 else
 Option.bind (z58 (q1w .i64 x0.1 s_3)) fun x2 =>
 z39 s_3 x0.1 x2 (x2.length : Int) 0 low_0.Members high_1.Members
 ) (z5p low_0 high_1 ill_2 s_3) :=
 cL o10' Tryz.func23
end Go.Proofs.YtjfhnffdijlboaaGreat
