/- What the functions come to, printed by a program and checked by the kernel. -/
import Derived.Test.YtjfhnffdijlboaaGreatP15Df
namespace Go.Proofs.YtjfhnffdijlboaaGreat
open Go Go.Ab
set_option maxRecDepth 100000
theorem law15_IntactAnswers_le (t_0 : List Int) (raw_1 other_2 : Config) (ill_3 v_4 : Int) (x_5 : Explanation) : Le (
 Option.bind (z4p raw_1) fun x0 =>
 bif !x0 then
 Option.bind (law15_awake) fun x1 =>
 some x1
 else
 Option.bind (z4p other_2) fun x2 =>
 bif !x2 then
 Option.bind (law15_awake) fun x3 =>
 some x3
 else
 bif (ltB 100 (x_5.Refutations.length : Int)) then
 Option.bind (law15_awake) fun x4 =>
 some x4
 else
 Option.bind (z7p t_0) fun x5 =>
 Option.bind (z7m 4 x5.2.1 x5.2.2) fun x6 =>
 Option.bind (z56 x6.1 x6.2.2.1 x6.2.2.2) fun x7 =>
 z17 ill_3 v_4 ([(Arr2_Config.mk (Config.mk x6.1.Members) (Config.mk x6.2.1.Members)), (Arr2_Config.mk (Config.mk x7.1.Members) (Config.mk x6.2.1.Members)), (Arr2_Config.mk (Config.mk raw_1.Members) (Config.mk other_2.Members))] : List Arr2_Config) ((List.length ([(Arr2_Config.mk (Config.mk x6.1.Members) (Config.mk x6.2.1.Members)), (Arr2_Config.mk (Config.mk x7.1.Members) (Config.mk x6.2.1.Members)), (Arr2_Config.mk (Config.mk raw_1.Members) (Config.mk other_2.Members))] : List Arr2_Config) : Nat) : Int) 0 raw_1.Members other_2.Members x_5.Kind x_5.Set x_5.A x_5.B x_5.Refutations x7.2.1 x7.2.2 x6.1.Members x6.2.1.Members
 ) (law15_IntactAnswers t_0 raw_1 other_2 ill_3 v_4 x_5) :=
 cL o1' Tryz.func8
theorem y2l (c_0 : Config) : Le (
 bif (ltB 30 (c_0.Members.length : Int)) then
 some false
 else
 z2n 0 0 c_0.Members
 ) (z4p c_0) :=
 cL o1' Tryz.func28
theorem law15_awake_le  : Le (
 Option.bind (law15_four) fun x0 =>
 Option.bind (law15_four) fun x1 =>
 Option.bind (z5h x0 x1 1) fun x2 =>
 Option.bind (law15_four) fun x3 =>
 Option.bind (law15_four) fun x4 =>
 Option.bind (z5h x3 x4 3) fun x5 =>
 Option.bind (law15_four) fun x6 =>
 Option.bind (law15_four) fun x7 =>
 Option.bind (z41 x6 x7 1) fun x8 =>
 bif eqB x2.2 0 then
 bif eqB x5.2 0 then
 bif eqB x8.2 0 then
 bif eqB x2.1 14 then
 bif eqB x5.1 0 then
 some (eqB x8.1 1)
 else
 some false
 else
 some false
 else
 some false
 else
 some false
 else
 some false
 ) (law15_awake) :=
 cL o1' Tryz.func17
theorem y2z (l_0 : List Int) : Le (
 hiK (List.length l_0) (if 400 < (l_0.length : Int) then 400 else (l_0.length : Int)) fun b0 =>
 some ((), (List.drop 0 (List.take b0 l_0)), 0)
 ) (z7p l_0) :=
 cL o26' Tryz.func9
theorem y0w (n_1 : Int) (h0 : List Int) (h1 : Int) : Le (
 Option.bind (z7k n_1 h0 h1) fun x0 =>
 Option.bind (z10 2 x0.2.1 x0.2.2) fun x1 =>
 bif eqB x1.1 0 then
 some ((Config.mk x0.1.Members), (Config.mk x0.1.Members), x1.2.1, x1.2.2)
 else
 z3i ([] : List (List Trust)) x0.1.Members (x0.1.Members.length : Int) 0 x1.2.1 x1.2.2 ([] : List Member) ([] : List Member) x0.1.Members
 ) (z7m n_1 h0 h1) :=
 cL o20' Tryz.func10
theorem y3p (c_1 : Config) (h0 : List Int) (h1 : Int) : Le (
 capOk (List.length ([] : List Member) + List.length c_1.Members) <|
 bif (eqB ((List.length (([] : List Member) ++ c_1.Members) : Nat) : Int) 0) then
 Option.bind (z18 ([1, 10, 11] : List Int) h0 h1) fun x0 =>
 chk (x0.1 = x0.1 /\ 0 <= x0.1 /\ x0.1 <= 65536) <|
 some ((Config.mk (List.replicate (Int.toNat x0.1) (Member.mk false (Trust.mk 0 ([] : List Int) ([] : List Trust))))), x0.2.1, x0.2.2)
 else
 Option.bind (z10 ((List.length (([] : List Member) ++ c_1.Members) : Nat) : Int) h0 h1) fun x1 =>
 nth (([] : List Member) ++ c_1.Members) x1.1 fun _ =>
 Option.bind (z10 5 x1.2.1 x1.2.2) fun x2 =>
 bif eqB x2.1 0 then
 nthN (([] : List Member) ++ c_1.Members) (Int.toNat x1.1) fun y3 =>
 nthN (([] : List Member) ++ c_1.Members) (Int.toNat x1.1) fun y4 =>
 some ((Config.mk (List.set (([] : List Member) ++ c_1.Members) (Int.toNat x1.1) (Member.mk (!y3.Declared) (Trust.mk y4.Trust.Threshold y4.Trust.Nodes y4.Trust.Inner)))), x2.2.1, x2.2.2)
 else
 bif eqB x2.1 1 then
 nthN (([] : List Member) ++ c_1.Members) (Int.toNat x1.1) fun y5 =>
 Option.bind (z42 y5.Trust x2.2.1 x2.2.2) fun x6 =>
 nthN (([] : List Member) ++ c_1.Members) (Int.toNat x1.1) fun y7 =>
 some ((Config.mk (List.set (([] : List Member) ++ c_1.Members) (Int.toNat x1.1) (Member.mk y7.Declared (Trust.mk x6.1.Threshold x6.1.Nodes x6.1.Inner)))), x6.2.1, x6.2.2)
 else
 bif eqB x2.1 2 then
 nthN (([] : List Member) ++ c_1.Members) (Int.toNat x1.1) fun y8 =>
 some ((Config.mk (List.set (([] : List Member) ++ c_1.Members) (Int.toNat x1.1) (Member.mk y8.Declared (Trust.mk 1 ([((List.length (([] : List Member) ++ c_1.Members) : Nat) : Int)] : List Int) ([] : List Trust))))), x2.2.1, x2.2.2)
 else
 bif eqB x2.1 3 then
 hiK (List.length (([] : List Member) ++ c_1.Members)) (subI .i64 ((List.length (([] : List Member) ++ c_1.Members) : Nat) : Int) 1) fun b9 =>
 some ((Config.mk (List.drop 0 (List.take b9 (([] : List Member) ++ c_1.Members)))), x2.2.1, x2.2.2)
 else
 z3o false x2.2.1 x2.2.2 c_1.Members ([] : List Member) (([] : List Member) ++ c_1.Members)
 ) (z56 c_1 h0 h1) :=
 cL o12' Tryz.func29
theorem y9s (c_1 : Config) (h0 : List Int) (h1 : Int) : Le (
 Option.bind (z18 ([0, 1, 1, 2, 3] : List Int) h0 h1) fun x0 =>
 z6h (c_1.Members.length : Int) 0 x0.1 x0.2.1 x0.2.2 c_1.Members
 ) (z7q c_1 h0 h1) :=
 cL o13' Tryz.func11
theorem y7h (low_0 high_1 : Config) (ill_2 : Int) : Le (
 Option.bind (z6s low_0 high_1 ill_2) fun x0 =>
 some (x0.1, x0.2.2)
 ) (z5h low_0 high_1 ill_2) :=
 cL o5' Tryz.func12
theorem y6b (s_0 : Int) : Le (
 z3v s_0 ([] : List Int) 0
 ) (z5i s_0) :=
 cL o2' Tryz.func19
theorem qv8 (n_1 : Int) (h0 : List Int) (h1 : Int) : Le (
 bif (leB (h0.length : Int) h1) then
 some (0, h0, h1)
 else
 nth h0 h1 fun y0 =>
 chk (n_1 ≠ 0) <|
 bif ltB (remI .i64 y0 n_1) 0 then
 some ((addI .i64 (remI .i64 y0 n_1) n_1), h0, (addI .i64 h1 1))
 else
 some ((remI .i64 y0 n_1), h0, (addI .i64 h1 1))
 ) (z10 n_1 h0 h1) :=
 cL o13' Tryz.func20
theorem y99 (c_0 : Config) (s_1 : Int) : Le (
 Option.bind (z1t s_1) fun x0 =>
 bif !x0 then
 some 0
 else
 Option.bind (z28 c_0) fun x1 =>
 Option.bind (z5c c_0 s_1) fun x2 =>
 z4h (andI .i64 s_1 x1) x2 (x2.length : Int) 0 c_0.Members
 ) (z67 c_0 s_1) :=
 cL o0' Tryz.func22
theorem y92 (low_0 high_1 : Config) (ill_2 : Int) : Le (
 Option.bind (z6s low_0 high_1 ill_2) fun x0 =>
 bif neB x0.2.2 0 then
 some (0, x0.2.2)
 else
 Option.bind (z29 low_0) fun x1 =>
 some ((q1w .i64 x1 x0.1), 0)
 ) (z41 low_0 high_1 ill_2) :=
 cL o5' Tryz.func13
theorem qqu (c_0 : Config) (s_1 : Int) : Le (
 Option.bind (z1t s_1) fun x0 =>
 bif !x0 then
 some false
 else
 bif eqB s_1 0 then
 some false
 else
 Option.bind (z28 c_0) fun x1 =>
 bif neB (andI .i64 s_1 x1) s_1 then
 some false
 else
 Option.bind (z5i s_1) fun x2 =>
 z2t s_1 x2 (x2.length : Int) 0 c_0.Members
 ) (z1q c_0 s_1) :=
 cL o1' Tryz.func14
theorem y8u (low_0 high_1 : Config) (ill_2 : Int) : Le (
 Option.bind (z5j low_0 high_1 ill_2) fun x0 =>
 bif neB x0 0 then
 some (([] : List Int), x0)
 else
 Option.bind (z3g low_0) fun x1 =>
 Option.bind (z57 x1) fun x2 =>
 z44 ill_2 ([] : List Int) x2 (x2.length : Int) 0 low_0.Members high_1.Members
 ) (z7j low_0 high_1 ill_2) :=
 cL o16' Tryz.func15
theorem ya0 (low_0 : Config) (b_1 : Int) : Le (
 Option.bind (z3e low_0) fun x0 =>
 bif neB x0 0 then
 some (false, x0)
 else
 Option.bind (z6t low_0 b_1) fun x1 =>
 bif neB x1 0 then
 some (false, x1)
 else
 Option.bind (z43 low_0 b_1) fun x2 =>
 Option.bind (z74 x2) fun x3 =>
 some (x3.1, 0)
 ) (z3n low_0 b_1) :=
 cL o7' Tryz.func16
theorem law15_four_le  : Le (
 z3j 0 ([] : List Member) ([] : List Member)
 ) (law15_four) :=
 cL o9' Tryz.func53
theorem y7b (n_1 : Int) (h0 : List Int) (h1 : Int) : Le (
 Option.bind (z1a 1 n_1 h0 h1) fun x0 =>
 Option.bind (z10 3 x0.2.1 x0.2.2) fun x1 =>
 z1f x0.1 x1.1 0 x1.2.1 x1.2.2 ([] : List Member) ([] : List Member)
 ) (z7k n_1 h0 h1) :=
 cL o12' Tryz.func36
theorem y9l (l_1 h0 : List Int) (h1 : Int) : Le (
 Option.bind (z10 (l_1.length : Int) h0 h1) fun x0 =>
 nth l_1 x0.1 fun y1 =>
 some (y1, x0.2.1, x0.2.2)
 ) (z18 l_1 h0 h1) :=
 cL o13' Tryz.func35
theorem qwm (x_1 : Trust) (h0 : List Int) (h1 : Int) : Le (
 bif (ltB 0 (x_1.Inner.length : Int)) then
 Option.bind (z10 2 h0 h1) fun x0 =>
 bif eqB x0.1 1 then
 capOk (List.length ([] : List Trust) + List.length x_1.Inner) <|
 Option.bind (z10 ((List.length (([] : List Trust) ++ x_1.Inner) : Nat) : Int) x0.2.1 x0.2.2) fun x1 =>
 nth (([] : List Trust) ++ x_1.Inner) x1.1 fun _ =>
 nthN (([] : List Trust) ++ x_1.Inner) (Int.toNat x1.1) fun y2 =>
 Option.bind (z42 y2 x1.2.1 x1.2.2) fun x3 =>
 nth (([] : List Trust) ++ x_1.Inner) x1.1 fun _ =>
 nthN (([] : List Trust) ++ x_1.Inner) (Int.toNat x1.1) fun _y4 =>
 some ((Trust.mk x_1.Threshold x_1.Nodes (List.set (([] : List Trust) ++ x_1.Inner) (Int.toNat x1.1) (Trust.mk x3.1.Threshold x3.1.Nodes x3.1.Inner))), x3.2.1, x3.2.2)
 else
 Option.bind (z10 6 x0.2.1 x0.2.2) fun x5 =>
 bif eqB x5.1 0 then
 Option.bind (z18 ([0, (-1), (addI .i64 (x_1.Nodes.length : Int) (x_1.Inner.length : Int)), (addI .i64 (addI .i64 (x_1.Nodes.length : Int) (x_1.Inner.length : Int)) 1)] : List Int) x5.2.1 x5.2.2) fun x6 =>
 some ((Trust.mk x6.1 x_1.Nodes x_1.Inner), x6.2.1, x6.2.2)
 else
 bif eqB x5.1 1 then
 capOk (List.length ([] : List Int) + List.length x_1.Nodes) <|
 Option.bind (z18 ([(-1), 0, 9, 10] : List Int) x5.2.1 x5.2.2) fun x7 =>
 capOk (List.length (([] : List Int) ++ x_1.Nodes) + List.length ([x7.1] : List Int)) <|
 some ((Trust.mk x_1.Threshold ((([] : List Int) ++ x_1.Nodes) ++ ([x7.1] : List Int)) x_1.Inner), x7.2.1, x7.2.2)
 else
 bif eqB x5.1 2 then
 some ((Trust.mk x_1.Threshold ([] : List Int) x_1.Inner), x5.2.1, x5.2.2)
 else
 bif eqB x5.1 3 then
 capOk (List.length ([] : List Trust) + List.length x_1.Inner) <|
 capOk (List.length (([] : List Trust) ++ x_1.Inner) + List.length ([(Trust.mk 0 ([] : List Int) ([] : List Trust))] : List Trust)) <|
 some ((Trust.mk x_1.Threshold x_1.Nodes ((([] : List Trust) ++ x_1.Inner) ++ ([(Trust.mk 0 ([] : List Int) ([] : List Trust))] : List Trust))), x5.2.1, x5.2.2)
 else
 bif eqB x5.1 4 then
 Option.bind (z1a 1 4 x5.2.1 x5.2.2) fun x8 =>
 z3d x8.1 x8.2.1 x8.2.2 x_1.Threshold x_1.Nodes x_1.Inner 0 ([] : List Int) ([] : List Trust) x_1.Threshold x_1.Nodes x_1.Inner
 else
 Option.bind (z18 ([20, 60, 101] : List Int) x5.2.1 x5.2.2) fun x9 =>
 z2u ([] : List Trust) x9.1 x9.2.1 x9.2.2 x_1.Threshold x_1.Nodes x_1.Inner 0 ([] : List Int) ([] : List Trust)
 else
 Option.bind (z10 6 h0 h1) fun x10 =>
 bif eqB x10.1 0 then
 Option.bind (z18 ([0, (-1), (addI .i64 (x_1.Nodes.length : Int) (x_1.Inner.length : Int)), (addI .i64 (addI .i64 (x_1.Nodes.length : Int) (x_1.Inner.length : Int)) 1)] : List Int) x10.2.1 x10.2.2) fun x11 =>
 some ((Trust.mk x11.1 x_1.Nodes x_1.Inner), x11.2.1, x11.2.2)
 else
 bif eqB x10.1 1 then
 capOk (List.length ([] : List Int) + List.length x_1.Nodes) <|
 Option.bind (z18 ([(-1), 0, 9, 10] : List Int) x10.2.1 x10.2.2) fun x12 =>
 capOk (List.length (([] : List Int) ++ x_1.Nodes) + List.length ([x12.1] : List Int)) <|
 some ((Trust.mk x_1.Threshold ((([] : List Int) ++ x_1.Nodes) ++ ([x12.1] : List Int)) x_1.Inner), x12.2.1, x12.2.2)
 else
 bif eqB x10.1 2 then
 some ((Trust.mk x_1.Threshold ([] : List Int) x_1.Inner), x10.2.1, x10.2.2)
 else
 bif eqB x10.1 3 then
 capOk (List.length ([] : List Trust) + List.length x_1.Inner) <|
 capOk (List.length (([] : List Trust) ++ x_1.Inner) + List.length ([(Trust.mk 0 ([] : List Int) ([] : List Trust))] : List Trust)) <|
 some ((Trust.mk x_1.Threshold x_1.Nodes ((([] : List Trust) ++ x_1.Inner) ++ ([(Trust.mk 0 ([] : List Int) ([] : List Trust))] : List Trust))), x10.2.1, x10.2.2)
 else
 bif eqB x10.1 4 then
 Option.bind (z1a 1 4 x10.2.1 x10.2.2) fun x13 =>
 z3d x13.1 x13.2.1 x13.2.2 x_1.Threshold x_1.Nodes x_1.Inner 0 ([] : List Int) ([] : List Trust) x_1.Threshold x_1.Nodes x_1.Inner
 else
 Option.bind (z18 ([20, 60, 101] : List Int) x10.2.1 x10.2.2) fun x14 =>
 z2u ([] : List Trust) x14.1 x14.2.1 x14.2.2 x_1.Threshold x_1.Nodes x_1.Inner 0 ([] : List Int) ([] : List Trust)
 ) (z42 x_1 h0 h1) :=
 cL o4' Tryz.func73
theorem y9f (low_0 high_1 : Config) (ill_2 : Int) : Le (
 Option.bind (z64 low_0 high_1 ill_2) fun x0 =>
 bif neB x0.2 0 then
 some (0, false, x0.2)
 else
 Option.bind (z23 low_0 ill_2) fun x1 =>
 bif !x1.1 then
 some (0, false, 0)
 else
 Option.bind (z29 low_0) fun x2 =>
 z5w x2 x0.1 (x0.1.length : Int) 0 low_0.Members high_1.Members
 ) (z6s low_0 high_1 ill_2) :=
 cL o10' Tryz.func41
theorem y1v (s_0 : Int) : Le (
 bif leB 0 s_0 then
 some (leB s_0 1023)
 else
 some false
 ) (z1t s_0) :=
 cL o1' Tryz.func43
theorem y6i (c_0 : Config) : Le (
 z26 0 c_0.Members (c_0.Members.length : Int) 0 c_0.Members
 ) (z28 c_0) :=
 cL o0' Tryz.func40
theorem y62 (c_0 : Config) (s_1 : Int) : Le (
 Option.bind (z1t s_1) fun x0 =>
 bif !x0 then
 some ([] : List Int)
 else
 Option.bind (z28 c_0) fun x1 =>
 z2f (andI .i64 s_1 x1) ([] : List Int) true c_0.Members
 ) (z5c c_0 s_1) :=
 cL o2' Tryz.func54
theorem y7w (c_0 : Config) : Le (
 chk (0 <= (c_0.Members.length : Int)) <|
 some (subI .i64 (shlI .i64 1 (c_0.Members.length : Int)) 1)
 ) (z29 c_0) :=
 cL o0' Tryz.func42
theorem y8b (low_0 high_1 : Config) (b_2 : Int) : Le (
 Option.bind (z6m low_0 high_1) fun x0 =>
 bif neB x0 0 then
 some x0
 else
 Option.bind (z6t low_0 b_2) fun x1 =>
 some x1
 ) (z5j low_0 high_1 b_2) :=
 cL o0' Tryz.func45
theorem y71 (c_0 : Config) : Le (
 chk (0 <= (c_0.Members.length : Int)) <|
 some (subI .i64 (shlI .i64 1 (c_0.Members.length : Int)) 1)
 ) (z3g c_0) :=
 cL o0' Tryz.func47
theorem y9i (s_0 : Int) : Le (
 z2z s_0 ([] : List Int) 0
 ) (z57 s_0) :=
 cL o2' Tryz.func46
theorem y6w (c_0 : Config) : Le (
 bif (ltB 10 (c_0.Members.length : Int)) then
 some 3
 else
 z3w c_0.Members (c_0.Members.length : Int) 0 c_0.Members
 ) (z3e c_0) :=
 cL o0' Tryz.func49
theorem y98 (c_0 : Config) (b_1 : Int) : Le (
 bif ltB b_1 0 then
 some 1
 else
 Option.bind (z3g c_0) fun x0 =>
 bif ltB x0 b_1 then
 some 1
 else
 some 0
 ) (z6t c_0 b_1) :=
 cL o0' Tryz.func50
theorem y9m (c_0 : Config) (s_1 : Int) : Le (
 Option.bind (z1t s_1) fun x0 =>
 bif !x0 then
 some (Config.mk c_0.Members)
 else
 z2b s_1 c_0.Members (c_0.Members.length : Int) 0 c_0.Members ([] : List Member) ([] : List Member)
 ) (z43 c_0 s_1) :=
 cL o9' Tryz.func52
theorem y60 (c_0 : Config) : Le (
 Option.bind (z3e c_0) fun x0 =>
 bif neB x0 0 then
 some (false, x0)
 else
 Option.bind (z6n c_0) fun x1 =>
 some ((eqB x1.1 0), 0)
 ) (z74 c_0) :=
 cL o7' Tryz.func51
theorem y6m (a_1 b_2 : Int) (h0 : List Int) (h1 : Int) : Le (
 Option.bind (z10 (addI .i64 (subI .i64 b_2 a_1) 1) h0 h1) fun x0 =>
 some ((addI .i64 a_1 x0.1), x0.2.1, x0.2.2)
 ) (z1a a_1 b_2 h0 h1) :=
 cL o13' Tryz.func77
theorem y8p (low_0 high_1 : Config) (ill_2 : Int) : Le (
 Option.bind (z2x low_0 high_1 ill_2) fun x0 =>
 bif neB x0 0 then
 some (([] : List Int), x0)
 else
 Option.bind (z1h low_0) fun x1 =>
 Option.bind (z52 x1) fun x2 =>
 z1x ill_2 ([] : List Int) x2 (x2.length : Int) 0 low_0.Members high_1.Members
 ) (z64 low_0 high_1 ill_2) :=
 cL o16' Tryz.func82
theorem y6k (low_0 : Config) (b_1 : Int) : Le (
 Option.bind (z36 low_0 b_1) fun x0 =>
 bif neB x0 0 then
 some (false, x0)
 else
 Option.bind (z2s low_0 b_1) fun x1 =>
 Option.bind (z50 x1) fun x2 =>
 some (x2.1, x2.2)
 ) (z23 low_0 b_1) :=
 cL o7' Tryz.func67
theorem yao (low_0 high_1 : Config) : Le (
 Option.bind (z3e low_0) fun x0 =>
 bif neB x0 0 then
 some x0
 else
 Option.bind (z3e high_1) fun x1 =>
 bif neB x1 0 then
 some x1
 else
 bif (neB (low_0.Members.length : Int) (high_1.Members.length : Int)) then
 some 1
 else
 Option.bind (z28 low_0) fun x2 =>
 Option.bind (z28 high_1) fun x3 =>
 bif neB x2 x3 then
 some 1
 else
 bif (ltB 7 (low_0.Members.length : Int)) then
 some 3
 else
 z35 (low_0.Members.length : Int) 0 low_0.Members high_1.Members
 ) (z6m low_0 high_1) :=
 cL o0' Tryz.func83
end Go.Proofs.YtjfhnffdijlboaaGreat
