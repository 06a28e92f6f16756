/- What the functions come to, printed by a program and checked by the kernel. -/
import Derived.Test.YtjfhnffdijlboaaGreatP15Df
namespace Go.Proofs.YtjfhnffdijlboaaGreat
open Go Go.Ab
set_option maxRecDepth 100000
theorem law15_IntactBlocks_le (t_0 : List Int) : Le (
 Option.bind (z6k t_0) fun x0 =>
 Option.bind (z67 6 x0.2.1 x0.2.2) fun x1 =>
 Option.bind (z6l x1.1 x1.2.2.1 x1.2.2.2) fun x2 =>
 Option.bind (z2f x1.1 x1.2.1 x2.1) fun x3 =>
 bif neB x3.2 0 then
 some false
 else
 chk (0 ≤ (x1.1.Members.length : Int)) <|
 Option.bind (z54 x3.1) fun x4 =>
 z2b x3.1 (subI .i64 (shlI .i64 1 (x1.1.Members.length : Int)) 1) x4 (x4.length : Int) 0 x2.2.1 x2.2.2 x1.1.Members x1.2.1.Members
 ) (law15_IntactBlocks t_0) :=
 cL o1' Tryz.func4
theorem law15_IntactExplains_le (t_0 : List Int) (x_1 : Explanation) : Le (
 bif (ltB 100 (x_1.Refutations.length : Int)) then
 Option.bind (law15_awake) fun x0 =>
 some x0
 else
 Option.bind (z6k t_0) fun x1 =>
 Option.bind (z67 4 x1.2.1 x1.2.2) fun x2 =>
 Option.bind (z6l x2.1 x2.2.2.1 x2.2.2.2) fun x3 =>
 Option.bind (z2f x2.1 x2.2.1 x3.1) fun x4 =>
 bif neB x4.2 0 then
 some false
 else
 z1k x3.1 x4.1 (x2.1.Members.length : Int) 0 x_1.Kind x_1.Set x_1.A x_1.B x_1.Refutations x3.2.1 x3.2.2 x2.1.Members x2.2.1.Members
 ) (law15_IntactExplains t_0 x_1) :=
 cL o1' Tryz.func7
theorem law15_IntactFollows_le (t_0 : List Int) : Le (
 Option.bind (z6k t_0) fun x0 =>
 Option.bind (z67 6 x0.2.1 x0.2.2) fun x1 =>
 chk (0 ≤ (x1.1.Members.length : Int)) <|
 Option.bind (z6l x1.1 x1.2.2.1 x1.2.2.2) fun x2 =>
 Option.bind (z2f x1.1 x1.2.1 x2.1) fun x3 =>
 bif neB x3.2 0 then
 some false
 else
 Option.bind (z16 64 x2.2.1 x2.2.2) fun x4 =>
 Option.bind (z57 x1.1 (andI .i64 x4.1 (subI .i64 (shlI .i64 1 (x1.1.Members.length : Int)) 1))) fun x5 =>
 bif eqB (andI .i64 x5 x3.1) 0 then
 Option.bind (law15_awake) fun x6 =>
 some x6
 else
 Option.bind (z16 64 x4.2.1 x4.2.2) fun x7 =>
 z25 x2.1 x3.1 (orI .i64 (andI .i64 x5 x3.1) (andI .i64 x7.1 (subI .i64 (shlI .i64 1 (x1.1.Members.length : Int)) 1))) 0 x7.2.1 x7.2.2 x1.1.Members x1.2.1.Members
 ) (law15_IntactFollows t_0) :=
 cL o1' Tryz.func6
theorem law15_IntactLess_le (t_0 : List Int) : Le (
 Option.bind (z6k t_0) fun x0 =>
 Option.bind (z67 5 x0.2.1 x0.2.2) fun x1 =>
 Option.bind (z6l x1.1 x1.2.2.1 x1.2.2.2) fun x2 =>
 Option.bind (z6l x1.1 x2.2.1 x2.2.2) fun x3 =>
 Option.bind (z2f x1.1 x1.2.1 x2.1) fun x4 =>
 Option.bind (z2f x1.1 x1.2.1 (orI .i64 x2.1 x3.1)) fun x5 =>
 Option.bind (z3d x1.1 x1.2.1 x2.1) fun x6 =>
 bif neB x4.2 0 then
 some false
 else
 bif neB x5.2 0 then
 some false
 else
 bif neB x6.2 0 then
 some false
 else
 bif neB (andI .i64 x5.1 x4.1) x5.1 then
 bif neB x4.1 0 then
 some false
 else
 bif neB x4.1 0 then
 Option.bind (z2f x1.1 x1.2.1 x6.1) fun x7 =>
 bif eqB x7.2 0 then
 bif eqB x7.1 x4.1 then
 Option.bind (law15_awake) fun x8 =>
 some x8
 else
 some false
 else
 some false
 else
 Option.bind (law15_awake) fun x9 =>
 some x9
 else
 bif neB x4.1 0 then
 Option.bind (z2f x1.1 x1.2.1 x6.1) fun x10 =>
 bif eqB x10.2 0 then
 bif eqB x10.1 x4.1 then
 Option.bind (law15_awake) fun x11 =>
 some x11
 else
 some false
 else
 some false
 else
 Option.bind (law15_awake) fun x12 =>
 some x12
 ) (law15_IntactLess t_0) :=
 cL o1' Tryz.func5
theorem law15_IntactQuorum_le (t_0 : List Int) : Le (
 Option.bind (z6k t_0) fun x0 =>
 Option.bind (z67 6 x0.2.1 x0.2.2) fun x1 =>
 chk (0 ≤ (x1.1.Members.length : Int)) <|
 Option.bind (z6l x1.1 x1.2.2.1 x1.2.2.2) fun x2 =>
 Option.bind (z2f x1.1 x1.2.1 x2.1) fun x3 =>
 Option.bind (z3d x1.1 x1.2.1 x2.1) fun x4 =>
 bif neB x3.2 0 then
 some false
 else
 bif neB x4.2 0 then
 some false
 else
 bif neB (andI .i64 x3.1 x4.1) 0 then
 some false
 else
 bif (neB (orI .i64 x3.1 x4.1) (subI .i64 (shlI .i64 1 (x1.1.Members.length : Int)) 1)) then
 some false
 else
 bif neB (andI .i64 x3.1 x2.1) 0 then
 some false
 else
 bif neB x3.1 0 then
 Option.bind (z1a x1.2.1 x3.1) fun x5 =>
 bif !x5 then
 some false
 else
 bif neB x3.1 0 then
 Option.bind (z1a x1.1 x3.1) fun x6 =>
 bif !x6 then
 some false
 else
 Option.bind (z61 x1.1 x1.2.1 x2.1) fun x7 =>
 Option.bind (z22 x1.1 x2.1) fun x8 =>
 bif !x8.1 then
 bif eqB x3.1 0 then
 Option.bind (law15_awake) fun x9 =>
 some x9
 else
 some false
 else
 z17 x4.1 x7.1 x7.1 (x7.1.length : Int) 0 x2.2.1 x2.2.2 x1.1.Members x1.2.1.Members
 else
 Option.bind (z61 x1.1 x1.2.1 x2.1) fun x10 =>
 Option.bind (z22 x1.1 x2.1) fun x11 =>
 bif !x11.1 then
 bif eqB x3.1 0 then
 Option.bind (law15_awake) fun x12 =>
 some x12
 else
 some false
 else
 z17 x4.1 x10.1 x10.1 (x10.1.length : Int) 0 x2.2.1 x2.2.2 x1.1.Members x1.2.1.Members
 else
 bif neB x3.1 0 then
 Option.bind (z1a x1.1 x3.1) fun x13 =>
 bif !x13 then
 some false
 else
 Option.bind (z61 x1.1 x1.2.1 x2.1) fun x14 =>
 Option.bind (z22 x1.1 x2.1) fun x15 =>
 bif !x15.1 then
 bif eqB x3.1 0 then
 Option.bind (law15_awake) fun x16 =>
 some x16
 else
 some false
 else
 z17 x4.1 x14.1 x14.1 (x14.1.length : Int) 0 x2.2.1 x2.2.2 x1.1.Members x1.2.1.Members
 else
 Option.bind (z61 x1.1 x1.2.1 x2.1) fun x17 =>
 Option.bind (z22 x1.1 x2.1) fun x18 =>
 bif !x18.1 then
 bif eqB x3.1 0 then
 Option.bind (law15_awake) fun x19 =>
 some x19
 else
 some false
 else
 z17 x4.1 x17.1 x17.1 (x17.1.length : Int) 0 x2.2.1 x2.2.2 x1.1.Members x1.2.1.Members
 ) (law15_IntactQuorum t_0) :=
 cL o1' Tryz.func3
theorem law15_awake_le  : Le (
 Option.bind (law15_four) fun x0 =>
 Option.bind (law15_four) fun x1 =>
 Option.bind (z2f x0 x1 1) fun x2 =>
 Option.bind (law15_four) fun x3 =>
 Option.bind (law15_four) fun x4 =>
 Option.bind (z2f x3 x4 3) fun x5 =>
 Option.bind (law15_four) fun x6 =>
 Option.bind (law15_four) fun x7 =>
 Option.bind (z3d x6 x7 1) fun x8 =>
 bif eqB x2.2 0 then
 bif eqB x5.2 0 then
 bif eqB x8.2 0 then
 bif eqB x2.1 14 then
 bif eqB x5.1 0 then
 some (eqB x8.1 1)
 else
 some false
 else
 some false
 else
 some false
 else
 some false
 else
 some false
 ) (law15_awake) :=
 cL o1' Tryz.func17
theorem y3l (l_0 : List Int) : Le (
 hiK (List.length l_0) (if 400 < (l_0.length : Int) then 400 else (l_0.length : Int)) fun b0 =>
 some ((), (List.drop 0 (List.take b0 l_0)), 0)
 ) (z6k l_0) :=
 cL ⟨[.ptr 0 0],[[.lf (.l .i64), .lf (.i .i64)]]⟩ Tryz.func9
theorem y0u (n_1 : Int) (h0 : List Int) (h1 : Int) : Le (
 Option.bind (z73 n_1 h0 h1) fun x0 =>
 Option.bind (z16 2 x0.2.1 x0.2.2) fun x1 =>
 bif eqB x1.1 0 then
 some ((Config.mk x0.1.Members), (Config.mk x0.1.Members), x1.2.1, x1.2.2)
 else
 z3h ([] : List (List Trust)) x0.1.Members (x0.1.Members.length : Int) 0 x1.2.1 x1.2.2 ([] : List Member) ([] : List Member) x0.1.Members
 ) (z67 n_1 h0 h1) :=
 cL o19' Tryz.func10
theorem y6s (c_1 : Config) (h0 : List Int) (h1 : Int) : Le (
 Option.bind (z4o ([0, 1, 1, 2, 3] : List Int) h0 h1) fun x0 =>
 z62 (c_1.Members.length : Int) 0 x0.1 x0.2.1 x0.2.2 c_1.Members
 ) (z6l c_1 h0 h1) :=
 cL o13' Tryz.func11
theorem y9x (low_0 high_1 : Config) (ill_2 : Int) : Le (
 Option.bind (z6b low_0 high_1 ill_2) fun x0 =>
 some (x0.1, x0.2.2)
 ) (z2f low_0 high_1 ill_2) :=
 cL o7' Tryz.func12
theorem y7a (s_0 : Int) : Le (
 z3p s_0 ([] : List Int) 0
 ) (z54 s_0) :=
 cL o2' Tryz.func19
theorem qwt (n_1 : Int) (h0 : List Int) (h1 : Int) : Le (
 bif (leB (h0.length : Int) h1) then
 some (0, h0, h1)
 else
 nth h0 h1 fun y0 =>
 chk (n_1 ≠ 0) <|
 bif ltB (remI .i64 y0 n_1) 0 then
 some ((addI .i64 (remI .i64 y0 n_1) n_1), h0, (addI .i64 h1 1))
 else
 some ((remI .i64 y0 n_1), h0, (addI .i64 h1 1))
 ) (z16 n_1 h0 h1) :=
 cL o13' Tryz.func20
theorem y61 (c_0 : Config) (s_1 : Int) : Le (
 Option.bind (z1s s_1) fun x0 =>
 bif !x0 then
 some 0
 else
 Option.bind (z29 c_0) fun x1 =>
 Option.bind (z4z c_0 s_1) fun x2 =>
 z48 (andI .i64 s_1 x1) x2 (x2.length : Int) 0 c_0.Members
 ) (z57 c_0 s_1) :=
 cL o0' Tryz.func22
theorem y9f (low_0 high_1 : Config) (ill_2 : Int) : Le (
 Option.bind (z6b low_0 high_1 ill_2) fun x0 =>
 bif neB x0.2.2 0 then
 some (0, x0.2.2)
 else
 Option.bind (z2a low_0) fun x1 =>
 some ((q1o .i64 x1 x0.1), 0)
 ) (z3d low_0 high_1 ill_2) :=
 cL o7' Tryz.func13
theorem qqu (c_0 : Config) (s_1 : Int) : Le (
 Option.bind (z1s s_1) fun x0 =>
 bif !x0 then
 some false
 else
 bif eqB s_1 0 then
 some false
 else
 Option.bind (z29 c_0) fun x1 =>
 bif neB (andI .i64 s_1 x1) s_1 then
 some false
 else
 Option.bind (z54 s_1) fun x2 =>
 z2w s_1 x2 (x2.length : Int) 0 c_0.Members
 ) (z1a c_0 s_1) :=
 cL o1' Tryz.func14
theorem y7w (low_0 high_1 : Config) (ill_2 : Int) : Le (
 Option.bind (z5q low_0 high_1 ill_2) fun x0 =>
 bif neB x0 0 then
 some (([] : List Int), x0)
 else
 Option.bind (z3g low_0) fun x1 =>
 Option.bind (z4v x1) fun x2 =>
 z3x ill_2 ([] : List Int) x2 (x2.length : Int) 0 low_0.Members high_1.Members
 ) (z61 low_0 high_1 ill_2) :=
 cL o15' Tryz.func15
theorem y9h (low_0 : Config) (b_1 : Int) : Le (
 Option.bind (z3u low_0) fun x0 =>
 bif neB x0 0 then
 some (false, x0)
 else
 Option.bind (z6c low_0 b_1) fun x1 =>
 bif neB x1 0 then
 some (false, x1)
 else
 Option.bind (z5f low_0 b_1) fun x2 =>
 Option.bind (z6m x2) fun x3 =>
 some (x3.1, 0)
 ) (z22 low_0 b_1) :=
 cL o10' Tryz.func16
theorem law15_four_le  : Le (
 z3i 0 ([] : List Member) ([] : List Member)
 ) (law15_four) :=
 cL o5' Tryz.func53
theorem y9t (n_1 : Int) (h0 : List Int) (h1 : Int) : Le (
 Option.bind (z1i 1 n_1 h0 h1) fun x0 =>
 Option.bind (z16 3 x0.2.1 x0.2.2) fun x1 =>
 z1e x0.1 x1.1 0 x1.2.1 x1.2.2 ([] : List Member) ([] : List Member)
 ) (z73 n_1 h0 h1) :=
 cL o21' Tryz.func36
theorem y8p (l_1 h0 : List Int) (h1 : Int) : Le (
 Option.bind (z16 (l_1.length : Int) h0 h1) fun x0 =>
 nth l_1 x0.1 fun y1 =>
 some (y1, x0.2.1, x0.2.2)
 ) (z4o l_1 h0 h1) :=
 cL o13' Tryz.func35
theorem yac (low_0 high_1 : Config) (ill_2 : Int) : Le (
 Option.bind (z5n low_0 high_1 ill_2) fun x0 =>
 bif neB x0.2 0 then
 some (0, false, x0.2)
 else
 Option.bind (z23 low_0 ill_2) fun x1 =>
 bif !x1.1 then
 some (0, false, 0)
 else
 Option.bind (z2a low_0) fun x2 =>
 z5g x2 x0.1 (x0.1.length : Int) 0 low_0.Members high_1.Members
 ) (z6b low_0 high_1 ill_2) :=
 cL o16' Tryz.func41
theorem y2i (s_0 : Int) : Le (
 bif leB 0 s_0 then
 some (leB s_0 1023)
 else
 some false
 ) (z1s s_0) :=
 cL o1' Tryz.func43
theorem yaf (c_0 : Config) : Le (
 z27 0 c_0.Members (c_0.Members.length : Int) 0 c_0.Members
 ) (z29 c_0) :=
 cL o0' Tryz.func40
theorem y7d (c_0 : Config) (s_1 : Int) : Le (
 Option.bind (z1s s_1) fun x0 =>
 bif !x0 then
 some ([] : List Int)
 else
 Option.bind (z29 c_0) fun x1 =>
 z2i (andI .i64 s_1 x1) ([] : List Int) true c_0.Members
 ) (z4z c_0 s_1) :=
 cL o2' Tryz.func54
theorem y8i (c_0 : Config) : Le (
 chk (0 ≤ (c_0.Members.length : Int)) <|
 some (subI .i64 (shlI .i64 1 (c_0.Members.length : Int)) 1)
 ) (z2a c_0) :=
 cL o0' Tryz.func42
theorem y6j (low_0 high_1 : Config) (b_2 : Int) : Le (
 Option.bind (z68 low_0 high_1) fun x0 =>
 bif neB x0 0 then
 some x0
 else
 Option.bind (z6c low_0 b_2) fun x1 =>
 some x1
 ) (z5q low_0 high_1 b_2) :=
 cL o0' Tryz.func45
theorem ya2 (c_0 : Config) : Le (
 chk (0 ≤ (c_0.Members.length : Int)) <|
 some (subI .i64 (shlI .i64 1 (c_0.Members.length : Int)) 1)
 ) (z3g c_0) :=
 cL o0' Tryz.func47
theorem y95 (s_0 : Int) : Le (
 z30 s_0 ([] : List Int) 0
 ) (z4v s_0) :=
 cL o2' Tryz.func46
theorem y78 (c_0 : Config) : Le (
 bif (ltB 10 (c_0.Members.length : Int)) then
 some 3
 else
 z3q c_0.Members (c_0.Members.length : Int) 0 c_0.Members
 ) (z3u c_0) :=
 cL o0' Tryz.func49
theorem yab (c_0 : Config) (b_1 : Int) : Le (
 bif ltB b_1 0 then
 some 1
 else
 Option.bind (z3g c_0) fun x0 =>
 bif ltB x0 b_1 then
 some 1
 else
 some 0
 ) (z6c c_0 b_1) :=
 cL o0' Tryz.func50
theorem y92 (c_0 : Config) (s_1 : Int) : Le (
 Option.bind (z1s s_1) fun x0 =>
 bif !x0 then
 some (Config.mk c_0.Members)
 else
 z2d s_1 c_0.Members (c_0.Members.length : Int) 0 c_0.Members ([] : List Member) ([] : List Member)
 ) (z5f c_0 s_1) :=
 cL o5' Tryz.func52
theorem y6f (c_0 : Config) : Le (
 Option.bind (z3u c_0) fun x0 =>
 bif neB x0 0 then
 some (false, x0)
 else
 Option.bind (z6n c_0) fun x1 =>
 some ((eqB x1.1 0), 0)
 ) (z6m c_0) :=
 cL o10' Tryz.func51
theorem y7m (a_1 b_2 : Int) (h0 : List Int) (h1 : Int) : Le (
 Option.bind (z16 (addI .i64 (subI .i64 b_2 a_1) 1) h0 h1) fun x0 =>
 some ((addI .i64 a_1 x0.1), x0.2.1, x0.2.2)
 ) (z1i a_1 b_2 h0 h1) :=
 cL o13' Tryz.func77
theorem y87 (low_0 high_1 : Config) (ill_2 : Int) : Le (
 Option.bind (z2z low_0 high_1 ill_2) fun x0 =>
 bif neB x0 0 then
 some (([] : List Int), x0)
 else
 Option.bind (z1g low_0) fun x1 =>
 Option.bind (z4r x1) fun x2 =>
 z1w ill_2 ([] : List Int) x2 (x2.length : Int) 0 low_0.Members high_1.Members
 ) (z5n low_0 high_1 ill_2) :=
 cL o15' Tryz.func82
theorem y5y (low_0 : Config) (b_1 : Int) : Le (
 Option.bind (z38 low_0 b_1) fun x0 =>
 bif neB x0 0 then
 some (false, x0)
 else
 Option.bind (z2v low_0 b_1) fun x1 =>
 Option.bind (z4p x1) fun x2 =>
 some (x2.1, x2.2)
 ) (z23 low_0 b_1) :=
 cL o10' Tryz.func67
theorem y6z (low_0 high_1 : Config) : Le (
 Option.bind (z3u low_0) fun x0 =>
 bif neB x0 0 then
 some x0
 else
 Option.bind (z3u high_1) fun x1 =>
 bif neB x1 0 then
 some x1
 else
 bif (neB (low_0.Members.length : Int) (high_1.Members.length : Int)) then
 some 1
 else
 Option.bind (z29 low_0) fun x2 =>
 Option.bind (z29 high_1) fun x3 =>
 bif neB x2 x3 then
 some 1
 else
 bif (ltB 7 (low_0.Members.length : Int)) then
 some 3
 else
 z37 (low_0.Members.length : Int) 0 low_0.Members high_1.Members
 ) (z68 low_0 high_1) :=
 cL o0' Tryz.func83
end Go.Proofs.YtjfhnffdijlboaaGreat
