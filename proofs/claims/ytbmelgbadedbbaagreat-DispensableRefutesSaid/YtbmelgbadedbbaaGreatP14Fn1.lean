/- What the functions come to, printed by a program and checked by the kernel. -/
import Derived.Test.YtbmelgbadedbbaaGreatP14Df
namespace Go.Proofs.YtbmelgbadedbbaaGreat
open Go Go.Ab
set_option maxRecDepth 100000
theorem y5a (low_0 high_1 : Config) : Le (
 Option.bind (z1s low_0) fun x0 =>
 bif (neB x0 0) then
 some x0
 else
 Option.bind (z1s high_1) fun x1 =>
 bif (neB x1 0) then
 some x1
 else
 bif (neB ((List.length low_0.Members : Nat) : Int) ((List.length high_1.Members : Nat) : Int)) then
 some 1
 else
 Option.bind (z1l low_0) fun x2 =>
 Option.bind (z1l high_1) fun x3 =>
 bif (neB x2 x3) then
 some 1
 else
 bif (ltB 7 ((List.length low_0.Members : Nat) : Int)) then
 some 3
 else
 z1x high_1.Members ((List.length high_1.Members : Nat) : Int) 0 low_0.Members high_1.Members
 ) (z4i low_0 high_1) :=
 cL o0' Tryz.func22
theorem y3w (c_0 : Config) : Le (
 bif (ltB 10 ((List.length c_0.Members : Nat) : Int)) then
 some 3
 else
 z23 c_0.Members ((List.length c_0.Members : Nat) : Int) 0 c_0.Members
 ) (z1s c_0) :=
 cL o0' Tryz.func58
theorem y53 (c_0 : Config) : Le (
 z1d ((List.length c_0.Members : Nat) : Int) 0 true c_0.Members
 ) (z3v c_0) :=
 cL o10' Tryz.func80
theorem y6b (low_0 high_1 : Config) : Le (
 Option.bind (z3j low_0) fun x0 =>
 bif (neB x0 0) then
 some x0
 else
 Option.bind (z3j high_1) fun x1 =>
 bif (neB x1 0) then
 some x1
 else
 bif (neB ((List.length low_0.Members : Nat) : Int) ((List.length high_1.Members : Nat) : Int)) then
 some 1
 else
 Option.bind (z1u low_0) fun x2 =>
 Option.bind (z1u high_1) fun x3 =>
 bif (neB x2 x3) then
 some 1
 else
 bif (ltB 7 ((List.length low_0.Members : Nat) : Int)) then
 some 3
 else
 z2y ((List.length low_0.Members : Nat) : Int) 0 low_0.Members high_1.Members
 ) (z5z low_0 high_1) :=
 cL o0' Tryz.func23
theorem y4p (c_0 : Config) (b_1 : Int) : Le (
 bif (ltB b_1 0) then
 some 1
 else
 Option.bind (z3x c_0) fun x0 =>
 bif (ltB x0 b_1) then
 some 1
 else
 some 0
 ) (z5o c_0 b_1) :=
 cL o0' Tryz.func64
theorem y55 (high_0 : Config) (b_1 : Int) : Le (
 Option.bind (z3j high_0) fun x0 =>
 bif (neB x0 0) then
 some (false, x0)
 else
 Option.bind (z5o high_0 b_1) fun x1 =>
 bif (neB x1 0) then
 some (false, x1)
 else
 Option.bind (z3x high_0) fun x2 =>
 bif (eqB (subI .i64 x2 b_1) 0) then
 some (true, 0)
 else
 Option.bind (z1v high_0 (subI .i64 x2 b_1)) fun x3 =>
 some (x3, 0)
 ) (z54 high_0 b_1) :=
 cL o9' Tryz.func26
theorem y5r (low_0 : Config) (b_1 : Int) : Le (
 Option.bind (z3j low_0) fun x0 =>
 bif (neB x0 0) then
 some (false, x0)
 else
 Option.bind (z5o low_0 b_1) fun x1 =>
 bif (neB x1 0) then
 some (false, x1)
 else
 Option.bind (z4d low_0 b_1) fun x2 =>
 Option.bind (z58 x2) fun x3 =>
 some (x3.1, 0)
 ) (z4w low_0 b_1) :=
 cL o9' Tryz.func24
theorem y3o (s_0 node_1 : Int) : Le (
 Option.bind (z22 s_0) fun x0 =>
 bif x0 then
 bif (leB 0 node_1) then
 bif (ltB node_1 10) then
 chk (0 ≤ node_1) <|
 some (eqB (andI .i64 (shrI .i64 s_0 node_1) 1) 1)
 else
 some false
 else
 some false
 else
 some false
 ) (z4n s_0 node_1) :=
 cL o1' Tryz.func70
theorem y6o (c_0 : Config) : Le (
 chk (0 ≤ ((List.length c_0.Members : Nat) : Int)) <|
 some (subI .i64 (shlI .i64 1 ((List.length c_0.Members : Nat) : Int)) 1)
 ) (z3x c_0) :=
 cL o0' Tryz.func62
theorem y3x (t_0 : Trust) (s_1 : Int) : Le (
 Option.bind (z22 s_1) fun x0 =>
 bif (!x0) then
 some false
 else
 z2b s_1 0 t_0.Nodes ((List.length t_0.Nodes : Nat) : Int) 0 t_0.Threshold t_0.Nodes t_0.Inner
 ) (z27 t_0 s_1) :=
 cL o1' Tryz.func63
theorem qzj (s_0 : Int) : Le (
 bif (leB 0 s_0) then
 some (leB s_0 1023)
 else
 some false
 ) (z22 s_0) :=
 cL o1' Tryz.func67
theorem y65 (c_0 : Config) : Le (
 z24 0 c_0.Members ((List.length c_0.Members : Nat) : Int) 0 c_0.Members
 ) (z1u c_0) :=
 cL o0' Tryz.func31
theorem y4b (s_0 : Int) : Le (
 z3d s_0 ([] : List (Int)) 0
 ) (z57 s_0) :=
 cL o3' Tryz.func68
theorem qze (s_0 : Int) : Le (
 Option.bind (z2h s_0 10) fun x0 =>
 some x0
 ) (z1q s_0) :=
 cL o1' Tryz.func77
theorem y42 (t_0 : Trust) (s_1 : Int) : Le (
 Option.bind (z1q s_1) fun x0 =>
 bif (!x0) then
 some false
 else
 z1n s_1 0 t_0.Nodes ((List.length t_0.Nodes : Nat) : Int) 0 t_0.Threshold t_0.Nodes t_0.Inner
 ) (z1t t_0 s_1) :=
 cL o1' Tryz.func83
theorem y4i (c_0 : Config) (s_1 : Int) : Le (
 Option.bind (z1l c_0) fun x0 =>
 some (eqB (q3c .i64 s_1 x0) 0)
 ) (z59 c_0 s_1) :=
 cL o1' Tryz.func84
theorem y0k (c_0 : Config) (s_1 : Int) : Le (
 Option.bind (z51 s_1) fun x0 =>
 z1g s_1 x0 ((List.length x0 : Nat) : Int) 0 c_0.Members
 ) (z32 c_0 s_1) :=
 cL o15' Tryz.func85
theorem y4s (c_0 : Config) : Le (
 z18 0 c_0.Members ((List.length c_0.Members : Nat) : Int) 0 c_0.Members
 ) (z1l c_0) :=
 cL o0' Tryz.func59
theorem y45 (c_0 : Config) : Le (
 bif (ltB 10 ((List.length c_0.Members : Nat) : Int)) then
 some 3
 else
 z3e c_0.Members ((List.length c_0.Members : Nat) : Int) 0 c_0.Members
 ) (z3j c_0) :=
 cL o0' Tryz.func61
theorem y7l (c_0 : Config) : Le (
 Option.bind (z3j c_0) fun x0 =>
 bif (neB x0 0) then
 some (false, x0)
 else
 Option.bind (z60 c_0) fun x1 =>
 some ((eqB x1.1 0), 0)
 ) (z58 c_0) :=
 cL o9' Tryz.func33
theorem qws (s_0 n_1 : Int) : Le (
 bif (leB 0 s_0) then
 chk (0 ≤ n_1) <|
 some (ltB s_0 (shlI .i64 1 n_1))
 else
 some false
 ) (z2h s_0 n_1) :=
 cL o1' Tryz.func99
theorem y7j (c_0 : Config) : Le (
 Option.bind (z3y c_0) fun x0 =>
 Option.bind (z5j x0) fun x1 =>
 z3f x1 ((List.length x1 : Nat) : Int) 0 c_0.Members
 ) (z60 c_0) :=
 cL o10' Tryz.func69
theorem y0u (c_0 : Config) : Le (
 chk (0 ≤ ((List.length c_0.Members : Nat) : Int)) <|
 some (subI .i64 (shlI .i64 1 ((List.length c_0.Members : Nat) : Int)) 1)
 ) (z3y c_0) :=
 cL o0' Tryz.func94
theorem y4j (s_0 : Int) : Le (
 z2t s_0 ([] : List (Int)) 0
 ) (z5j s_0) :=
 cL o3' Tryz.func66
theorem y0m (a2 a4 : Int) (a6 : List Int) (a8 : Int) (a10 : List Int) (a12 : Int) (a14 a16 : List Member) : Le (
 bif (leB a8 a2) then
 Option.bind (z4p (Config.mk a14) (Config.mk a16) a8) fun x0 =>
 bif (neB x0.2 0) then
 some false
 else
 bif (eqB (andI .i64 a8 a4) a4) then
 Option.bind (mk_In a6 a8) fun x1 =>
 bif (!(x0.1 == x1)) then
 some false
 else
 z1j a2 a4 a6 (addI .i64 a8 1) a10 a12 a14 a16
 else
 Option.bind (mk_In a6 a8) fun x2 =>
 bif (!(false == x2)) then
 some false
 else
 z1j a2 a4 a6 (addI .i64 a8 1) a10 a12 a14 a16
 else
 z1k a2 a6 ((List.length a6 : Nat) : Int) 0 a10 a12 a14 a16
 ) (z1j a2 a4 a6 a8 a10 a12 a14 a16) :=
 gL o1' (q01 Tryz.f6 [1,1,1,1,1,1,1,0,1,0,0])
theorem y49 (low_0 high_1 : Config) (b_2 : Int) : Le (
 Option.bind (z2r low_0 high_1 b_2) fun x0 =>
 bif (neB x0 0) then
 some (false, x0)
 else
 Option.bind (z4q low_0 high_1 b_2) fun x1 =>
 some (x1, 0)
 ) (z4p low_0 high_1 b_2) :=
 cL o9' Tryz.func27
theorem y3k (low_0 high_1 : Config) (b_2 : Int) : Le (
 Option.bind (z3b high_1 b_2) fun x0 =>
 bif (!x0.1) then
 some false
 else
 Option.bind (z2i low_0 b_2) fun x1 =>
 some x1.1
 ) (z4q low_0 high_1 b_2) :=
 cL o1' Tryz.func43
theorem y3q (high_0 : Config) (b_1 : Int) : Le (
 Option.bind (z2z high_0 b_1) fun x0 =>
 bif (neB x0 0) then
 some (false, x0)
 else
 Option.bind (z1h high_0) fun x1 =>
 bif (eqB (q3c .i64 x1 b_1) 0) then
 some (true, 0)
 else
 Option.bind (z2j high_0 (q3c .i64 x1 b_1)) fun x2 =>
 some (x2, 0)
 ) (z3b high_0 b_1) :=
 cL o9' Tryz.func25
theorem y05 (a3 a5 : Int) (a7 : List Int) (a9 : Int) (a11 a13 : List Member) : Le (
 bif (ltB a5 6) then
 Option.bind (z14 64 a7 a9) fun x0 =>
 Option.bind (z4p (Config.mk a11) (Config.mk a13) (andI .i64 x0.1 a3)) fun x1 =>
 bif (eqB (subI .i64 a3 (andI .i64 x0.1 a3)) 0) then
 Option.bind (z4d (Config.mk a11) (andI .i64 x0.1 a3)) fun x2 =>
 Option.bind (z58 x2) fun x3 =>
 bif (neB x1.2 0) then
 some false
 else
 bif (neB x3.2 0) then
 some false
 else
 bif (!(x1.1 == x3.1)) then
 some false
 else
 z17 a3 (addI .i64 a5 1) x0.2.1 x0.2.2 a11 a13
 else
 Option.bind (z1v (Config.mk a13) (subI .i64 a3 (andI .i64 x0.1 a3))) fun x4 =>
 Option.bind (z4d (Config.mk a11) (andI .i64 x0.1 a3)) fun x5 =>
 Option.bind (z58 x5) fun x6 =>
 bif (neB x1.2 0) then
 some false
 else
 bif (neB x6.2 0) then
 some false
 else
 bif x4 then
 bif (!(x1.1 == x6.1)) then
 some false
 else
 z17 a3 (addI .i64 a5 1) x0.2.1 x0.2.2 a11 a13
 else
 bif (!(x1.1 == false)) then
 some false
 else
 z17 a3 (addI .i64 a5 1) x0.2.1 x0.2.2 a11 a13
 else
 Option.bind (law14_awake) fun x7 =>
 some x7
 ) (z17 a3 a5 a7 a9 a11 a13) :=
 gL o1' (q01 Tryz.f7 [1,1,1,1,0,1,0,0])
theorem qzb (a0 : List Int) (a2 : Bool) (a4 : List Int) (a6 a8 : Int) (a10 : List Int) (a12 : Int) (a14 a16 : List Member) : Le (
 bif (ltB a8 a6) then
 nth a4 a8 fun y0 =>
 z1c a0 a2 y0 a4 a6 a8 a0 ((List.length a0 : Nat) : Int) 0 a10 a12 a14 a16
 else
 Option.bind (law14_awake) fun x1 =>
 some x1
 ) (z1b a0 a2 a4 a6 a8 a10 a12 a14 a16) :=
 gL o1' (q01 Tryz.f3 [1,1,1,1,1,1,1,0,1,0,0])
theorem qtz (a4 : List (List Trust)) (a6 : List Member) (a8 a10 : Int) (a12 : List Int) (a14 : Int) (a16 a18 a20 : List Member) : Le (
 bif (ltB a10 a8) then
 nth a6 a10 fun y0 =>
 bif y0.Declared then
 capOk (List.length ([] : List (Trust)) + List.length ([(Trust.mk y0.Trust.Threshold y0.Trust.Nodes y0.Trust.Inner)] : List (Trust))) <|
 Option.bind (z14 3 a12 a14) fun x1 =>
 z5i a4 (([] : List (Trust)) ++ ([(Trust.mk y0.Trust.Threshold y0.Trust.Nodes y0.Trust.Inner)] : List (Trust))) x1.1 a6 a8 a10 x1.2.1 x1.2.2 a16 a18 a20 y0.Declared y0.Trust.Threshold y0.Trust.Nodes y0.Trust.Inner
 else
 capOk (List.length a4 + List.length ([([] : List (Trust))] : List (List (Trust)))) <|
 z34 (a4 ++ ([([] : List (Trust))] : List (List (Trust)))) a6 a8 (addI .i64 a10 1) a12 a14 a16 a18 a20
 else
 Option.bind (z6e a4) fun x2 =>
 Option.bind (z67 a4) fun x3 =>
 bif (neB x2.2 0) then
 some ((Config.mk a20), (Config.mk a20), a12, a14)
 else
 bif (neB x3.2 0) then
 some ((Config.mk a20), (Config.mk a20), a12, a14)
 else
 some ((Config.mk x2.1.Members), (Config.mk x3.1.Members), a12, a14)
 ) (z34 a4 a6 a8 a10 a12 a14 a16 a18 a20) :=
 gL o17' (q01 Tryz.f9 [1,1,1,1,0,1,0,0])
theorem y6k (l_0 : List (List Trust)) : Le (
 Option.bind (z5a l_0 false) fun x0 =>
 some ((Config.mk x0.1.Members), x0.2)
 ) (z6e l_0) :=
 cL o14' Tryz.func37
theorem y51 (l_0 : List (List Trust)) : Le (
 Option.bind (z5a l_0 true) fun x0 =>
 some ((Config.mk x0.1.Members), x0.2)
 ) (z67 l_0) :=
 cL o14' Tryz.func38
theorem y64 (l_0 : List (List Trust)) (all_1 : Bool) : Le (
 bif (ltB 10 ((List.length l_0 : Nat) : Int)) then
 some ((Config.mk ([] : List (Member))), 3)
 else
 z1y all_1 l_0 ((List.length l_0 : Nat) : Int) 0 ([] : List (Member)) ([] : List (Member))
 ) (z5a l_0 all_1) :=
 cL o14' Tryz.func76
theorem y0t (a2 a4 a6 : Int) (a8 : List Int) (a10 : Int) (a12 : List Member) : Le (
 bif (ltB 0 a6) then
 Option.bind (z14 a2 a8 a10) fun x0 =>
 chk (0 ≤ x0.1) <|
 z5g a2 (orI .i64 a4 (shlI .i64 1 x0.1)) (subI .i64 a6 1) x0.2.1 x0.2.2 a12
 else
 chk (0 ≤ a2) <|
 Option.bind (z1u (Config.mk a12)) fun x1 =>
 Option.bind (z14 2 a8 a10) fun x2 =>
 some ((orI .i64 a4 (mulI .i64 (q3c .i64 (subI .i64 (shlI .i64 1 a2) 1) x1) x2.1)), x2.2.1, x2.2.2)
 ) (z5g a2 a4 a6 a8 a10 a12) :=
 gL o13' (q01 Tryz.f10 [1,1,1,0,1,0,0])
theorem y1f (a0 : Int) (a4 a6 : List Int) (a8 a10 : Int) (a12 a14 : List Member) : Le (
 bif (ltB a10 a8) then
 nth a6 a10 fun y0 =>
 bif (eqB (q3c .i64 a0 y0) 0) then
 Option.bind (z4q (Config.mk a12) (Config.mk a14) y0) fun x1 =>
 bif x1 then
 capOk (List.length a4 + List.length ([y0] : List (Int))) <|
 z1w a0 (a4 ++ ([y0] : List (Int))) a6 a8 (addI .i64 a10 1) a12 a14
 else
 z1w a0 a4 a6 a8 (addI .i64 a10 1) a12 a14
 else
 z1w a0 a4 a6 a8 (addI .i64 a10 1) a12 a14
 else
 some (a4, 0)
 ) (z1w a0 a4 a6 a8 a10 a12 a14) :=
 gL o19' (q01 Tryz.f11 [1,1,1,0,1,0,0])
theorem y1k (a0 : Int) (a2 : List Int) (a4 a6 : Int) : Le (
 bif (ltB a6 a4) then
 nth a2 a6 fun y0 =>
 bif (eqB a0 y0) then
 some true
 else
 z63 a0 a2 a4 (addI .i64 a6 1)
 else
 some false
 ) (z63 a0 a2 a4 a6) :=
 gL o1' (q01 Tryz.f13 [1,0,1,0,0])
end Go.Proofs.YtbmelgbadedbbaaGreat
