/- What the functions come to, printed by a program and checked by the kernel. -/
import Derived.Test.YtbmelgbadedbbaaGreatP14Df
namespace Go.Proofs.YtbmelgbadedbbaaGreat
open Go Go.Ab
set_option maxRecDepth 100000
theorem y6z (low_0 high_1 : Config) : Le (
 Option.bind (z1q low_0) fun x0 =>
 bif (neB x0 0) then
 some x0
 else
 Option.bind (z1q high_1) fun x1 =>
 bif (neB x1 0) then
 some x1
 else
 bif (neB ((List.length low_0.Members : Nat) : Int) ((List.length high_1.Members : Nat) : Int)) then
 some 1
 else
 Option.bind (z1j low_0) fun x2 =>
 Option.bind (z1j high_1) fun x3 =>
 bif (neB x2 x3) then
 some 1
 else
 bif (ltB 7 ((List.length low_0.Members : Nat) : Int)) then
 some 3
 else
 z1t high_1.Members ((List.length high_1.Members : Nat) : Int) 0 low_0.Members high_1.Members
 ) (z44 low_0 high_1) :=
 cL o0' Tryz.func22
theorem y6b (c_0 : Config) : Le (
 bif (ltB 10 ((List.length c_0.Members : Nat) : Int)) then
 some 3
 else
 z1z c_0.Members ((List.length c_0.Members : Nat) : Int) 0 c_0.Members
 ) (z1q c_0) :=
 cL o0' Tryz.func58
theorem y84 (c_0 : Config) : Le (
 z1d ((List.length c_0.Members : Nat) : Int) 0 true c_0.Members
 ) (z45 c_0) :=
 cL o10' Tryz.func80
theorem y3z (low_0 high_1 : Config) : Le (
 Option.bind (z35 low_0) fun x0 =>
 bif (neB x0 0) then
 some x0
 else
 Option.bind (z35 high_1) fun x1 =>
 bif (neB x1 0) then
 some x1
 else
 bif (neB ((List.length low_0.Members : Nat) : Int) ((List.length high_1.Members : Nat) : Int)) then
 some 1
 else
 Option.bind (z2h low_0) fun x2 =>
 Option.bind (z2h high_1) fun x3 =>
 bif (neB x2 x3) then
 some 1
 else
 bif (ltB 7 ((List.length low_0.Members : Nat) : Int)) then
 some 3
 else
 z2z ((List.length low_0.Members : Nat) : Int) 0 low_0.Members high_1.Members
 ) (z5x low_0 high_1) :=
 cL o0' Tryz.func23
theorem y5d (c_0 : Config) (b_1 : Int) : Le (
 bif (ltB b_1 0) then
 some 1
 else
 Option.bind (z37 c_0) fun x0 =>
 bif (ltB x0 b_1) then
 some 1
 else
 some 0
 ) (z61 c_0 b_1) :=
 cL o0' Tryz.func64
theorem y6e (high_0 : Config) (b_1 : Int) : Le (
 Option.bind (z35 high_0) fun x0 =>
 bif (neB x0 0) then
 some (false, x0)
 else
 Option.bind (z61 high_0 b_1) fun x1 =>
 bif (neB x1 0) then
 some (false, x1)
 else
 Option.bind (z37 high_0) fun x2 =>
 bif (eqB (subI .i64 x2 b_1) 0) then
 some (true, 0)
 else
 Option.bind (z22 high_0 (subI .i64 x2 b_1)) fun x3 =>
 some (x3, 0)
 ) (z4o high_0 b_1) :=
 cL o9' Tryz.func26
theorem y75 (low_0 : Config) (b_1 : Int) : Le (
 Option.bind (z35 low_0) fun x0 =>
 bif (neB x0 0) then
 some (false, x0)
 else
 Option.bind (z61 low_0 b_1) fun x1 =>
 bif (neB x1 0) then
 some (false, x1)
 else
 Option.bind (z57 low_0 b_1) fun x2 =>
 Option.bind (z6c x2) fun x3 =>
 some (x3.1, 0)
 ) (z4e low_0 b_1) :=
 cL o9' Tryz.func24
theorem y6o (s_0 node_1 : Int) : Le (
 Option.bind (z1y s_0) fun x0 =>
 bif x0 then
 bif (leB 0 node_1) then
 bif (ltB node_1 10) then
 chk (0 ≤ node_1) <|
 some (eqB (andI .i64 (shrI .i64 s_0 node_1) 1) 1)
 else
 some false
 else
 some false
 else
 some false
 ) (z4z s_0 node_1) :=
 cL o1' Tryz.func70
theorem y5w (c_0 : Config) : Le (
 chk (0 ≤ ((List.length c_0.Members : Nat) : Int)) <|
 some (subI .i64 (shlI .i64 1 ((List.length c_0.Members : Nat) : Int)) 1)
 ) (z37 c_0) :=
 cL o0' Tryz.func62
theorem y3x (t_0 : Trust) (s_1 : Int) : Le (
 Option.bind (z1y s_1) fun x0 =>
 bif (!x0) then
 some false
 else
 z28 s_1 0 t_0.Nodes ((List.length t_0.Nodes : Nat) : Int) 0 t_0.Threshold t_0.Nodes t_0.Inner
 ) (z24 t_0 s_1) :=
 cL o1' Tryz.func63
theorem y0u (s_0 : Int) : Le (
 bif (leB 0 s_0) then
 some (leB s_0 1023)
 else
 some false
 ) (z1y s_0) :=
 cL o1' Tryz.func67
theorem y6s (c_0 : Config) : Le (
 z20 0 c_0.Members ((List.length c_0.Members : Nat) : Int) 0 c_0.Members
 ) (z2h c_0) :=
 cL o0' Tryz.func31
theorem y5j (s_0 : Int) : Le (
 z3i s_0 ([] : List (Int)) 0
 ) (z5i s_0) :=
 cL o3' Tryz.func68
theorem y1d (s_0 : Int) : Le (
 Option.bind (z2e s_0 10) fun x0 =>
 some x0
 ) (z1o s_0) :=
 cL o1' Tryz.func77
theorem y4y (t_0 : Trust) (s_1 : Int) : Le (
 Option.bind (z1o s_1) fun x0 =>
 bif (!x0) then
 some false
 else
 z1l s_1 0 t_0.Nodes ((List.length t_0.Nodes : Nat) : Int) 0 t_0.Threshold t_0.Nodes t_0.Inner
 ) (z1r t_0 s_1) :=
 cL o1' Tryz.func83
theorem y5f (c_0 : Config) (s_1 : Int) : Le (
 Option.bind (z1j c_0) fun x0 =>
 some (eqB (q40 .i64 s_1 x0) 0)
 ) (z5j c_0 s_1) :=
 cL o1' Tryz.func84
theorem qzm (c_0 : Config) (s_1 : Int) : Le (
 Option.bind (z5c s_1) fun x0 =>
 z1g s_1 x0 ((List.length x0 : Nat) : Int) 0 c_0.Members
 ) (z33 c_0 s_1) :=
 cL o18' Tryz.func85
theorem y5i (c_0 : Config) : Le (
 z18 0 c_0.Members ((List.length c_0.Members : Nat) : Int) 0 c_0.Members
 ) (z1j c_0) :=
 cL o0' Tryz.func59
theorem y6h (c_0 : Config) : Le (
 bif (ltB 10 ((List.length c_0.Members : Nat) : Int)) then
 some 3
 else
 z3j c_0.Members ((List.length c_0.Members : Nat) : Int) 0 c_0.Members
 ) (z35 c_0) :=
 cL o0' Tryz.func61
theorem y4j (c_0 : Config) : Le (
 Option.bind (z35 c_0) fun x0 =>
 bif (neB x0 0) then
 some (false, x0)
 else
 Option.bind (z5y c_0) fun x1 =>
 some ((eqB x1.1 0), 0)
 ) (z6c c_0) :=
 cL o9' Tryz.func33
theorem qv8 (s_0 n_1 : Int) : Le (
 bif (leB 0 s_0) then
 chk (0 ≤ n_1) <|
 some (ltB s_0 (shlI .i64 1 n_1))
 else
 some false
 ) (z2e s_0 n_1) :=
 cL o1' Tryz.func99
theorem y4t (c_0 : Config) : Le (
 Option.bind (z47 c_0) fun x0 =>
 Option.bind (z5d x0) fun x1 =>
 z3k x1 ((List.length x1 : Nat) : Int) 0 c_0.Members
 ) (z5y c_0) :=
 cL o10' Tryz.func69
theorem qz7 (c_0 : Config) : Le (
 chk (0 ≤ ((List.length c_0.Members : Nat) : Int)) <|
 some (subI .i64 (shlI .i64 1 ((List.length c_0.Members : Nat) : Int)) 1)
 ) (z47 c_0) :=
 cL o0' Tryz.func94
theorem y6v (s_0 : Int) : Le (
 z2u s_0 ([] : List (Int)) 0
 ) (z5d s_0) :=
 cL o3' Tryz.func66
theorem y7u (low_0 high_1 : Config) (b_2 : Int) : Le (
 Option.bind (z2s low_0 high_1 b_2) fun x0 =>
 bif (neB x0 0) then
 some (false, x0)
 else
 Option.bind (z51 low_0 high_1 b_2) fun x1 =>
 some (x1, 0)
 ) (z5k low_0 high_1 b_2) :=
 cL o9' Tryz.func27
theorem y5n (low_0 high_1 : Config) (b_2 : Int) : Le (
 Option.bind (z2q high_1 b_2) fun x0 =>
 bif (!x0.1) then
 some false
 else
 Option.bind (z2f low_0 b_2) fun x1 =>
 some x1.1
 ) (z51 low_0 high_1 b_2) :=
 cL o1' Tryz.func43
theorem y6n (high_0 : Config) (b_1 : Int) : Le (
 Option.bind (z31 high_0 b_1) fun x0 =>
 bif (neB x0 0) then
 some (false, x0)
 else
 Option.bind (z1i high_0) fun x1 =>
 bif (eqB (q40 .i64 x1 b_1) 0) then
 some (true, 0)
 else
 Option.bind (z2g high_0 (q40 .i64 x1 b_1)) fun x2 =>
 some (x2, 0)
 ) (z2q high_0 b_1) :=
 cL o9' Tryz.func25
theorem y1o (a0 : Int) (a5 : List Arr2_Config) (a7 a9 : Int) (a11 a13 : List Member) (a15 a17 a19 : Int) (a21 : List Int) (a23 : Int) (a25 a27 : List Member) : Le (
 bif (ltB a9 a7) then
 nth a5 a9 fun y0 =>
 Option.bind (z44 y0.e0 y0.e1) fun x1 =>
 Option.bind (z5x y0.e0 y0.e1) fun x2 =>
 bif (neB x1 x2) then
 some false
 else
 bif (ltB 6 ((List.length y0.e0.Members : Nat) : Int)) then
 z14 a0 a5 a7 (addI .i64 a9 1) a11 a13 a15 a17 a19 a21 a23 a25 a27
 else
 Option.bind (z6v (Config.mk a25) a21 a23) fun x3 =>
 Option.bind (z11 32 x3.2.1 x3.2.2) fun x4 =>
 z1a a0 a5 a7 a9 ([a0, x3.1, x4.1] : List (Int)) ((List.length ([a0, x3.1, x4.1] : List (Int)) : Nat) : Int) 0 a11 a13 a15 a17 a19 x4.2.1 x4.2.2 a25 a27 y0.e0.Members y0.e1.Members
 else
 Option.bind (law14_awake) fun x5 =>
 some x5
 ) (z14 a0 a5 a7 a9 a11 a13 a15 a17 a19 a21 a23 a25 a27) :=
 gL o1' (q01 Tryz.f5 [1,1,1,1,0,1,0,0])
theorem qw3 (a4 : List (List Trust)) (a6 : List Member) (a8 a10 : Int) (a12 : List Int) (a14 : Int) (a16 a18 a20 : List Member) : Le (
 bif (ltB a10 a8) then
 nth a6 a10 fun y0 =>
 bif y0.Declared then
 capOk (List.length ([] : List (Trust)) + List.length ([(Trust.mk y0.Trust.Threshold y0.Trust.Nodes y0.Trust.Inner)] : List (Trust))) <|
 Option.bind (z11 3 a12 a14) fun x1 =>
 z5u a4 (([] : List (Trust)) ++ ([(Trust.mk y0.Trust.Threshold y0.Trust.Nodes y0.Trust.Inner)] : List (Trust))) x1.1 a6 a8 a10 x1.2.1 x1.2.2 a16 a18 a20 y0.Declared y0.Trust.Threshold y0.Trust.Nodes y0.Trust.Inner
 else
 capOk (List.length a4 + List.length ([([] : List (Trust))] : List (List (Trust)))) <|
 z38 (a4 ++ ([([] : List (Trust))] : List (List (Trust)))) a6 a8 (addI .i64 a10 1) a12 a14 a16 a18 a20
 else
 Option.bind (z6p a4) fun x2 =>
 Option.bind (z6i a4) fun x3 =>
 bif (neB x2.2 0) then
 some ((Config.mk a20), (Config.mk a20), a12, a14)
 else
 bif (neB x3.2 0) then
 some ((Config.mk a20), (Config.mk a20), a12, a14)
 else
 some ((Config.mk x2.1.Members), (Config.mk x3.1.Members), a12, a14)
 ) (z38 a4 a6 a8 a10 a12 a14 a16 a18 a20) :=
 gL o20' (q01 Tryz.f9 [1,1,1,1,0,1,0,0])
theorem y3q (l_0 : List (List Trust)) : Le (
 Option.bind (z5l l_0 false) fun x0 =>
 some ((Config.mk x0.1.Members), x0.2)
 ) (z6p l_0) :=
 cL o15' Tryz.func37
theorem y4k (l_0 : List (List Trust)) : Le (
 Option.bind (z5l l_0 true) fun x0 =>
 some ((Config.mk x0.1.Members), x0.2)
 ) (z6i l_0) :=
 cL o15' Tryz.func38
theorem y4p (l_0 : List (List Trust)) (all_1 : Bool) : Le (
 bif (ltB 10 ((List.length l_0 : Nat) : Int)) then
 some ((Config.mk ([] : List (Member))), 3)
 else
 z1u all_1 l_0 ((List.length l_0 : Nat) : Int) 0 ([] : List (Member)) ([] : List (Member))
 ) (z5l l_0 all_1) :=
 cL o15' Tryz.func76
theorem y1e (a2 a4 a6 : Int) (a8 : List Int) (a10 : Int) (a12 : List Member) : Le (
 bif (ltB 0 a6) then
 Option.bind (z11 a2 a8 a10) fun x0 =>
 chk (0 ≤ x0.1) <|
 z5s a2 (orI .i64 a4 (shlI .i64 1 x0.1)) (subI .i64 a6 1) x0.2.1 x0.2.2 a12
 else
 chk (0 ≤ a2) <|
 Option.bind (z2h (Config.mk a12)) fun x1 =>
 Option.bind (z11 2 a8 a10) fun x2 =>
 some ((orI .i64 a4 (mulI .i64 (q40 .i64 (subI .i64 (shlI .i64 1 a2) 1) x1) x2.1)), x2.2.1, x2.2.2)
 ) (z5s a2 a4 a6 a8 a10 a12) :=
 gL o13' (q01 Tryz.f10 [1,1,1,0,1,0,0])
theorem qzi (a0 : Int) (a4 a6 : List Int) (a8 a10 : Int) (a12 a14 : List Member) : Le (
 bif (ltB a10 a8) then
 nth a6 a10 fun y0 =>
 bif (eqB (q40 .i64 a0 y0) 0) then
 Option.bind (z51 (Config.mk a12) (Config.mk a14) y0) fun x1 =>
 bif x1 then
 capOk (List.length a4 + List.length ([y0] : List (Int))) <|
 z1s a0 (a4 ++ ([y0] : List (Int))) a6 a8 (addI .i64 a10 1) a12 a14
 else
 z1s a0 a4 a6 a8 (addI .i64 a10 1) a12 a14
 else
 z1s a0 a4 a6 a8 (addI .i64 a10 1) a12 a14
 else
 some (a4, 0)
 ) (z1s a0 a4 a6 a8 a10 a12 a14) :=
 gL o16' (q01 Tryz.f11 [1,1,1,0,1,0,0])
theorem qu7 (a1 a3 : Int) (a5 : List Member) : Le (
 bif (ltB a3 ((List.length a5 : Nat) : Int)) then
 bif (leB a1 400) then
 nth a5 a3 fun y0 =>
 Option.bind (z65 y0.Trust a1) fun x1 =>
 z2j x1 (addI .i64 a3 1) a5
 else
 some (leB a1 400)
 else
 some (leB a1 400)
 ) (z2j a1 a3 a5) :=
 gL o1' (q01 Tryz.f20 [1,1,1,0,1,0,0])
theorem y7m (x_0 : Trust) (n_1 : Int) : Le (
 z48 (addI .i64 n_1 (addI .i64 1 ((List.length x_0.Nodes : Nat) : Int))) 0 x_0.Threshold x_0.Nodes x_0.Inner
 ) (z65 x_0 n_1) :=
 cL o0' Tryz.func56
end Go.Proofs.YtbmelgbadedbbaaGreat
