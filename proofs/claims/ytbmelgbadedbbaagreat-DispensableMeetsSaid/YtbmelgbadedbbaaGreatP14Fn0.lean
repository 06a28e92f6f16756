/- What the functions come to, printed by a program and checked by the kernel. -/
import Derived.Test.YtbmelgbadedbbaaGreatP14Df
namespace Go.Proofs.YtbmelgbadedbbaaGreat
open Go Go.Ab
set_option maxRecDepth 100000
theorem law14_DispensableAll_le (t_0 : List Int) : Le (
 Option.bind (z66 t_0) fun x0 =>
 Option.bind (z5r 5 x0.2.1 x0.2.2) fun x1 =>
 chk (0 ≤ ((List.length x1.1.Members : Nat) : Int)) <|
 Option.bind (z6j x1.1 x1.2.2.1 x1.2.2.2) fun x2 =>
 Option.bind (z31 x1.1 x1.2.1 x2.1) fun x3 =>
 bif (neB x3.2 0) then
 some false
 else
 Option.bind (mk_In x3.1 (subI .i64 (shlI .i64 1 ((List.length x1.1.Members : Nat) : Int)) 1)) fun x4 =>
 bif (!x4) then
 some false
 else
 z1j (subI .i64 (shlI .i64 1 ((List.length x1.1.Members : Nat) : Int)) 1) x2.1 x3.1 0 x2.2.1 x2.2.2 x1.1.Members x1.2.1.Members
 ) (law14_DispensableAll t_0) :=
 cL o1' Tryz.func6
theorem law14_DispensableMeans_le (t_0 : List Int) : Le (
 Option.bind (z66 t_0) fun x0 =>
 Option.bind (z5r 6 x0.2.1 x0.2.2) fun x1 =>
 chk (0 ≤ ((List.length x1.1.Members : Nat) : Int)) <|
 z17 (subI .i64 (shlI .i64 1 ((List.length x1.1.Members : Nat) : Int)) 1) 0 x1.2.2.1 x1.2.2.2 x1.1.Members x1.2.1.Members
 ) (law14_DispensableMeans t_0) :=
 cL o1' Tryz.func7
theorem law14_DispensableMeets_le (t_0 : List Int) : Le (
 Option.bind (z66 t_0) fun x0 =>
 Option.bind (z5r 6 x0.2.1 x0.2.2) fun x1 =>
 Option.bind (z6j x1.1 x1.2.2.1 x1.2.2.2) fun x2 =>
 Option.bind (z31 x1.1 x1.2.1 x2.1) fun x3 =>
 Option.bind (z2i x1.1 x2.1) fun x4 =>
 bif (neB x3.2 0) then
 some false
 else
 bif (neB x4.2 0) then
 some false
 else
 z1b x3.1 x4.1 x3.1 ((List.length x3.1 : Nat) : Int) 0 x2.2.1 x2.2.2 x1.1.Members x1.2.1.Members
 ) (law14_DispensableMeets t_0) :=
 cL o1' Tryz.func3
theorem law14_DispensableRefutes_le (t_0 : List Int) (r_1 : Refutation) : Le (
 Option.bind (z66 t_0) fun x0 =>
 Option.bind (z5r 5 x0.2.1 x0.2.2) fun x1 =>
 chk (0 ≤ ((List.length x1.1.Members : Nat) : Int)) <|
 Option.bind (z14 (shlI .i64 1 ((List.length x1.1.Members : Nat) : Int)) x1.2.2.1 x1.2.2.2) fun x2 =>
 Option.bind (z6f x1.1 x1.2.1 x2.1) fun x3 =>
 Option.bind (z2q x1.1 x1.2.1 x2.1) fun x4 =>
 bif (neB x3.2 0) then
 some false
 else
 bif (!(x3.1 == (eqB x4.2 11))) then
 some false
 else
 bif (!x3.1) then
 bif (neB x4.2 0) then
 some false
 else
 Option.bind (z5x x1.1 x1.2.1 x2.1 x4.1) fun x5 =>
 bif (!x5) then
 some false
 else
 Option.bind (z19 x1.1 x1.2.1 x2.1 x4.1) fun x6 =>
 bif (!x6) then
 some false
 else
 bif x3.1 then
 Option.bind (z19 x1.1 x1.2.1 x2.1 r_1) fun x7 =>
 bif x7 then
 some false
 else
 Option.bind (z14 6 x2.2.1 x2.2.2) fun x8 =>
 Option.bind (z19 x1.1 x1.2.1 x2.1 (Refutation.mk x8.1 0 0)) fun x9 =>
 bif x9 then
 some false
 else
 Option.bind (z14 64 x8.2.1 x8.2.2) fun x10 =>
 Option.bind (z14 64 x10.2.1 x10.2.2) fun x11 =>
 Option.bind (z19 x1.1 x1.2.1 x2.1 (Refutation.mk (-1) x10.1 x11.1)) fun x12 =>
 bif x12 then
 some false
 else
 Option.bind (law14_awake) fun x13 =>
 some x13
 else
 Option.bind (law14_awake) fun x14 =>
 some x14
 else
 bif x3.1 then
 Option.bind (z19 x1.1 x1.2.1 x2.1 r_1) fun x15 =>
 bif x15 then
 some false
 else
 Option.bind (z14 6 x2.2.1 x2.2.2) fun x16 =>
 Option.bind (z19 x1.1 x1.2.1 x2.1 (Refutation.mk x16.1 0 0)) fun x17 =>
 bif x17 then
 some false
 else
 Option.bind (z14 64 x16.2.1 x16.2.2) fun x18 =>
 Option.bind (z14 64 x18.2.1 x18.2.2) fun x19 =>
 Option.bind (z19 x1.1 x1.2.1 x2.1 (Refutation.mk (-1) x18.1 x19.1)) fun x20 =>
 bif x20 then
 some false
 else
 Option.bind (law14_awake) fun x21 =>
 some x21
 else
 Option.bind (law14_awake) fun x22 =>
 some x22
 ) (law14_DispensableRefutes t_0 r_1) :=
 cL o1' Tryz.func4
theorem qzu (l_0 : List Int) : Le (
 hiK (List.length l_0) (if 400 < ((List.length l_0 : Nat) : Int) then 400 else ((List.length l_0 : Nat) : Int)) fun b0 =>
 some ((), (List.drop 0 (List.take b0 l_0)), 0)
 ) (z66 l_0) :=
 cL ⟨[.ptr 0 0],[[.lf (.l .i64), .lf (.i .i64)]]⟩ Tryz.func8
theorem qz6 (n_1 : Int) (h0 : List Int) (h1 : Int) : Le (
 Option.bind (z6d n_1 h0 h1) fun x0 =>
 Option.bind (z14 2 x0.2.1 x0.2.2) fun x1 =>
 bif (eqB x1.1 0) then
 some ((Config.mk x0.1.Members), (Config.mk x0.1.Members), x1.2.1, x1.2.2)
 else
 z34 ([] : List (List (Trust))) x0.1.Members ((List.length x0.1.Members : Nat) : Int) 0 x1.2.1 x1.2.2 ([] : List (Member)) ([] : List (Member)) x0.1.Members
 ) (z5r n_1 h0 h1) :=
 cL o17' Tryz.func9
theorem y4x (c_1 : Config) (h0 : List Int) (h1 : Int) : Le (
 Option.bind (z4b ([0, 1, 1, 2, 3] : List (Int)) h0 h1) fun x0 =>
 z5g ((List.length c_1.Members : Nat) : Int) 0 x0.1 x0.2.1 x0.2.2 c_1.Members
 ) (z6j c_1 h0 h1) :=
 cL o13' Tryz.func10
theorem y6j (low_0 high_1 : Config) (ill_2 : Int) : Le (
 Option.bind (z2r low_0 high_1 ill_2) fun x0 =>
 bif (neB x0 0) then
 some (([] : List (Int)), x0)
 else
 Option.bind (z1h low_0) fun x1 =>
 Option.bind (z53 x1) fun x2 =>
 z1w ill_2 ([] : List (Int)) x2 ((List.length x2 : Nat) : Int) 0 low_0.Members high_1.Members
 ) (z31 low_0 high_1 ill_2) :=
 cL o19' Tryz.func11
theorem qxc (l_0 : List Int) (x_1 : Int) : Le (
 z63 x_1 l_0 ((List.length l_0 : Nat) : Int) 0
 ) (mk_In l_0 x_1) :=
 cL o1' Tryz.func13
theorem law14_awake_le  : Le (
 Option.bind (law14_four) fun x0 =>
 Option.bind (law14_four) fun x1 =>
 Option.bind (z31 x0 x1 0) fun x2 =>
 Option.bind (law14_four) fun x3 =>
 Option.bind (law14_four) fun x4 =>
 Option.bind (z2q x3 x4 3) fun x5 =>
 bif (eqB x2.2 0) then
 Option.bind (z6a x2.1 ([0, 1, 2, 4, 8, 15] : List (Int))) fun x6 =>
 bif x6 then
 bif (eqB x5.2 0) then
 bif (eqB x5.1.Node 2) then
 Option.bind (law14_four) fun x7 =>
 Option.bind (law14_four) fun x8 =>
 Option.bind (z19 x7 x8 3 x5.1) fun x9 =>
 some x9
 else
 some false
 else
 some false
 else
 some false
 else
 some false
 ) (law14_awake) :=
 cL o1' Tryz.func14
theorem y7h (low_0 : Config) (b_1 : Int) : Le (
 Option.bind (z2z low_0 b_1) fun x0 =>
 bif (neB x0 0) then
 some (false, x0)
 else
 Option.bind (z3l low_0 b_1) fun x1 =>
 Option.bind (z4c x1) fun x2 =>
 some (x2.1, x2.2)
 ) (z2i low_0 b_1) :=
 cL o9' Tryz.func12
theorem qwr (n_1 : Int) (h0 : List Int) (h1 : Int) : Le (
 bif (leB ((List.length h0 : Nat) : Int) h1) then
 some (0, h0, h1)
 else
 nth h0 h1 fun y0 =>
 chk (n_1 ≠ 0) <|
 bif (ltB (remI .i64 y0 n_1) 0) then
 some ((addI .i64 (remI .i64 y0 n_1) n_1), h0, (addI .i64 h1 1))
 else
 some ((remI .i64 y0 n_1), h0, (addI .i64 h1 1))
 ) (z14 n_1 h0 h1) :=
 cL o13' Tryz.func15
theorem y6p (low_0 high_1 : Config) (b_2 : Int) : Le (
 Option.bind (z5l low_0 high_1 b_2) fun x0 =>
 bif (neB x0 0) then
 some (false, x0)
 else
 Option.bind (z6g low_0 high_1 b_2) fun x1 =>
 some (x1, 0)
 ) (z6f low_0 high_1 b_2) :=
 cL o9' Tryz.func16
theorem y4f (low_0 high_1 : Config) (b_2 : Int) : Le (
 Option.bind (z2r low_0 high_1 b_2) fun x0 =>
 bif (neB x0 0) then
 some ((Refutation.mk 0 0 0), x0)
 else
 Option.bind (z1h high_1) fun x1 =>
 Option.bind (z51 (q3c .i64 x1 b_2)) fun x2 =>
 z26 b_2 x2 ((List.length x2 : Nat) : Int) 0 low_0.Members high_1.Members 0 0 0
 ) (z2q low_0 high_1 b_2) :=
 cL o20' Tryz.func17
theorem y76 (low_0 high_1 : Config) (b_2 : Int) (x_3 : Refutation) : Le (
 Option.bind (z5l low_0 high_1 b_2) fun x0 =>
 bif (neB x0 0) then
 some false
 else
 bif (neB x_3.Node (-1)) then
 Option.bind (z5y high_1 b_2 x_3.Node) fun x1 =>
 bif x1 then
 bif (eqB x_3.A 0) then
 some (eqB x_3.B 0)
 else
 some false
 else
 some false
 else
 Option.bind (z4d low_0 b_2) fun x2 =>
 Option.bind (z1v x2 x_3.A) fun x3 =>
 bif x3 then
 Option.bind (z1v x2 x_3.B) fun x4 =>
 bif x4 then
 some (eqB (andI .i64 x_3.A x_3.B) 0)
 else
 some false
 else
 some false
 ) (z5x low_0 high_1 b_2 x_3) :=
 cL o1' Tryz.func18
theorem y6t (low_0 high_1 : Config) (b_2 : Int) (x_3 : Refutation) : Le (
 Option.bind (z2r low_0 high_1 b_2) fun x0 =>
 bif (neB x0 0) then
 some false
 else
 bif (leB 0 x_3.Node) then
 bif (eqB x_3.A 0) then
 bif (eqB x_3.B 0) then
 Option.bind (z1h high_1) fun x1 =>
 Option.bind (z3i (q3c .i64 x1 b_2) x_3.Node) fun x2 =>
 bif x2 then
 Option.bind (z3u high_1 x_3.Node b_2) fun x3 =>
 some x3
 else
 some false
 else
 some false
 else
 some false
 else
 Option.bind (z3l low_0 b_2) fun x4 =>
 bif (eqB x_3.Node (-1)) then
 Option.bind (z2j x4 x_3.A) fun x5 =>
 bif x5 then
 Option.bind (z2j x4 x_3.B) fun x6 =>
 bif x6 then
 some (eqB (andI .i64 x_3.A x_3.B) 0)
 else
 some false
 else
 some false
 else
 some false
 ) (z19 low_0 high_1 b_2 x_3) :=
 cL o1' Tryz.func19
theorem y6d (n_1 : Int) (h0 : List Int) (h1 : Int) : Le (
 Option.bind (z1i 1 n_1 h0 h1) fun x0 =>
 Option.bind (z14 3 x0.2.1 x0.2.2) fun x1 =>
 z1f x0.1 x1.1 0 x1.2.1 x1.2.2 ([] : List (Member)) ([] : List (Member))
 ) (z6d n_1 h0 h1) :=
 cL o21' Tryz.func35
theorem y3n (l_1 h0 : List Int) (h1 : Int) : Le (
 Option.bind (z14 ((List.length l_1 : Nat) : Int) h0 h1) fun x0 =>
 nth l_1 x0.1 fun y1 =>
 some (y1, x0.2.1, x0.2.2)
 ) (z4b l_1 h0 h1) :=
 cL o13' Tryz.func39
theorem y50 (low_0 high_1 : Config) (b_2 : Int) : Le (
 Option.bind (z4i low_0 high_1) fun x0 =>
 bif (neB x0 0) then
 some x0
 else
 Option.bind (z2z low_0 b_2) fun x1 =>
 some x1
 ) (z2r low_0 high_1 b_2) :=
 cL o0' Tryz.func40
theorem y6m (c_0 : Config) : Le (
 chk (0 ≤ ((List.length c_0.Members : Nat) : Int)) <|
 some (subI .i64 (shlI .i64 1 ((List.length c_0.Members : Nat) : Int)) 1)
 ) (z1h c_0) :=
 cL o0' Tryz.func42
theorem y3c (s_0 : Int) : Le (
 z2a s_0 ([] : List (Int)) 0
 ) (z53 s_0) :=
 cL o3' Tryz.func41
theorem law14_four_le  : Le (
 z35 0 ([] : List (Member)) ([] : List (Member))
 ) (law14_four) :=
 cL o5' Tryz.func47
theorem y0h (a_0 b_1 : List Int) : Le (
 bif (neB ((List.length a_0 : Nat) : Int) ((List.length b_1 : Nat) : Int)) then
 some false
 else
 z55 a_0 b_1 ((List.length a_0 : Nat) : Int) 0
 ) (z6a a_0 b_1) :=
 cL o1' Tryz.func30
theorem y61 (c_0 : Config) (b_1 : Int) : Le (
 Option.bind (z1s c_0) fun x0 =>
 bif (neB x0 0) then
 some x0
 else
 bif (ltB b_1 0) then
 some 1
 else
 Option.bind (z1h c_0) fun x1 =>
 bif (ltB x1 b_1) then
 some 1
 else
 some 0
 ) (z2z c_0 b_1) :=
 cL o0' Tryz.func44
theorem y5s (c_0 : Config) (s_1 : Int) : Le (
 z1m s_1 c_0.Members ((List.length c_0.Members : Nat) : Int) 0 c_0.Members ([] : List (Member)) ([] : List (Member))
 ) (z3l c_0 s_1) :=
 cL o5' Tryz.func46
theorem y4t (c_0 : Config) : Le (
 Option.bind (z1s c_0) fun x0 =>
 bif (neB x0 0) then
 some (false, x0)
 else
 Option.bind (z3v c_0) fun x1 =>
 some ((eqB x1.1 0), 0)
 ) (z4c c_0) :=
 cL o9' Tryz.func45
theorem y70 (low_0 high_1 : Config) (b_2 : Int) : Le (
 Option.bind (z5z low_0 high_1) fun x0 =>
 bif (neB x0 0) then
 some x0
 else
 Option.bind (z5o low_0 b_2) fun x1 =>
 some x1
 ) (z5l low_0 high_1 b_2) :=
 cL o0' Tryz.func48
theorem y4h (low_0 high_1 : Config) (b_2 : Int) : Le (
 Option.bind (z54 high_1 b_2) fun x0 =>
 bif (!x0.1) then
 some false
 else
 Option.bind (z4w low_0 b_2) fun x1 =>
 some x1.1
 ) (z6g low_0 high_1 b_2) :=
 cL o1' Tryz.func49
theorem y3r (s_0 : Int) : Le (
 z2s s_0 ([] : List (Int)) 0
 ) (z51 s_0) :=
 cL o3' Tryz.func50
theorem y3u (high_0 : Config) (b_1 k_2 : Int) : Le (
 bif (ltB k_2 0) then
 some false
 else
 bif (leB ((List.length high_0.Members : Nat) : Int) k_2) then
 some false
 else
 Option.bind (z4n b_1 k_2) fun x0 =>
 bif x0 then
 some false
 else
 nth high_0.Members k_2 fun y1 =>
 bif (!y1.Declared) then
 some true
 else
 nth high_0.Members k_2 fun y2 =>
 Option.bind (z3x high_0) fun x3 =>
 Option.bind (z27 y2.Trust (subI .i64 x3 b_1)) fun x4 =>
 some (!x4)
 ) (z5y high_0 b_1 k_2) :=
 cL o1' Tryz.func53
theorem y59 (c_0 : Config) (s_1 : Int) : Le (
 Option.bind (z22 s_1) fun x0 =>
 bif (!x0) then
 some (Config.mk c_0.Members)
 else
 z28 s_1 c_0.Members ((List.length c_0.Members : Nat) : Int) 0 c_0.Members ([] : List (Member)) ([] : List (Member))
 ) (z4d c_0 s_1) :=
 cL o5' Tryz.func34
theorem qqx (c_0 : Config) (s_1 : Int) : Le (
 Option.bind (z22 s_1) fun x0 =>
 bif (!x0) then
 some false
 else
 bif (eqB s_1 0) then
 some false
 else
 Option.bind (z1u c_0) fun x1 =>
 bif (neB (andI .i64 s_1 x1) s_1) then
 some false
 else
 Option.bind (z57 s_1) fun x2 =>
 z2o s_1 x2 ((List.length x2 : Nat) : Int) 0 c_0.Members
 ) (z1v c_0 s_1) :=
 cL o1' Tryz.func32
theorem y7p (s_0 node_1 : Int) : Le (
 Option.bind (z1q s_0) fun x0 =>
 bif x0 then
 bif (leB 0 node_1) then
 bif (ltB node_1 10) then
 chk (0 ≤ node_1) <|
 some (neB (andI .i64 s_0 (shlI .i64 1 node_1)) 0)
 else
 some false
 else
 some false
 else
 some false
 ) (z3i s_0 node_1) :=
 cL o1' Tryz.func54
theorem y4l (high_0 : Config) (v_1 b_2 : Int) : Le (
 nth high_0.Members v_1 fun y0 =>
 bif (!y0.Declared) then
 some true
 else
 Option.bind (z1h high_0) fun x1 =>
 Option.bind (z1t y0.Trust (q3c .i64 x1 b_2)) fun x2 =>
 some (!x2)
 ) (z3u high_0 v_1 b_2) :=
 cL o1' Tryz.func51
theorem qyq (c_0 : Config) (s_1 : Int) : Le (
 Option.bind (z1q s_1) fun x0 =>
 bif (!x0) then
 some false
 else
 bif (eqB s_1 0) then
 some false
 else
 Option.bind (z59 c_0 s_1) fun x1 =>
 bif (!x1) then
 some false
 else
 Option.bind (z32 c_0 s_1) fun x2 =>
 some (!x2.2)
 ) (z2j c_0 s_1) :=
 cL o1' Tryz.func55
theorem y3h (a_1 b_2 : Int) (h0 : List Int) (h1 : Int) : Le (
 Option.bind (z14 (addI .i64 (subI .i64 b_2 a_1) 1) h0 h1) fun x0 =>
 some ((addI .i64 a_1 x0.1), x0.2.1, x0.2.2)
 ) (z1i a_1 b_2 h0 h1) :=
 cL o13' Tryz.func72
end Go.Proofs.YtbmelgbadedbbaaGreat
