/- What the functions come to, printed by a program and checked by the kernel. -/
import Derived.Test.YtbmelgbadedbbaaGreatP14Df
namespace Go.Proofs.YtbmelgbadedbbaaGreat
open Go Go.Ab
set_option maxRecDepth 100000
theorem y7a (nodes_0 : List Int) : Le (
 z36 0 nodes_0 ((List.length nodes_0 : Nat) : Int) 0
 ) (z69 nodes_0) :=
 cL o10' Tryz.func150
theorem y3b (s_0 : List Int) : Le (
 z0e s_0 ((List.length s_0 : Nat) : Int) 0
 ) (z1a s_0) :=
 cL o0' Tryz.func154
theorem y1b (a1 : List Member) (a3 a5 : Int) (a7 : List Member) : Le (
 bif (ltB a5 a3) then
 nth a1 a5 fun y0 =>
 Option.bind (z3o y0 ((List.length a7 : Nat) : Int)) fun x1 =>
 bif (neB x1 0) then
 some x1
 else
 z23 a1 a3 (addI .i64 a5 1) a7
 else
 some 0
 ) (z23 a1 a3 a5 a7) :=
 gL o0' (q01 Tryz.f58 [1,1,0,1,0,0])
theorem y3a (m_0 : Member) (members_1 : Int) : Le (
 bif (!m_0.Declared) then
 Option.bind (z42 m_0.Trust) fun x0 =>
 bif (!x0) then
 some 1
 else
 some 0
 else
 Option.bind (z3n m_0.Trust) fun x1 =>
 bif (neB x1 0) then
 some x1
 else
 chk (0 ≤ members_1) <|
 Option.bind (z4t m_0.Trust) fun x2 =>
 bif (leB (shlI .i64 1 members_1) x2) then
 some 5
 else
 some 0
 ) (z3o m_0 members_1) :=
 cL o0' Tryz.func86
theorem y4y (t_0 : Trust) : Le (
 bif (eqB t_0.Threshold 0) then
 bif (eqB ((List.length t_0.Nodes : Nat) : Int) 0) then
 some (eqB ((List.length t_0.Inner : Nat) : Int) 0)
 else
 some false
 else
 some false
 ) (z42 t_0) :=
 cL o1' Tryz.func110
theorem y6h (t_0 : Trust) : Le (
 z2m 0 t_0.Nodes ((List.length t_0.Nodes : Nat) : Int) 0 t_0.Threshold t_0.Nodes t_0.Inner
 ) (z4t t_0) :=
 cL o0' Tryz.func112
theorem qw0 (a1 a3 : Int) (a5 : Bool) (a7 : List Member) : Le (
 bif a5 then
 Option.bind (z2j (Config.mk a7) a3) fun x0 =>
 bif (!x0) then
 Option.bind (z4x a3 a1) fun x1 =>
 z1d a1 x1.1 x1.2 a7
 else
 Option.bind (z2c (Config.mk a7)) fun x2 =>
 Option.bind (z4y (Config.mk a7) (q3c .i64 x2 a3)) fun x3 =>
 bif (neB x3 0) then
 some (a3, x3)
 else
 Option.bind (z4x a3 a1) fun x4 =>
 z1d a1 x4.1 x4.2 a7
 else
 some (0, 0)
 ) (z1d a1 a3 a5 a7) :=
 gL o10' (q01 Tryz.f80 [1,1,0,1,0,0])
theorem y41 (s_0 n_1 : Int) : Le (
 bif (ltB n_1 0) then
 some (0, false)
 else
 bif (ltB 10 n_1) then
 some (0, false)
 else
 Option.bind (z2h s_0 n_1) fun x0 =>
 bif (!x0) then
 some (0, false)
 else
 Option.bind (z4z s_0) fun x1 =>
 z2p n_1 x1 (addI .i64 s_0 1)
 ) (z4x s_0 n_1) :=
 cL o15' Tryz.func105
theorem qzo (c_0 : Config) : Le (
 chk (0 ≤ ((List.length c_0.Members : Nat) : Int)) <|
 some (subI .i64 (shlI .i64 1 ((List.length c_0.Members : Nat) : Int)) 1)
 ) (z2c c_0) :=
 cL o0' Tryz.func107
theorem y6i (c_0 : Config) (s_1 : Int) : Le (
 Option.bind (z4j c_0 s_1) fun x0 =>
 some x0.1
 ) (z4y c_0 s_1) :=
 cL o0' Tryz.func106
theorem y5n (s_0 : Int) : Le (
 Option.bind (z1q s_0) fun x0 =>
 bif (!x0) then
 some 0
 else
 Option.bind (z5d (IntKind.wrap .u64 s_0)) fun x1 =>
 some x1
 ) (z4z s_0) :=
 cL o0' Tryz.func133
theorem y4d (c_0 : Config) (s_1 : Int) : Le (
 Option.bind (z1q s_1) fun x0 =>
 bif (!x0) then
 some (0, ([] : List (Int)))
 else
 Option.bind (z1l c_0) fun x1 =>
 z2d (andI .i64 s_1 x1) ([] : List (Int)) c_0.Members
 ) (z4j c_0 s_1) :=
 cL o22' Tryz.func134
theorem y5l (x_0 : Int) : Le (
 Option.bind (z50 x_0) fun x0 =>
 some x0
 ) (z5d x_0) :=
 cL o0' Tryz.func147
theorem y09 (x_0 : Int) : Le (
 some (andI .i64 (IntKind.wrap .i64 (addI .u64 (addI .u64 (addI .u64 (andI .u64 (addI .u64 (shrI .u64 (addI .u64 (andI .u64 (shrI .u64 (addI .u64 (andI .u64 (shrI .u64 x_0 1) 6148914691236517205) (andI .u64 x_0 6148914691236517205)) 2) 3689348814741910323) (andI .u64 (addI .u64 (andI .u64 (shrI .u64 x_0 1) 6148914691236517205) (andI .u64 x_0 6148914691236517205)) 3689348814741910323)) 4) (addI .u64 (andI .u64 (shrI .u64 (addI .u64 (andI .u64 (shrI .u64 x_0 1) 6148914691236517205) (andI .u64 x_0 6148914691236517205)) 2) 3689348814741910323) (andI .u64 (addI .u64 (andI .u64 (shrI .u64 x_0 1) 6148914691236517205) (andI .u64 x_0 6148914691236517205)) 3689348814741910323))) 1085102592571150095) (shrI .u64 (andI .u64 (addI .u64 (shrI .u64 (addI .u64 (andI .u64 (shrI .u64 (addI .u64 (andI .u64 (shrI .u64 x_0 1) 6148914691236517205) (andI .u64 x_0 6148914691236517205)) 2) 3689348814741910323) (andI .u64 (addI .u64 (andI .u64 (shrI .u64 x_0 1) 6148914691236517205) (andI .u64 x_0 6148914691236517205)) 3689348814741910323)) 4) (addI .u64 (andI .u64 (shrI .u64 (addI .u64 (andI .u64 (shrI .u64 x_0 1) 6148914691236517205) (andI .u64 x_0 6148914691236517205)) 2) 3689348814741910323) (andI .u64 (addI .u64 (andI .u64 (shrI .u64 x_0 1) 6148914691236517205) (andI .u64 x_0 6148914691236517205)) 3689348814741910323))) 1085102592571150095) 8)) (shrI .u64 (addI .u64 (andI .u64 (addI .u64 (shrI .u64 (addI .u64 (andI .u64 (shrI .u64 (addI .u64 (andI .u64 (shrI .u64 x_0 1) 6148914691236517205) (andI .u64 x_0 6148914691236517205)) 2) 3689348814741910323) (andI .u64 (addI .u64 (andI .u64 (shrI .u64 x_0 1) 6148914691236517205) (andI .u64 x_0 6148914691236517205)) 3689348814741910323)) 4) (addI .u64 (andI .u64 (shrI .u64 (addI .u64 (andI .u64 (shrI .u64 x_0 1) 6148914691236517205) (andI .u64 x_0 6148914691236517205)) 2) 3689348814741910323) (andI .u64 (addI .u64 (andI .u64 (shrI .u64 x_0 1) 6148914691236517205) (andI .u64 x_0 6148914691236517205)) 3689348814741910323))) 1085102592571150095) (shrI .u64 (andI .u64 (addI .u64 (shrI .u64 (addI .u64 (andI .u64 (shrI .u64 (addI .u64 (andI .u64 (shrI .u64 x_0 1) 6148914691236517205) (andI .u64 x_0 6148914691236517205)) 2) 3689348814741910323) (andI .u64 (addI .u64 (andI .u64 (shrI .u64 x_0 1) 6148914691236517205) (andI .u64 x_0 6148914691236517205)) 3689348814741910323)) 4) (addI .u64 (andI .u64 (shrI .u64 (addI .u64 (andI .u64 (shrI .u64 x_0 1) 6148914691236517205) (andI .u64 x_0 6148914691236517205)) 2) 3689348814741910323) (andI .u64 (addI .u64 (andI .u64 (shrI .u64 x_0 1) 6148914691236517205) (andI .u64 x_0 6148914691236517205)) 3689348814741910323))) 1085102592571150095) 8)) 16)) (shrI .u64 (addI .u64 (addI .u64 (andI .u64 (addI .u64 (shrI .u64 (addI .u64 (andI .u64 (shrI .u64 (addI .u64 (andI .u64 (shrI .u64 x_0 1) 6148914691236517205) (andI .u64 x_0 6148914691236517205)) 2) 3689348814741910323) (andI .u64 (addI .u64 (andI .u64 (shrI .u64 x_0 1) 6148914691236517205) (andI .u64 x_0 6148914691236517205)) 3689348814741910323)) 4) (addI .u64 (andI .u64 (shrI .u64 (addI .u64 (andI .u64 (shrI .u64 x_0 1) 6148914691236517205) (andI .u64 x_0 6148914691236517205)) 2) 3689348814741910323) (andI .u64 (addI .u64 (andI .u64 (shrI .u64 x_0 1) 6148914691236517205) (andI .u64 x_0 6148914691236517205)) 3689348814741910323))) 1085102592571150095) (shrI .u64 (andI .u64 (addI .u64 (shrI .u64 (addI .u64 (andI .u64 (shrI .u64 (addI .u64 (andI .u64 (shrI .u64 x_0 1) 6148914691236517205) (andI .u64 x_0 6148914691236517205)) 2) 3689348814741910323) (andI .u64 (addI .u64 (andI .u64 (shrI .u64 x_0 1) 6148914691236517205) (andI .u64 x_0 6148914691236517205)) 3689348814741910323)) 4) (addI .u64 (andI .u64 (shrI .u64 (addI .u64 (andI .u64 (shrI .u64 x_0 1) 6148914691236517205) (andI .u64 x_0 6148914691236517205)) 2) 3689348814741910323) (andI .u64 (addI .u64 (andI .u64 (shrI .u64 x_0 1) 6148914691236517205) (andI .u64 x_0 6148914691236517205)) 3689348814741910323))) 1085102592571150095) 8)) (shrI .u64 (addI .u64 (andI .u64 (addI .u64 (shrI .u64 (addI .u64 (andI .u64 (shrI .u64 (addI .u64 (andI .u64 (shrI .u64 x_0 1) 6148914691236517205) (andI .u64 x_0 6148914691236517205)) 2) 3689348814741910323) (andI .u64 (addI .u64 (andI .u64 (shrI .u64 x_0 1) 6148914691236517205) (andI .u64 x_0 6148914691236517205)) 3689348814741910323)) 4) (addI .u64 (andI .u64 (shrI .u64 (addI .u64 (andI .u64 (shrI .u64 x_0 1) 6148914691236517205) (andI .u64 x_0 6148914691236517205)) 2) 3689348814741910323) (andI .u64 (addI .u64 (andI .u64 (shrI .u64 x_0 1) 6148914691236517205) (andI .u64 x_0 6148914691236517205)) 3689348814741910323))) 1085102592571150095) (shrI .u64 (andI .u64 (addI .u64 (shrI .u64 (addI .u64 (andI .u64 (shrI .u64 (addI .u64 (andI .u64 (shrI .u64 x_0 1) 6148914691236517205) (andI .u64 x_0 6148914691236517205)) 2) 3689348814741910323) (andI .u64 (addI .u64 (andI .u64 (shrI .u64 x_0 1) 6148914691236517205) (andI .u64 x_0 6148914691236517205)) 3689348814741910323)) 4) (addI .u64 (andI .u64 (shrI .u64 (addI .u64 (andI .u64 (shrI .u64 x_0 1) 6148914691236517205) (andI .u64 x_0 6148914691236517205)) 2) 3689348814741910323) (andI .u64 (addI .u64 (andI .u64 (shrI .u64 x_0 1) 6148914691236517205) (andI .u64 x_0 6148914691236517205)) 3689348814741910323))) 1085102592571150095) 8)) 16)) 32))) 127)
 ) (z50 x_0) :=
 cL o0' Tryz.func153
theorem y0o (a2 a4 : Int) (a6 a8 : List Member) : Le (
 bif (ltB a4 a2) then
 nth a6 a4 fun y0 =>
 bif (!y0.Declared) then
 z2y a2 (addI .i64 a4 1) a6 a8
 else
 z3h a4 0 a2 a4 a6 a8
 else
 some 0
 ) (z2y a2 a4 a6 a8) :=
 gL o0' (q01 Tryz.f23 [1,1,1,1,1,0,1,0,0])
theorem y1d (a0 a3 : Int) (a5 : List Int) (a7 a9 a11 : Int) (a13 : List Int) (a15 : List Trust) : Le (
 bif (ltB a9 a7) then
 nth a5 a9 fun y0 =>
 Option.bind (z4n a0 y0) fun x1 =>
 bif x1 then
 z2b a0 (addI .i64 a3 1) a5 a7 (addI .i64 a9 1) a11 a13 a15
 else
 z2b a0 a3 a5 a7 (addI .i64 a9 1) a11 a13 a15
 else
 z1z a0 a3 a15 ((List.length a15 : Nat) : Int) 0 a11 a13 a15
 ) (z2b a0 a3 a5 a7 a9 a11 a13 a15) :=
 gL o1' (q01 Tryz.f63 [1,1,1,0,1,0,0])
theorem qz9 (a0 : Int) (a2 : List Member) (a4 a6 : Int) (a8 : List Member) : Le (
 bif (ltB a6 a4) then
 nth a2 a6 fun y0 =>
 bif (ltB a6 10) then
 bif y0.Declared then
 chk (0 ≤ a6) <|
 z24 (orI .i64 a0 (shlI .i64 1 a6)) a2 a4 (addI .i64 a6 1) a8
 else
 z24 a0 a2 a4 (addI .i64 a6 1) a8
 else
 z24 a0 a2 a4 (addI .i64 a6 1) a8
 else
 some a0
 ) (z24 a0 a2 a4 a6 a8) :=
 gL o0' (q01 Tryz.f31 [1,1,0,1,0,0])
theorem y0a (a0 : Int) (a2 : List Int) (a4 : Int) : Le (
 bif (ltB a4 10) then
 Option.bind (z4n a0 a4) fun x0 =>
 bif x0 then
 capOk (List.length a2 + List.length ([a4] : List (Int))) <|
 z3d a0 (a2 ++ ([a4] : List (Int))) (addI .i64 a4 1)
 else
 z3d a0 a2 (addI .i64 a4 1)
 else
 some a2
 ) (z3d a0 a2 a4) :=
 gL o3' (q01 Tryz.f68 [1,1,0,1,0,0])
theorem qz2 (a0 a3 : Int) (a5 : List Int) (a7 a9 a11 : Int) (a13 : List Int) (a15 : List Trust) : Le (
 bif (ltB a9 a7) then
 nth a5 a9 fun y0 =>
 Option.bind (z3i a0 y0) fun x1 =>
 bif x1 then
 z1n a0 (addI .i64 a3 1) a5 a7 (addI .i64 a9 1) a11 a13 a15
 else
 z1n a0 a3 a5 a7 (addI .i64 a9 1) a11 a13 a15
 else
 z1e a0 a3 a15 ((List.length a15 : Nat) : Int) 0 a11 a13 a15
 ) (z1n a0 a3 a5 a7 a9 a11 a13 a15) :=
 gL o1' (q01 Tryz.f83 [1,1,1,0,1,0,0])
theorem qm5 (a0 : Int) (a3 : List Int) (a5 a7 : Int) (a9 : List Member) : Le (
 bif (ltB a7 a5) then
 nth a3 a7 fun y0 =>
 Option.bind (z3p (Config.mk a9) y0 a0) fun x1 =>
 bif (!x1) then
 some (y0, true)
 else
 z1g a0 a3 a5 (addI .i64 a7 1) a9
 else
 some (0, false)
 ) (z1g a0 a3 a5 a7 a9) :=
 gL o15' (q01 Tryz.f85 [1,0,1,0,0])
theorem y1m (c_0 : Config) (k_1 s_2 : Int) : Le (
 nth c_0.Members k_1 fun y0 =>
 Option.bind (z1t y0.Trust s_2) fun x1 =>
 some x1
 ) (z3p c_0 k_1 s_2) :=
 cL o1' Tryz.func109
theorem qz7 (a0 : Int) (a2 : List Member) (a4 a6 : Int) (a8 : List Member) : Le (
 bif (ltB a6 a4) then
 nth a2 a6 fun y0 =>
 bif y0.Declared then
 bif (ltB a6 10) then
 chk (0 ≤ a6) <|
 z18 (orI .i64 a0 (shlI .i64 1 a6)) a2 a4 (addI .i64 a6 1) a8
 else
 z18 a0 a2 a4 (addI .i64 a6 1) a8
 else
 z18 a0 a2 a4 (addI .i64 a6 1) a8
 else
 some a0
 ) (z18 a0 a2 a4 a6 a8) :=
 gL o0' (q01 Tryz.f59 [1,1,0,1,0,0])
theorem y03 (a1 : List Member) (a3 a5 : Int) (a7 : List Member) : Le (
 bif (ltB a5 a3) then
 nth a1 a5 fun y0 =>
 bif (!y0.Declared) then
 Option.bind (z4m y0.Trust (Trust.mk 0 ([] : List (Int)) ([] : List (Trust)))) fun x1 =>
 bif (!x1) then
 some 1
 else
 z3e a1 a3 (addI .i64 a5 1) a7
 else
 Option.bind (z33 y0.Trust) fun x2 =>
 bif (neB x2 0) then
 some x2
 else
 chk (0 ≤ ((List.length a7 : Nat) : Int)) <|
 Option.bind (z5u y0.Trust) fun x3 =>
 bif (leB (shlI .i64 1 ((List.length a7 : Nat) : Int)) x3) then
 some 5
 else
 z3e a1 a3 (addI .i64 a5 1) a7
 else
 some 0
 ) (z3e a1 a3 a5 a7) :=
 gL o0' (q01 Tryz.f61 [1,1,0,1,0,0])
theorem qp3 (a_0 b_1 : Trust) : Le (
 bif (neB a_0.Threshold b_1.Threshold) then
 some false
 else
 Option.bind (z5v a_0.Nodes b_1.Nodes) fun x0 =>
 bif (!x0) then
 some false
 else
 bif (neB ((List.length a_0.Inner : Nat) : Int) ((List.length b_1.Inner : Nat) : Int)) then
 some false
 else
 z37 ((List.length a_0.Inner : Nat) : Int) 0 a_0.Threshold a_0.Nodes a_0.Inner b_1.Threshold b_1.Nodes b_1.Inner
 ) (z4m a_0 b_1) :=
 cL o1' Tryz.func90
theorem y7m (t_0 : Trust) : Le (
 z2x 0 t_0.Nodes ((List.length t_0.Nodes : Nat) : Int) 0 t_0.Threshold t_0.Nodes t_0.Inner
 ) (z5u t_0) :=
 cL o0' Tryz.func92
theorem qza (a_0 b_1 : List Int) : Le (
 bif (neB ((List.length a_0 : Nat) : Int) ((List.length b_1 : Nat) : Int)) then
 some false
 else
 z40 a_0 b_1 ((List.length a_0 : Nat) : Int) 0
 ) (z5v a_0 b_1) :=
 cL o1' Tryz.func114
theorem y0c (a1 : List Int) (a3 a5 : Int) (a7 : List Member) : Le (
 bif (ltB a5 a3) then
 nth a1 a5 fun y0 =>
 Option.bind (z1v (Config.mk a7) y0) fun x1 =>
 bif (!x1) then
 z3f a1 a3 (addI .i64 a5 1) a7
 else
 Option.bind (z3y (Config.mk a7)) fun x2 =>
 Option.bind (z5e (Config.mk a7) (subI .i64 x2 y0)) fun x3 =>
 bif (neB x3 0) then
 some (y0, x3)
 else
 z3f a1 a3 (addI .i64 a5 1) a7
 else
 some (0, 0)
 ) (z3f a1 a3 a5 a7) :=
 gL o10' (q01 Tryz.f69 [1,0,1,0,0])
theorem y4z (c_0 : Config) (s_1 : Int) : Le (
 Option.bind (z22 s_1) fun x0 =>
 bif (!x0) then
 some 0
 else
 Option.bind (z1u c_0) fun x1 =>
 Option.bind (z4k c_0 s_1) fun x2 =>
 z3w (andI .i64 s_1 x1) x2 ((List.length x2 : Nat) : Int) 0 c_0.Members
 ) (z5e c_0 s_1) :=
 cL o0' Tryz.func95
theorem y69 (c_0 : Config) (s_1 : Int) : Le (
 Option.bind (z22 s_1) fun x0 =>
 bif (!x0) then
 some ([] : List (Int))
 else
 Option.bind (z1u c_0) fun x1 =>
 z2e (andI .i64 s_1 x1) ([] : List (Int)) true c_0.Members
 ) (z4k c_0 s_1) :=
 cL o3' Tryz.func118
theorem y0x (a0 : Int) (a2 : List Int) (a4 : Int) : Le (
 Option.bind (z5w a0) fun x0 =>
 bif (leB a4 x0) then
 Option.bind (z22 a0) fun x1 =>
 bif x1 then
 z2f a0 a2 a4 0
 else
 some a2
 else
 some a2
 ) (z2t a0 a2 a4) :=
 gL o3' (q01 Tryz.f66 [1,1,0,1,0,0])
theorem y3p (s_0 : Int) : Le (
 z4h s_0 0 0
 ) (z5w s_0) :=
 cL o0' Tryz.func93
theorem qzc (a1 : Int) (a3 : List Int) (a5 a7 : Int) (a9 : List Int) (a11 : Int) (a13 a15 : List Member) : Le (
 bif (ltB a7 a5) then
 nth a3 a7 fun y0 =>
 Option.bind (z1u (Config.mk a13)) fun x1 =>
 Option.bind (z1u (Config.mk a13)) fun x2 =>
 bif (neB (andI .i64 y0 (q3c .i64 a1 x1)) (q3c .i64 a1 x2)) then
 some false
 else
 z1k a1 a3 a5 (addI .i64 a7 1) a9 a11 a13 a15
 else
 Option.bind (law14_awake) fun x3 =>
 some x3
 ) (z1k a1 a3 a5 a7 a9 a11 a13 a15) :=
 gL o1' (q01 Tryz.f6 [1,1,1,1,1,1,1,1,0,1,0,0])
theorem qyz (a0 : List Int) (a2 : Bool) (a4 : Int) (a6 : List Int) (a8 a10 : Int) (a12 : List Int) (a14 a16 : Int) (a18 : List Int) (a20 : Int) (a22 a24 : List Member) : Le (
 bif (ltB a16 a14) then
 nth a12 a16 fun y0 =>
 bif a2 then
 Option.bind (mk_In a0 (andI .i64 a4 y0)) fun x1 =>
 bif (!x1) then
 some false
 else
 z1c a0 a2 a4 a6 a8 a10 a12 a14 (addI .i64 a16 1) a18 a20 a22 a24
 else
 z1c a0 a2 a4 a6 a8 a10 a12 a14 (addI .i64 a16 1) a18 a20 a22 a24
 else
 z1b a0 a2 a6 a8 (addI .i64 a10 1) a18 a20 a22 a24
 ) (z1c a0 a2 a4 a6 a8 a10 a12 a14 a16 a18 a20 a22 a24) :=
 gL o1' (q01 Tryz.f3 [1,1,1,1,1,1,1,0,1,0,0,1,1,0,0,1,1,0,0])
theorem y08 (a4 : List (List Trust)) (a7 : List Trust) (a9 : Int) (a11 : List Member) (a13 a15 : Int) (a17 : List Int) (a19 : Int) (a21 a23 a25 : List Member) (a27 : Bool) (a29 : Int) (a31 : List Int) (a33 : List Trust) : Le (
 bif (ltB 0 a9) then
 Option.bind (z6c (Trust.mk a29 a31 a33) ((List.length a25 : Nat) : Int) a17 a19) fun x0 =>
 capOk (List.length a7 + List.length ([(Trust.mk x0.1.Threshold x0.1.Nodes x0.1.Inner)] : List (Trust))) <|
 z5i a4 (a7 ++ ([(Trust.mk x0.1.Threshold x0.1.Nodes x0.1.Inner)] : List (Trust))) (subI .i64 a9 1) a11 a13 a15 x0.2.1 x0.2.2 a21 a23 a25 a27 a29 a31 a33
 else
 capOk (List.length a4 + List.length ([a7] : List (List (Trust)))) <|
 z34 (a4 ++ ([a7] : List (List (Trust)))) a11 a13 (addI .i64 a15 1) a17 a19 a21 a23 a25
 ) (z5i a4 a7 a9 a11 a13 a15 a17 a19 a21 a23 a25 a27 a29 a31 a33) :=
 gL o17' (q01 Tryz.f9 [1,1,1,1,0,1,0,0,1,1,0,0,1,1,0,1,0,1,1,0,0])
theorem qvp (x_1 : Trust) (n_2 : Int) (h0 : List Int) (h1 : Int) : Le (
 Option.bind (z14 3 h0 h1) fun x0 =>
 bif (eqB x0.1 0) then
 some ((Trust.mk (if (addI .i64 x_1.Threshold 1) < (addI .i64 ((List.length x_1.Nodes : Nat) : Int) ((List.length x_1.Inner : Nat) : Int)) then (addI .i64 x_1.Threshold 1) else (addI .i64 ((List.length x_1.Nodes : Nat) : Int) ((List.length x_1.Inner : Nat) : Int))) x_1.Nodes x_1.Inner), x0.2.1, x0.2.2)
 else
 bif (eqB x0.1 1) then
 some ((Trust.mk (if (subI .i64 x_1.Threshold 1) > 1 then (subI .i64 x_1.Threshold 1) else 1) x_1.Nodes x_1.Inner), x0.2.1, x0.2.2)
 else
 Option.bind (z64 n_2 2 x0.2.1 x0.2.2) fun x1 =>
 some ((Trust.mk x1.1.Threshold x1.1.Nodes x1.1.Inner), x1.2.1, x1.2.2)
 ) (z6c x_1 n_2 h0 h1) :=
 cL o7' Tryz.func36
theorem qzf (a0 : Bool) (a4 : List (List Trust)) (a6 a8 : Int) (a10 a12 : List Member) : Le (
 bif (ltB a8 a6) then
 nth a4 a8 fun y0 =>
 z3q a0 y0 a4 a6 a8 y0 ((List.length y0 : Nat) : Int) 0 a10 a12
 else
 Option.bind (z3j (Config.mk a12)) fun x1 =>
 bif (neB x1 0) then
 some ((Config.mk ([] : List (Member))), x1)
 else
 some ((Config.mk a12), 0)
 ) (z1y a0 a4 a6 a8 a10 a12) :=
 gL o14' (q01 Tryz.f76 [1,1,1,0,1,0,0])
end Go.Proofs.YtbmelgbadedbbaaGreat
