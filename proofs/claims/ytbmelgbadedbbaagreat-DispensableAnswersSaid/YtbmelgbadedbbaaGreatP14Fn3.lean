/- What the functions come to, printed by a program and checked by the kernel. -/
import Derived.Test.YtbmelgbadedbbaaGreatP14Df
namespace Go.Proofs.YtbmelgbadedbbaaGreat
open Go Go.Ab
set_option maxRecDepth 100000
theorem y7t (nodes_0 : List Int) : Le (
 z3a 0 nodes_0 ((List.length nodes_0 : Nat) : Int) 0
 ) (z6k nodes_0) :=
 cL o10' Tryz.func150
theorem y7n (s_0 : List Int) : Le (
 z0e s_0 ((List.length s_0 : Nat) : Int) 0
 ) (z1b s_0) :=
 cL o0' Tryz.func154
theorem y19 (a1 : List Member) (a3 a5 : Int) (a7 : List Member) : Le (
 bif (ltB a5 a3) then
 nth a1 a5 fun y0 =>
 Option.bind (z3u y0 ((List.length a7 : Nat) : Int)) fun x1 =>
 bif (neB x1 0) then
 some x1
 else
 z1z a1 a3 (addI .i64 a5 1) a7
 else
 some 0
 ) (z1z a1 a3 a5 a7) :=
 gL o0' (q01 Tryz.f58 [1,1,0,1,0,0])
theorem y6g (m_0 : Member) (members_1 : Int) : Le (
 bif (!m_0.Declared) then
 Option.bind (z4c m_0.Trust) fun x0 =>
 bif (!x0) then
 some 1
 else
 some 0
 else
 Option.bind (z3t m_0.Trust) fun x1 =>
 bif (neB x1 0) then
 some x1
 else
 chk (0 ≤ members_1) <|
 Option.bind (z54 m_0.Trust) fun x2 =>
 bif (leB (shlI .i64 1 members_1) x2) then
 some 5
 else
 some 0
 ) (z3u m_0 members_1) :=
 cL o0' Tryz.func86
theorem y5s (t_0 : Trust) : Le (
 bif (eqB t_0.Threshold 0) then
 bif (eqB ((List.length t_0.Nodes : Nat) : Int) 0) then
 some (eqB ((List.length t_0.Inner : Nat) : Int) 0)
 else
 some false
 else
 some false
 ) (z4c t_0) :=
 cL o1' Tryz.func110
theorem y5v (t_0 : Trust) : Le (
 z2l 0 t_0.Nodes ((List.length t_0.Nodes : Nat) : Int) 0 t_0.Threshold t_0.Nodes t_0.Inner
 ) (z54 t_0) :=
 cL o0' Tryz.func112
theorem qvu (a1 a3 : Int) (a5 : Bool) (a7 : List Member) : Le (
 bif a5 then
 Option.bind (z2g (Config.mk a7) a3) fun x0 =>
 bif (!x0) then
 Option.bind (z58 a3 a1) fun x1 =>
 z1d a1 x1.1 x1.2 a7
 else
 Option.bind (z29 (Config.mk a7)) fun x2 =>
 Option.bind (z59 (Config.mk a7) (q40 .i64 x2 a3)) fun x3 =>
 bif (neB x3 0) then
 some (a3, x3)
 else
 Option.bind (z58 a3 a1) fun x4 =>
 z1d a1 x4.1 x4.2 a7
 else
 some (0, 0)
 ) (z1d a1 a3 a5 a7) :=
 gL o10' (q01 Tryz.f80 [1,1,0,1,0,0])
theorem y7h (s_0 n_1 : Int) : Le (
 bif (ltB n_1 0) then
 some (0, false)
 else
 bif (ltB 10 n_1) then
 some (0, false)
 else
 Option.bind (z2e s_0 n_1) fun x0 =>
 bif (!x0) then
 some (0, false)
 else
 Option.bind (z5a s_0) fun x1 =>
 z2p n_1 x1 (addI .i64 s_0 1)
 ) (z58 s_0 n_1) :=
 cL o18' Tryz.func105
theorem y0f (c_0 : Config) : Le (
 chk (0 ≤ ((List.length c_0.Members : Nat) : Int)) <|
 some (subI .i64 (shlI .i64 1 ((List.length c_0.Members : Nat) : Int)) 1)
 ) (z29 c_0) :=
 cL o0' Tryz.func107
theorem y46 (c_0 : Config) (s_1 : Int) : Le (
 Option.bind (z4u c_0 s_1) fun x0 =>
 some x0.1
 ) (z59 c_0 s_1) :=
 cL o0' Tryz.func106
theorem y7i (s_0 : Int) : Le (
 Option.bind (z1o s_0) fun x0 =>
 bif (!x0) then
 some 0
 else
 Option.bind (z5o (IntKind.wrap .u64 s_0)) fun x1 =>
 some x1
 ) (z5a s_0) :=
 cL o0' Tryz.func133
theorem y73 (c_0 : Config) (s_1 : Int) : Le (
 Option.bind (z1o s_1) fun x0 =>
 bif (!x0) then
 some (0, ([] : List (Int)))
 else
 Option.bind (z1j c_0) fun x1 =>
 z2a (andI .i64 s_1 x1) ([] : List (Int)) c_0.Members
 ) (z4u c_0 s_1) :=
 cL o23' Tryz.func134
theorem y5t (x_0 : Int) : Le (
 Option.bind (z5b x_0) fun x0 =>
 some x0
 ) (z5o x_0) :=
 cL o0' Tryz.func147
theorem qzp (x_0 : Int) : Le (
 some (andI .i64 (IntKind.wrap .i64 (addI .u64 (addI .u64 (addI .u64 (andI .u64 (addI .u64 (shrI .u64 (addI .u64 (andI .u64 (shrI .u64 (addI .u64 (andI .u64 (shrI .u64 x_0 1) 6148914691236517205) (andI .u64 x_0 6148914691236517205)) 2) 3689348814741910323) (andI .u64 (addI .u64 (andI .u64 (shrI .u64 x_0 1) 6148914691236517205) (andI .u64 x_0 6148914691236517205)) 3689348814741910323)) 4) (addI .u64 (andI .u64 (shrI .u64 (addI .u64 (andI .u64 (shrI .u64 x_0 1) 6148914691236517205) (andI .u64 x_0 6148914691236517205)) 2) 3689348814741910323) (andI .u64 (addI .u64 (andI .u64 (shrI .u64 x_0 1) 6148914691236517205) (andI .u64 x_0 6148914691236517205)) 3689348814741910323))) 1085102592571150095) (shrI .u64 (andI .u64 (addI .u64 (shrI .u64 (addI .u64 (andI .u64 (shrI .u64 (addI .u64 (andI .u64 (shrI .u64 x_0 1) 6148914691236517205) (andI .u64 x_0 6148914691236517205)) 2) 3689348814741910323) (andI .u64 (addI .u64 (andI .u64 (shrI .u64 x_0 1) 6148914691236517205) (andI .u64 x_0 6148914691236517205)) 3689348814741910323)) 4) (addI .u64 (andI .u64 (shrI .u64 (addI .u64 (andI .u64 (shrI .u64 x_0 1) 6148914691236517205) (andI .u64 x_0 6148914691236517205)) 2) 3689348814741910323) (andI .u64 (addI .u64 (andI .u64 (shrI .u64 x_0 1) 6148914691236517205) (andI .u64 x_0 6148914691236517205)) 3689348814741910323))) 1085102592571150095) 8)) (shrI .u64 (addI .u64 (andI .u64 (addI .u64 (shrI .u64 (addI .u64 (andI .u64 (shrI .u64 (addI .u64 (andI .u64 (shrI .u64 x_0 1) 6148914691236517205) (andI .u64 x_0 6148914691236517205)) 2) 3689348814741910323) (andI .u64 (addI .u64 (andI .u64 (shrI .u64 x_0 1) 6148914691236517205) (andI .u64 x_0 6148914691236517205)) 3689348814741910323)) 4) (addI .u64 (andI .u64 (shrI .u64 (addI .u64 (andI .u64 (shrI .u64 x_0 1) 6148914691236517205) (andI .u64 x_0 6148914691236517205)) 2) 3689348814741910323) (andI .u64 (addI .u64 (andI .u64 (shrI .u64 x_0 1) 6148914691236517205) (andI .u64 x_0 6148914691236517205)) 3689348814741910323))) 1085102592571150095) (shrI .u64 (andI .u64 (addI .u64 (shrI .u64 (addI .u64 (andI .u64 (shrI .u64 (addI .u64 (andI .u64 (shrI .u64 x_0 1) 6148914691236517205) (andI .u64 x_0 6148914691236517205)) 2) 3689348814741910323) (andI .u64 (addI .u64 (andI .u64 (shrI .u64 x_0 1) 6148914691236517205) (andI .u64 x_0 6148914691236517205)) 3689348814741910323)) 4) (addI .u64 (andI .u64 (shrI .u64 (addI .u64 (andI .u64 (shrI .u64 x_0 1) 6148914691236517205) (andI .u64 x_0 6148914691236517205)) 2) 3689348814741910323) (andI .u64 (addI .u64 (andI .u64 (shrI .u64 x_0 1) 6148914691236517205) (andI .u64 x_0 6148914691236517205)) 3689348814741910323))) 1085102592571150095) 8)) 16)) (shrI .u64 (addI .u64 (addI .u64 (andI .u64 (addI .u64 (shrI .u64 (addI .u64 (andI .u64 (shrI .u64 (addI .u64 (andI .u64 (shrI .u64 x_0 1) 6148914691236517205) (andI .u64 x_0 6148914691236517205)) 2) 3689348814741910323) (andI .u64 (addI .u64 (andI .u64 (shrI .u64 x_0 1) 6148914691236517205) (andI .u64 x_0 6148914691236517205)) 3689348814741910323)) 4) (addI .u64 (andI .u64 (shrI .u64 (addI .u64 (andI .u64 (shrI .u64 x_0 1) 6148914691236517205) (andI .u64 x_0 6148914691236517205)) 2) 3689348814741910323) (andI .u64 (addI .u64 (andI .u64 (shrI .u64 x_0 1) 6148914691236517205) (andI .u64 x_0 6148914691236517205)) 3689348814741910323))) 1085102592571150095) (shrI .u64 (andI .u64 (addI .u64 (shrI .u64 (addI .u64 (andI .u64 (shrI .u64 (addI .u64 (andI .u64 (shrI .u64 x_0 1) 6148914691236517205) (andI .u64 x_0 6148914691236517205)) 2) 3689348814741910323) (andI .u64 (addI .u64 (andI .u64 (shrI .u64 x_0 1) 6148914691236517205) (andI .u64 x_0 6148914691236517205)) 3689348814741910323)) 4) (addI .u64 (andI .u64 (shrI .u64 (addI .u64 (andI .u64 (shrI .u64 x_0 1) 6148914691236517205) (andI .u64 x_0 6148914691236517205)) 2) 3689348814741910323) (andI .u64 (addI .u64 (andI .u64 (shrI .u64 x_0 1) 6148914691236517205) (andI .u64 x_0 6148914691236517205)) 3689348814741910323))) 1085102592571150095) 8)) (shrI .u64 (addI .u64 (andI .u64 (addI .u64 (shrI .u64 (addI .u64 (andI .u64 (shrI .u64 (addI .u64 (andI .u64 (shrI .u64 x_0 1) 6148914691236517205) (andI .u64 x_0 6148914691236517205)) 2) 3689348814741910323) (andI .u64 (addI .u64 (andI .u64 (shrI .u64 x_0 1) 6148914691236517205) (andI .u64 x_0 6148914691236517205)) 3689348814741910323)) 4) (addI .u64 (andI .u64 (shrI .u64 (addI .u64 (andI .u64 (shrI .u64 x_0 1) 6148914691236517205) (andI .u64 x_0 6148914691236517205)) 2) 3689348814741910323) (andI .u64 (addI .u64 (andI .u64 (shrI .u64 x_0 1) 6148914691236517205) (andI .u64 x_0 6148914691236517205)) 3689348814741910323))) 1085102592571150095) (shrI .u64 (andI .u64 (addI .u64 (shrI .u64 (addI .u64 (andI .u64 (shrI .u64 (addI .u64 (andI .u64 (shrI .u64 x_0 1) 6148914691236517205) (andI .u64 x_0 6148914691236517205)) 2) 3689348814741910323) (andI .u64 (addI .u64 (andI .u64 (shrI .u64 x_0 1) 6148914691236517205) (andI .u64 x_0 6148914691236517205)) 3689348814741910323)) 4) (addI .u64 (andI .u64 (shrI .u64 (addI .u64 (andI .u64 (shrI .u64 x_0 1) 6148914691236517205) (andI .u64 x_0 6148914691236517205)) 2) 3689348814741910323) (andI .u64 (addI .u64 (andI .u64 (shrI .u64 x_0 1) 6148914691236517205) (andI .u64 x_0 6148914691236517205)) 3689348814741910323))) 1085102592571150095) 8)) 16)) 32))) 127)
 ) (z5b x_0) :=
 cL o0' Tryz.func153
theorem y0q (a2 a4 : Int) (a6 a8 : List Member) : Le (
 bif (ltB a4 a2) then
 nth a6 a4 fun y0 =>
 bif (!y0.Declared) then
 z2z a2 (addI .i64 a4 1) a6 a8
 else
 z3m a4 0 a2 a4 a6 a8
 else
 some 0
 ) (z2z a2 a4 a6 a8) :=
 gL o0' (q01 Tryz.f23 [1,1,1,1,1,0,1,0,0])
theorem y0z (a0 a3 : Int) (a5 : List Int) (a7 a9 a11 : Int) (a13 : List Int) (a15 : List Trust) : Le (
 bif (ltB a9 a7) then
 nth a5 a9 fun y0 =>
 Option.bind (z4z a0 y0) fun x1 =>
 bif x1 then
 z28 a0 (addI .i64 a3 1) a5 a7 (addI .i64 a9 1) a11 a13 a15
 else
 z28 a0 a3 a5 a7 (addI .i64 a9 1) a11 a13 a15
 else
 z1v a0 a3 a15 ((List.length a15 : Nat) : Int) 0 a11 a13 a15
 ) (z28 a0 a3 a5 a7 a9 a11 a13 a15) :=
 gL o1' (q01 Tryz.f63 [1,1,1,0,1,0,0])
theorem qzf (a0 : Int) (a2 : List Member) (a4 a6 : Int) (a8 : List Member) : Le (
 bif (ltB a6 a4) then
 nth a2 a6 fun y0 =>
 bif (ltB a6 10) then
 bif y0.Declared then
 chk (0 ≤ a6) <|
 z20 (orI .i64 a0 (shlI .i64 1 a6)) a2 a4 (addI .i64 a6 1) a8
 else
 z20 a0 a2 a4 (addI .i64 a6 1) a8
 else
 z20 a0 a2 a4 (addI .i64 a6 1) a8
 else
 some a0
 ) (z20 a0 a2 a4 a6 a8) :=
 gL o0' (q01 Tryz.f31 [1,1,0,1,0,0])
theorem y1y (a0 : Int) (a2 : List Int) (a4 : Int) : Le (
 bif (ltB a4 10) then
 Option.bind (z4z a0 a4) fun x0 =>
 bif x0 then
 capOk (List.length a2 + List.length ([a4] : List (Int))) <|
 z3i a0 (a2 ++ ([a4] : List (Int))) (addI .i64 a4 1)
 else
 z3i a0 a2 (addI .i64 a4 1)
 else
 some a2
 ) (z3i a0 a2 a4) :=
 gL o3' (q01 Tryz.f68 [1,1,0,1,0,0])
theorem y0b (a0 a3 : Int) (a5 : List Int) (a7 a9 a11 : Int) (a13 : List Int) (a15 : List Trust) : Le (
 bif (ltB a9 a7) then
 nth a5 a9 fun y0 =>
 Option.bind (z3n a0 y0) fun x1 =>
 bif x1 then
 z1l a0 (addI .i64 a3 1) a5 a7 (addI .i64 a9 1) a11 a13 a15
 else
 z1l a0 a3 a5 a7 (addI .i64 a9 1) a11 a13 a15
 else
 z1e a0 a3 a15 ((List.length a15 : Nat) : Int) 0 a11 a13 a15
 ) (z1l a0 a3 a5 a7 a9 a11 a13 a15) :=
 gL o1' (q01 Tryz.f83 [1,1,1,0,1,0,0])
theorem qmr (a0 : Int) (a3 : List Int) (a5 a7 : Int) (a9 : List Member) : Le (
 bif (ltB a7 a5) then
 nth a3 a7 fun y0 =>
 Option.bind (z3v (Config.mk a9) y0 a0) fun x1 =>
 bif (!x1) then
 some (y0, true)
 else
 z1g a0 a3 a5 (addI .i64 a7 1) a9
 else
 some (0, false)
 ) (z1g a0 a3 a5 a7 a9) :=
 gL o18' (q01 Tryz.f85 [1,0,1,0,0])
theorem y0j (c_0 : Config) (k_1 s_2 : Int) : Le (
 nth c_0.Members k_1 fun y0 =>
 Option.bind (z1r y0.Trust s_2) fun x1 =>
 some x1
 ) (z3v c_0 k_1 s_2) :=
 cL o1' Tryz.func109
theorem y0s (a0 : Int) (a2 : List Member) (a4 a6 : Int) (a8 : List Member) : Le (
 bif (ltB a6 a4) then
 nth a2 a6 fun y0 =>
 bif y0.Declared then
 bif (ltB a6 10) then
 chk (0 ≤ a6) <|
 z18 (orI .i64 a0 (shlI .i64 1 a6)) a2 a4 (addI .i64 a6 1) a8
 else
 z18 a0 a2 a4 (addI .i64 a6 1) a8
 else
 z18 a0 a2 a4 (addI .i64 a6 1) a8
 else
 some a0
 ) (z18 a0 a2 a4 a6 a8) :=
 gL o0' (q01 Tryz.f59 [1,1,0,1,0,0])
theorem y09 (a1 : List Member) (a3 a5 : Int) (a7 : List Member) : Le (
 bif (ltB a5 a3) then
 nth a1 a5 fun y0 =>
 bif (!y0.Declared) then
 Option.bind (z4x y0.Trust (Trust.mk 0 ([] : List (Int)) ([] : List (Trust)))) fun x1 =>
 bif (!x1) then
 some 1
 else
 z3j a1 a3 (addI .i64 a5 1) a7
 else
 Option.bind (z36 y0.Trust) fun x2 =>
 bif (neB x2 0) then
 some x2
 else
 chk (0 ≤ ((List.length a7 : Nat) : Int)) <|
 Option.bind (z68 y0.Trust) fun x3 =>
 bif (leB (shlI .i64 1 ((List.length a7 : Nat) : Int)) x3) then
 some 5
 else
 z3j a1 a3 (addI .i64 a5 1) a7
 else
 some 0
 ) (z3j a1 a3 a5 a7) :=
 gL o0' (q01 Tryz.f61 [1,1,0,1,0,0])
theorem qrg (a_0 b_1 : Trust) : Le (
 bif (neB a_0.Threshold b_1.Threshold) then
 some false
 else
 Option.bind (z69 a_0.Nodes b_1.Nodes) fun x0 =>
 bif (!x0) then
 some false
 else
 bif (neB ((List.length a_0.Inner : Nat) : Int) ((List.length b_1.Inner : Nat) : Int)) then
 some false
 else
 z3b ((List.length a_0.Inner : Nat) : Int) 0 a_0.Threshold a_0.Nodes a_0.Inner b_1.Threshold b_1.Nodes b_1.Inner
 ) (z4x a_0 b_1) :=
 cL o1' Tryz.func90
theorem y78 (t_0 : Trust) : Le (
 z2y 0 t_0.Nodes ((List.length t_0.Nodes : Nat) : Int) 0 t_0.Threshold t_0.Nodes t_0.Inner
 ) (z68 t_0) :=
 cL o0' Tryz.func92
theorem y0i (a_0 b_1 : List Int) : Le (
 bif (neB ((List.length a_0 : Nat) : Int) ((List.length b_1 : Nat) : Int)) then
 some false
 else
 z4a a_0 b_1 ((List.length a_0 : Nat) : Int) 0
 ) (z69 a_0 b_1) :=
 cL o1' Tryz.func114
theorem qzh (a1 : List Int) (a3 a5 : Int) (a7 : List Member) : Le (
 bif (ltB a5 a3) then
 nth a1 a5 fun y0 =>
 Option.bind (z22 (Config.mk a7) y0) fun x1 =>
 bif (!x1) then
 z3k a1 a3 (addI .i64 a5 1) a7
 else
 Option.bind (z47 (Config.mk a7)) fun x2 =>
 Option.bind (z5p (Config.mk a7) (subI .i64 x2 y0)) fun x3 =>
 bif (neB x3 0) then
 some (y0, x3)
 else
 z3k a1 a3 (addI .i64 a5 1) a7
 else
 some (0, 0)
 ) (z3k a1 a3 a5 a7) :=
 gL o10' (q01 Tryz.f69 [1,0,1,0,0])
theorem y49 (c_0 : Config) (s_1 : Int) : Le (
 Option.bind (z1y s_1) fun x0 =>
 bif (!x0) then
 some 0
 else
 Option.bind (z2h c_0) fun x1 =>
 Option.bind (z4v c_0 s_1) fun x2 =>
 z46 (andI .i64 s_1 x1) x2 ((List.length x2 : Nat) : Int) 0 c_0.Members
 ) (z5p c_0 s_1) :=
 cL o0' Tryz.func95
theorem y4c (c_0 : Config) (s_1 : Int) : Le (
 Option.bind (z1y s_1) fun x0 =>
 bif (!x0) then
 some ([] : List (Int))
 else
 Option.bind (z2h c_0) fun x1 =>
 z2b (andI .i64 s_1 x1) ([] : List (Int)) true c_0.Members
 ) (z4v c_0 s_1) :=
 cL o3' Tryz.func118
theorem qz8 (a0 : Int) (a2 : List Int) (a4 : Int) : Le (
 Option.bind (z6a a0) fun x0 =>
 bif (leB a4 x0) then
 Option.bind (z1y a0) fun x1 =>
 bif x1 then
 z2c a0 a2 a4 0
 else
 some a2
 else
 some a2
 ) (z2u a0 a2 a4) :=
 gL o3' (q01 Tryz.f66 [1,1,0,1,0,0])
theorem y7j (s_0 : Int) : Le (
 z4t s_0 0 0
 ) (z6a s_0) :=
 cL o0' Tryz.func93
theorem qyy (a0 : Int) (a6 : List Arr2_Config) (a8 a10 : Int) (a12 : List Int) (a14 a16 : Int) (a18 a20 : List Member) (a22 a24 a26 : Int) (a28 : List Int) (a30 : Int) (a32 a34 a36 a38 : List Member) : Le (
 bif (ltB a16 a14) then
 nth a12 a16 fun y0 =>
 Option.bind (z2f (Config.mk a36) y0) fun x1 =>
 Option.bind (z4e (Config.mk a36) y0) fun x2 =>
 Option.bind (z2q (Config.mk a38) y0) fun x3 =>
 Option.bind (z4o (Config.mk a38) y0) fun x4 =>
 Option.bind (z5k (Config.mk a36) (Config.mk a38) y0) fun x5 =>
 Option.bind (z6s (Config.mk a36) (Config.mk a38) y0) fun x6 =>
 Option.bind (z2r (Config.mk a36) (Config.mk a38) y0) fun x7 =>
 Option.bind (z64 (Config.mk a36) (Config.mk a38) y0) fun x8 =>
 bif (!(x1.1 == x2.1)) then
 some false
 else
 bif (neB x1.2 x2.2) then
 some false
 else
 bif (!(x3.1 == x4.1)) then
 some false
 else
 bif (neB x3.2 x4.2) then
 some false
 else
 bif (!(x5.1 == x6.1)) then
 some false
 else
 bif (neB x5.2 x6.2) then
 some false
 else
 bif (!((eqB x7.1.Node x8.1.Node) && ((eqB x7.1.A x8.1.A) && ((eqB x7.1.B x8.1.B) && true)))) then
 some false
 else
 bif (neB x7.2 x8.2) then
 some false
 else
 Option.bind (z11 5 a28 a30) fun x9 =>
 Option.bind (z11 32 x9.2.1 x9.2.2) fun x10 =>
 Option.bind (z11 32 x10.2.1 x10.2.2) fun x11 =>
 z1h a0 y0 a6 a8 a10 a12 a14 a16 ([(Refutation.mk x8.1.Node x8.1.A x8.1.B), (Refutation.mk a22 a24 a26), (Refutation.mk x9.1 0 0), (Refutation.mk (-1) x10.1 x11.1)] : List (Refutation)) ((List.length ([(Refutation.mk x8.1.Node x8.1.A x8.1.B), (Refutation.mk a22 a24 a26), (Refutation.mk x9.1 0 0), (Refutation.mk (-1) x10.1 x11.1)] : List (Refutation)) : Nat) : Int) 0 a18 a20 a22 a24 a26 x11.2.1 x11.2.2 a32 a34 a36 a38 x7.1.Node x7.1.A x7.1.B x8.1.Node x8.1.A x8.1.B
 else
 Option.bind (z6v (Config.mk a32) a28 a30) fun x12 =>
 Option.bind (z3p (Config.mk a36) (Config.mk a38) x12.1) fun x13 =>
 Option.bind (z6q (Config.mk a36) (Config.mk a38) x12.1) fun x14 =>
 bif (neB x13.2 x14.2) then
 some false
 else
 Option.bind (z6h x13.1 x14.1) fun x15 =>
 bif (!x15) then
 some false
 else
 z14 a0 a6 a8 (addI .i64 a10 1) a18 a20 a22 a24 a26 x12.2.1 x12.2.2 a32 a34
 ) (z1a a0 a6 a8 a10 a12 a14 a16 a18 a20 a22 a24 a26 a28 a30 a32 a34 a36 a38) :=
 gL o1' (q01 Tryz.f5 [1,1,1,1,0,1,0,0,1,1,0,0,1,1,1,0,1,0,0])
theorem y4h (low_0 high_1 : Config) (b_2 : Int) : Le (
 Option.bind (z4y low_0 high_1 b_2) fun x0 =>
 bif (neB x0 0) then
 some ((Refutation.mk 0 0 0), x0)
 else
 z3x b_2 ((List.length high_1.Members : Nat) : Int) 0 low_0.Members high_1.Members 0 0 0
 ) (z64 low_0 high_1 b_2) :=
 cL o17' Tryz.func28
theorem y6t (low_0 high_1 : Config) (ill_2 : Int) : Le (
 Option.bind (z4y low_0 high_1 ill_2) fun x0 =>
 bif (neB x0 0) then
 some (([] : List (Int)), x0)
 else
 Option.bind (z37 low_0) fun x1 =>
 Option.bind (z5d x1) fun x2 =>
 z3y ill_2 ([] : List (Int)) x2 ((List.length x2 : Nat) : Int) 0 low_0.Members high_1.Members
 ) (z6q low_0 high_1 ill_2) :=
 cL o16' Tryz.func29
theorem qze (a4 : List (List Trust)) (a7 : List Trust) (a9 : Int) (a11 : List Member) (a13 a15 : Int) (a17 : List Int) (a19 : Int) (a21 a23 a25 : List Member) (a27 : Bool) (a29 : Int) (a31 : List Int) (a33 : List Trust) : Le (
 bif (ltB 0 a9) then
 Option.bind (z6n (Trust.mk a29 a31 a33) ((List.length a25 : Nat) : Int) a17 a19) fun x0 =>
 capOk (List.length a7 + List.length ([(Trust.mk x0.1.Threshold x0.1.Nodes x0.1.Inner)] : List (Trust))) <|
 z5u a4 (a7 ++ ([(Trust.mk x0.1.Threshold x0.1.Nodes x0.1.Inner)] : List (Trust))) (subI .i64 a9 1) a11 a13 a15 x0.2.1 x0.2.2 a21 a23 a25 a27 a29 a31 a33
 else
 capOk (List.length a4 + List.length ([a7] : List (List (Trust)))) <|
 z38 (a4 ++ ([a7] : List (List (Trust)))) a11 a13 (addI .i64 a15 1) a17 a19 a21 a23 a25
 ) (z5u a4 a7 a9 a11 a13 a15 a17 a19 a21 a23 a25 a27 a29 a31 a33) :=
 gL o20' (q01 Tryz.f9 [1,1,1,1,0,1,0,0,1,1,0,0,1,1,0,1,0,1,1,0,0])
theorem qur (x_1 : Trust) (n_2 : Int) (h0 : List Int) (h1 : Int) : Le (
 Option.bind (z11 3 h0 h1) fun x0 =>
 bif (eqB x0.1 0) then
 some ((Trust.mk (if (addI .i64 x_1.Threshold 1) < (addI .i64 ((List.length x_1.Nodes : Nat) : Int) ((List.length x_1.Inner : Nat) : Int)) then (addI .i64 x_1.Threshold 1) else (addI .i64 ((List.length x_1.Nodes : Nat) : Int) ((List.length x_1.Inner : Nat) : Int))) x_1.Nodes x_1.Inner), x0.2.1, x0.2.2)
 else
 bif (eqB x0.1 1) then
 some ((Trust.mk (if (subI .i64 x_1.Threshold 1) > 1 then (subI .i64 x_1.Threshold 1) else 1) x_1.Nodes x_1.Inner), x0.2.1, x0.2.2)
 else
 Option.bind (z6f n_2 2 x0.2.1 x0.2.2) fun x1 =>
 some ((Trust.mk x1.1.Threshold x1.1.Nodes x1.1.Inner), x1.2.1, x1.2.2)
 ) (z6n x_1 n_2 h0 h1) :=
 cL o5' Tryz.func36
theorem qzr (a0 : Bool) (a4 : List (List Trust)) (a6 a8 : Int) (a10 a12 : List Member) : Le (
 bif (ltB a8 a6) then
 nth a4 a8 fun y0 =>
 z3z a0 y0 a4 a6 a8 y0 ((List.length y0 : Nat) : Int) 0 a10 a12
 else
 Option.bind (z35 (Config.mk a12)) fun x1 =>
 bif (neB x1 0) then
 some ((Config.mk ([] : List (Member))), x1)
 else
 some ((Config.mk a12), 0)
 ) (z1u a0 a4 a6 a8 a10 a12) :=
 gL o15' (q01 Tryz.f76 [1,1,1,0,1,0,0])
theorem qww (a0 a3 a5 : Int) (a7 : List Int) (a9 : List Trust) : Le (
 bif (ltB a3 ((List.length a9 : Nat) : Int)) then
 bif (leB a0 400) then
 nth a9 a3 fun y0 =>
 Option.bind (z65 y0 a0) fun x1 =>
 z48 x1 (addI .i64 a3 1) a5 a7 a9
 else
 some a0
 else
 some a0
 ) (z48 a0 a3 a5 a7 a9) :=
 gL o0' (q01 Tryz.f56 [1,1,0,1,0,0])
end Go.Proofs.YtbmelgbadedbbaaGreat
