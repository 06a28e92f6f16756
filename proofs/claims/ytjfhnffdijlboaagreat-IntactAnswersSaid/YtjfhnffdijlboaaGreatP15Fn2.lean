/- What the functions come to, printed by a program and checked by the kernel. -/
import Derived.Test.YtjfhnffdijlboaaGreatP15Df
namespace Go.Proofs.YtjfhnffdijlboaaGreat
open Go Go.Ab
set_option maxRecDepth 100000
theorem qwr (a1 a3 : Int) (a5 : List Member) : Le (
 bif (ltB a3 (a5.length : Int)) then
 bif leB a1 400 then
 nth a5 a3 fun y0 =>
 Option.bind (z6y y0.Trust a1) fun x1 =>
 z2n x1 (addI .i64 a3 1) a5
 else
 some (leB a1 400)
 else
 some (leB a1 400)
 ) (z2n a1 a3 a5) :=
 gL o1' (q0a Tryz.f28 [1,1,1,0,1,0,0])
theorem yan (x_0 : Trust) (n_1 : Int) : Le (
 z4k (addI .i64 n_1 (addI .i64 1 (x_0.Nodes.length : Int))) 0 x_0.Threshold x_0.Nodes x_0.Inner
 ) (z6y x_0 n_1) :=
 cL o0' Tryz.func72
theorem qx5 (a4 : List (List Trust)) (a6 : List Member) (a8 a10 : Int) (a12 : List Int) (a14 : Int) (a16 a18 a20 : List Member) : Le (
 bif ltB a10 a8 then
 nth a6 a10 fun y0 =>
 bif y0.Declared then
 capOk (List.length ([] : List Trust) + List.length ([(Trust.mk y0.Trust.Threshold y0.Trust.Nodes y0.Trust.Inner)] : List Trust)) <|
 Option.bind (z10 3 a12 a14) fun x1 =>
 z6j a4 (([] : List Trust) ++ ([(Trust.mk y0.Trust.Threshold y0.Trust.Nodes y0.Trust.Inner)] : List Trust)) x1.1 a6 a8 a10 x1.2.1 x1.2.2 a16 a18 a20 y0.Declared y0.Trust.Threshold y0.Trust.Nodes y0.Trust.Inner
 else
 capOk (List.length a4 + List.length ([([] : List Trust)] : List (List Trust))) <|
 z3i (a4 ++ ([([] : List Trust)] : List (List Trust))) a6 a8 (addI .i64 a10 1) a12 a14 a16 a18 a20
 else
 Option.bind (z7l a4) fun x2 =>
 Option.bind (z7b a4) fun x3 =>
 bif neB x2.2 0 then
 some ((Config.mk a20), (Config.mk a20), a12, a14)
 else
 bif neB x3.2 0 then
 some ((Config.mk a20), (Config.mk a20), a12, a14)
 else
 some ((Config.mk x2.1.Members), (Config.mk x3.1.Members), a12, a14)
 ) (z3i a4 a6 a8 a10 a12 a14 a16 a18 a20) :=
 gL o20' (q0a Tryz.f10 [1,1,1,1,0,1,0,0])
theorem yal (l_0 : List (List Trust)) : Le (
 Option.bind (z6c l_0 false) fun x0 =>
 some ((Config.mk x0.1.Members), x0.2)
 ) (z7l l_0) :=
 cL o14' Tryz.func38
theorem y8s (l_0 : List (List Trust)) : Le (
 Option.bind (z6c l_0 true) fun x0 =>
 some ((Config.mk x0.1.Members), x0.2)
 ) (z7b l_0) :=
 cL o14' Tryz.func39
theorem y8t (l_0 : List (List Trust)) (all_1 : Bool) : Le (
 bif (ltB 10 (l_0.length : Int)) then
 some ((Config.mk ([] : List Member)), 3)
 else
 z1z all_1 l_0 (l_0.length : Int) 0 ([] : List Member) ([] : List Member)
 ) (z6c l_0 all_1) :=
 cL o14' Tryz.func81
theorem y0k (a2 : Bool) (a4 : List Int) (a6 : Int) (a8 a10 a12 : List Member) : Le (
 bif (leB (a12.length : Int) 10) then
 capOk (List.length a12 + List.length ([(Member.mk false (Trust.mk 0 ([] : List Int) ([] : List Trust)))] : List Member)) <|
 z3p a4 a6 a8 a10 (a12 ++ ([(Member.mk false (Trust.mk 0 ([] : List Int) ([] : List Trust)))] : List Member))
 else
 some ((Config.mk a12), a4, a6)
 ) (z3o a2 a4 a6 a8 a10 a12) :=
 gL o12' (q0a Tryz.f29 [1,1,1,1,0,1,0,1,1,1,1,1,1,1,1,0,0])
theorem y0n (a2 a4 a6 : Int) (a8 : List Int) (a10 : Int) (a12 : List Member) : Le (
 bif ltB 0 a6 then
 Option.bind (z10 a2 a8 a10) fun x0 =>
 chk (0 <= x0.1) <|
 z6h a2 (orI .i64 a4 (shlI .i64 1 x0.1)) (subI .i64 a6 1) x0.2.1 x0.2.2 a12
 else
 chk (0 <= a2) <|
 Option.bind (z28 (Config.mk a12)) fun x1 =>
 Option.bind (z10 2 a8 a10) fun x2 =>
 some ((orI .i64 a4 (mulI .i64 (q1w .i64 (subI .i64 (shlI .i64 1 a2) 1) x1) x2.1)), x2.2.1, x2.2.2)
 ) (z6h a2 a4 a6 a8 a10 a12) :=
 gL o13' (q0a Tryz.f11 [1,1,1,0,1,0,0])
theorem y2a (a0 : Int) (a2 : List Int) (a4 : Int) : Le (
 bif ltB a4 10 then
 Option.bind (z2y a0 a4) fun x0 =>
 bif x0 then
 capOk (List.length a2 + List.length ([a4] : List Int)) <|
 z3v a0 (a2 ++ ([a4] : List Int)) (addI .i64 a4 1)
 else
 z3v a0 a2 (addI .i64 a4 1)
 else
 some a2
 ) (z3v a0 a2 a4) :=
 gL o2' (q0a Tryz.f19 [1,1,0,1,0,0])
theorem y6a (a0 : Int) (a2 : List Int) (a4 a6 : Int) (a8 : List Member) : Le (
 bif ltB a6 a4 then
 nth a2 a6 fun y0 =>
 chk (0 <= y0) <|
 z4h (subI .i64 a0 (shlI .i64 1 y0)) a2 a4 (addI .i64 a6 1) a8
 else
 some a0
 ) (z4h a0 a2 a4 a6 a8) :=
 gL o0' (q0a Tryz.f22 [1,1,1,0,1,0,0])
theorem y0p (a0 : Int) (a3 : List Int) (a5 a7 : Int) (a9 : List Member) : Le (
 bif ltB a7 a5 then
 nth a3 a7 fun y0 =>
 nth a9 y0 fun y1 =>
 Option.bind (z1w y1.Trust a0) fun x2 =>
 bif !x2 then
 some false
 else
 z2t a0 a3 a5 (addI .i64 a7 1) a9
 else
 some true
 ) (z2t a0 a3 a5 a7 a9) :=
 gL o1' (q0a Tryz.f14 [1,1,0,1,0,0])
theorem y3j (a0 : Int) (a4 a6 : List Int) (a8 a10 : Int) (a12 a14 : List Member) : Le (
 bif ltB a10 a8 then
 nth a6 a10 fun y0 =>
 bif eqB (andI .i64 y0 a0) a0 then
 Option.bind (z7f (Config.mk a12) (Config.mk a14) y0) fun x1 =>
 bif x1 then
 capOk (List.length a4 + List.length ([y0] : List Int)) <|
 z44 a0 (a4 ++ ([y0] : List Int)) a6 a8 (addI .i64 a10 1) a12 a14
 else
 z44 a0 a4 a6 a8 (addI .i64 a10 1) a12 a14
 else
 z44 a0 a4 a6 a8 (addI .i64 a10 1) a12 a14
 else
 some (a4, 0)
 ) (z44 a0 a4 a6 a8 a10 a12 a14) :=
 gL o16' (q0a Tryz.f15 [1,1,1,0,1,0,0])
theorem y7u (low_0 high_1 : Config) (b_2 : Int) : Le (
 Option.bind (z65 high_1 b_2) fun x0 =>
 bif !x0.1 then
 some false
 else
 Option.bind (z3n low_0 b_2) fun x1 =>
 some x1.1
 ) (z7f low_0 high_1 b_2) :=
 cL o1' Tryz.func48
theorem y7c (high_0 : Config) (b_1 : Int) : Le (
 Option.bind (z3e high_0) fun x0 =>
 bif neB x0 0 then
 some (false, x0)
 else
 Option.bind (z6t high_0 b_1) fun x1 =>
 bif neB x1 0 then
 some (false, x1)
 else
 Option.bind (z3g high_0) fun x2 =>
 bif eqB (subI .i64 x2 b_1) 0 then
 some (true, 0)
 else
 Option.bind (z1q high_0 (subI .i64 x2 b_1)) fun x3 =>
 some (x3, 0)
 ) (z65 high_0 b_1) :=
 cL o7' Tryz.func85
theorem qlx (a2 : Int) (a4 a6 : List Member) : Le (
 bif ltB a2 4 then
 capOk (List.length a6 + List.length ([(Member.mk true (Trust.mk 3 ([0, 1, 2, 3] : List Int) ([] : List Trust)))] : List Member)) <|
 z3j (addI .i64 a2 1) a4 (a6 ++ ([(Member.mk true (Trust.mk 3 ([0, 1, 2, 3] : List Int) ([] : List Trust)))] : List Member))
 else
 some (Config.mk a6)
 ) (z3j a2 a4 a6) :=
 gL o9' (q0a Tryz.f53 [1,1,0,1,0,0])
theorem qsa (a2 a4 a7 : Int) (a9 : List Int) (a11 : Int) (a13 a15 : List Member) : Le (
 bif ltB a7 a2 then
 bif eqB a4 0 then
 Option.bind (z79 a2 2 a9 a11) fun x0 =>
 Option.bind (z10 12 x0.2.1 x0.2.2) fun x1 =>
 bif eqB x1.1 11 then
 capOk (List.length a15 + List.length ([(Member.mk false (Trust.mk 0 ([] : List Int) ([] : List Trust)))] : List Member)) <|
 z1f a2 a4 (addI .i64 a7 1) x1.2.1 x1.2.2 a13 (a15 ++ ([(Member.mk false (Trust.mk 0 ([] : List Int) ([] : List Trust)))] : List Member))
 else
 capOk (List.length a15 + List.length ([(Member.mk true (Trust.mk x0.1.Threshold x0.1.Nodes x0.1.Inner))] : List Member)) <|
 z1f a2 a4 (addI .i64 a7 1) x1.2.1 x1.2.2 a13 (a15 ++ ([(Member.mk true (Trust.mk x0.1.Threshold x0.1.Nodes x0.1.Inner))] : List Member))
 else
 bif eqB a4 1 then
 Option.bind (z7r a2 a9 a11) fun x2 =>
 Option.bind (z10 12 x2.2.1 x2.2.2) fun x3 =>
 bif eqB x3.1 11 then
 capOk (List.length a15 + List.length ([(Member.mk false (Trust.mk 0 ([] : List Int) ([] : List Trust)))] : List Member)) <|
 z1f a2 a4 (addI .i64 a7 1) x3.2.1 x3.2.2 a13 (a15 ++ ([(Member.mk false (Trust.mk 0 ([] : List Int) ([] : List Trust)))] : List Member))
 else
 capOk (List.length a15 + List.length ([(Member.mk true (Trust.mk x2.1.Threshold x2.1.Nodes x2.1.Inner))] : List Member)) <|
 z1f a2 a4 (addI .i64 a7 1) x3.2.1 x3.2.2 a13 (a15 ++ ([(Member.mk true (Trust.mk x2.1.Threshold x2.1.Nodes x2.1.Inner))] : List Member))
 else
 Option.bind (z7n a2 a7 a9 a11) fun x4 =>
 Option.bind (z10 12 x4.2.1 x4.2.2) fun x5 =>
 bif eqB x5.1 11 then
 capOk (List.length a15 + List.length ([(Member.mk false (Trust.mk 0 ([] : List Int) ([] : List Trust)))] : List Member)) <|
 z1f a2 a4 (addI .i64 a7 1) x5.2.1 x5.2.2 a13 (a15 ++ ([(Member.mk false (Trust.mk 0 ([] : List Int) ([] : List Trust)))] : List Member))
 else
 capOk (List.length a15 + List.length ([(Member.mk true (Trust.mk x4.1.Threshold x4.1.Nodes x4.1.Inner))] : List Member)) <|
 z1f a2 a4 (addI .i64 a7 1) x5.2.1 x5.2.2 a13 (a15 ++ ([(Member.mk true (Trust.mk x4.1.Threshold x4.1.Nodes x4.1.Inner))] : List Member))
 else
 some ((Config.mk a15), a9, a11)
 ) (z1f a2 a4 a7 a9 a11 a13 a15) :=
 gL o12' (q0a Tryz.f36 [1,1,1,1,0,1,0,0])
theorem y2t (n_1 deep_2 : Int) (h0 : List Int) (h1 : Int) : Le (
 Option.bind (z6v n_1 deep_2 h0 h1) fun x0 =>
 Option.bind (z3f x0.1) fun x1 =>
 bif neB x1 0 then
 Option.bind (z10 n_1 x0.2.1 x0.2.2) fun x2 =>
 some ((Trust.mk 1 ([x2.1] : List Int) ([] : List Trust)), x2.2.1, x2.2.2)
 else
 some ((Trust.mk x0.1.Threshold x0.1.Nodes x0.1.Inner), x0.2.1, x0.2.2)
 ) (z79 n_1 deep_2 h0 h1) :=
 cL o4' Tryz.func78
theorem y9h (m_1 : Int) (h0 : List Int) (h1 : Int) : Le (
 z4w m_1 0 h0 h1 0 ([] : List Int) ([] : List Trust) 0 ([] : List Int) ([] : List Trust)
 ) (z7r m_1 h0 h1) :=
 cL o4' Tryz.func79
theorem y5q (m_1 k_2 : Int) (h0 : List Int) (h1 : Int) : Le (
 z2m m_1 k_2 ([] : List Trust) 0 h0 h1 0 ([] : List Int) ([] : List Trust)
 ) (z7n m_1 k_2 h0 h1) :=
 cL o4' Tryz.func80
theorem y0i (n_1 deep_2 : Int) (h0 : List Int) (h1 : Int) : Le (
 Option.bind (z6k n_1 h0 h1) fun x0 =>
 Option.bind (z1a 1 (if 5 < n_1 then 5 else n_1) x0.2.1 x0.2.2) fun x1 =>
 hiK (List.length x0.1) x1.1 fun b2 =>
 z4x n_1 deep_2 (List.drop 0 (List.take b2 x0.1)) ((List.length (List.drop 0 (List.take b2 x0.1)) : Nat) : Int) 0 x1.2.1 x1.2.2 0 ([] : List Int) ([] : List Trust) 0 ([] : List Int) ([] : List Trust)
 ) (z6v n_1 deep_2 h0 h1) :=
 cL o4' Tryz.func110
theorem qs1 (t_0 : Trust) : Le (
 Option.bind (z6p t_0) fun x0 =>
 bif ltB 4 x0 then
 some 3
 else
 Option.bind (z6z t_0) fun x1 =>
 bif ltB 200 x1 then
 some 3
 else
 Option.bind (z40 t_0) fun x2 =>
 some x2
 ) (z3f t_0) :=
 cL o0' Tryz.func87
theorem yaj (n_1 : Int) (h0 : List Int) (h1 : Int) : Le (
 z3q n_1 ([] : List Int) 0 h0 h1
 ) (z6k n_1 h0 h1) :=
 cL o21' Tryz.func131
theorem y87 (t_0 : Trust) : Le (
 z4r 0 t_0.Inner (t_0.Inner.length : Int) 0 t_0.Threshold t_0.Nodes t_0.Inner
 ) (z6p t_0) :=
 cL o0' Tryz.func113
theorem ya1 (t_0 : Trust) : Le (
 z59 (addI .i64 (t_0.Nodes.length : Int) (t_0.Inner.length : Int)) t_0.Inner (t_0.Inner.length : Int) 0 t_0.Threshold t_0.Nodes t_0.Inner
 ) (z6z t_0) :=
 cL o0' Tryz.func114
theorem qqy (t_0 : Trust) : Le (
 bif ltB t_0.Threshold 1 then
 some 4
 else
 bif (ltB (addI .i64 (t_0.Nodes.length : Int) (t_0.Inner.length : Int)) t_0.Threshold) then
 some 4
 else
 z1o t_0.Nodes (t_0.Nodes.length : Int) 0 t_0.Threshold t_0.Nodes t_0.Inner
 ) (z40 t_0) :=
 cL o0' Tryz.func115
theorem y29 (a2 : Int) (a4 : List Int) (a6 a8 : Int) (a10 : List Int) (a12 : List Trust) (a14 : Int) (a16 : List Int) (a18 : List Trust) (a20 : Int) (a22 : List Int) (a24 : List Trust) : Le (
 bif ltB 0 a2 then
 z49 (subI .i64 a2 1) a4 a6 a8 a10 a12 a14 a16 a18 1 ([] : List Int) ([(Trust.mk a20 a22 a24)] : List Trust)
 else
 some ((Trust.mk a20 a22 a24), a4, a6)
 ) (z3d a2 a4 a6 a8 a10 a12 a14 a16 a18 a20 a22 a24) :=
 gL o4' (q0a Tryz.f73 [1,1,0,1,0,1,1,1,1,1,1,1,1,1,0,1,0,1,0,0])
theorem y2n (a2 : List Trust) (a4 : Int) (a6 : List Int) (a8 a10 : Int) (a12 : List Int) (a14 : List Trust) (a16 : Int) (a18 : List Int) (a20 : List Trust) : Le (
 bif ltB 0 a4 then
 capOk (List.length a2 + List.length ([(Trust.mk 1 ([(remI .i64 a4 10)] : List Int) ([] : List Trust))] : List Trust)) <|
 z2u (a2 ++ ([(Trust.mk 1 ([(remI .i64 a4 10)] : List Int) ([] : List Trust))] : List Trust)) (subI .i64 a4 1) a6 a8 a10 a12 a14 a16 a18 a20
 else
 capOk (List.length a2 + List.length a14) <|
 some ((Trust.mk a10 a12 (a2 ++ a14)), a6, a8)
 ) (z2u a2 a4 a6 a8 a10 a12 a14 a16 a18 a20) :=
 gL o4' (q0a Tryz.f73 [1,1,0,1,0,1,1,1,1,1,1,1,1,1,1,1,0,1,0,0])
theorem y2q (a1 : Int) (a3 : List Int) (a5 a7 : Int) (a9 a11 : List Member) : Le (
 bif ltB a7 a5 then
 nth a3 a7 fun y0 =>
 z5w (andI .i64 a1 y0) a3 a5 (addI .i64 a7 1) a9 a11
 else
 Option.bind (z29 (Config.mk a9)) fun x1 =>
 some ((q1w .i64 x1 a1), true, 0)
 ) (z5w a1 a3 a5 a7 a9 a11) :=
 gL o10' (q0a Tryz.f41 [1,1,1,1,1,1,0,1,0,0])
theorem y3n (a0 : Int) (a2 : List Member) (a4 a6 : Int) (a8 : List Member) : Le (
 bif ltB a6 a4 then
 nth a2 a6 fun y0 =>
 bif ltB a6 10 then
 bif y0.Declared then
 chk (0 <= a6) <|
 z26 (orI .i64 a0 (shlI .i64 1 a6)) a2 a4 (addI .i64 a6 1) a8
 else
 z26 a0 a2 a4 (addI .i64 a6 1) a8
 else
 z26 a0 a2 a4 (addI .i64 a6 1) a8
 else
 some a0
 ) (z26 a0 a2 a4 a6 a8) :=
 gL o0' (q0a Tryz.f40 [1,1,0,1,0,0])
theorem y7p (a1 : Int) (a3 : List Int) (a5 : Bool) (a7 : List Member) : Le (
 bif a5 then
 Option.bind (z5i a1) fun x0 =>
 z20 a1 a3 false x0 (x0.length : Int) 0 a7
 else
 some a3
 ) (z2f a1 a3 a5 a7) :=
 gL o2' (q0a Tryz.f54 [1,1,1,1,0,1,0,0])
theorem y0y (a0 : Int) (a2 : List Int) (a4 : Int) : Le (
 Option.bind (z70 a0) fun x0 =>
 bif leB a4 x0 then
 Option.bind (z1t a0) fun x1 =>
 bif x1 then
 z2h a0 a2 a4 0
 else
 some a2
 else
 some a2
 ) (z2z a0 a2 a4) :=
 gL o2' (q0a Tryz.f46 [1,1,0,1,0,0])
theorem y9t (s_0 : Int) : Le (
 z5a s_0 0 0
 ) (z70 s_0) :=
 cL o0' Tryz.func84
theorem y19 (a1 : List Member) (a3 a5 : Int) (a7 : List Member) : Le (
 bif ltB a5 a3 then
 nth a1 a5 fun y0 =>
 bif !y0.Declared then
 Option.bind (z5g y0.Trust (Trust.mk 0 ([] : List Int) ([] : List Trust))) fun x1 =>
 bif !x1 then
 some 1
 else
 z3w a1 a3 (addI .i64 a5 1) a7
 else
 Option.bind (z3f y0.Trust) fun x2 =>
 bif neB x2 0 then
 some x2
 else
 chk (0 <= (a7.length : Int)) <|
 Option.bind (z71 y0.Trust) fun x3 =>
 bif (leB (shlI .i64 1 (a7.length : Int)) x3) then
 some 5
 else
 z3w a1 a3 (addI .i64 a5 1) a7
 else
 some 0
 ) (z3w a1 a3 a5 a7) :=
 gL o0' (q0a Tryz.f49 [1,1,0,1,0,0])
theorem qs4 (a_0 b_1 : Trust) : Le (
 bif neB a_0.Threshold b_1.Threshold then
 some false
 else
 Option.bind (z72 a_0.Nodes b_1.Nodes) fun x0 =>
 bif !x0 then
 some false
 else
 bif (neB (a_0.Inner.length : Int) (b_1.Inner.length : Int)) then
 some false
 else
 z3k (a_0.Inner.length : Int) 0 a_0.Threshold a_0.Nodes a_0.Inner b_1.Threshold b_1.Nodes b_1.Inner
 ) (z5g a_0 b_1) :=
 cL o1' Tryz.func86
theorem yax (t_0 : Trust) : Le (
 z34 0 t_0.Nodes (t_0.Nodes.length : Int) 0 t_0.Threshold t_0.Nodes t_0.Inner
 ) (z71 t_0) :=
 cL o0' Tryz.func88
theorem y1h (a_0 b_1 : List Int) : Le (
 bif (neB (a_0.length : Int) (b_1.length : Int)) then
 some false
 else
 z4l a_0 b_1 (a_0.length : Int) 0
 ) (z72 a_0 b_1) :=
 cL o1' Tryz.func112
theorem y3a (a0 : Int) (a4 : List Member) (a6 a8 : Int) (a10 a12 a14 : List Member) : Le (
 bif ltB a8 a6 then
 nth a4 a8 fun y0 =>
 Option.bind (z2y a0 a8) fun x1 =>
 bif x1 then
 capOk (List.length a14 + List.length ([(Member.mk false (Trust.mk 0 ([] : List Int) ([] : List Trust)))] : List Member)) <|
 z2b a0 a4 a6 (addI .i64 a8 1) a10 a12 (a14 ++ ([(Member.mk false (Trust.mk 0 ([] : List Int) ([] : List Trust)))] : List Member))
 else
 bif y0.Declared then
 Option.bind (z76 y0.Trust a8 a0) fun x2 =>
 capOk (List.length a14 + List.length ([(Member.mk y0.Declared (Trust.mk x2.Threshold x2.Nodes x2.Inner))] : List Member)) <|
 z2b a0 a4 a6 (addI .i64 a8 1) a10 a12 (a14 ++ ([(Member.mk y0.Declared (Trust.mk x2.Threshold x2.Nodes x2.Inner))] : List Member))
 else
 capOk (List.length a14 + List.length ([(Member.mk y0.Declared (Trust.mk y0.Trust.Threshold y0.Trust.Nodes y0.Trust.Inner))] : List Member)) <|
 z2b a0 a4 a6 (addI .i64 a8 1) a10 a12 (a14 ++ ([(Member.mk y0.Declared (Trust.mk y0.Trust.Threshold y0.Trust.Nodes y0.Trust.Inner))] : List Member))
 else
 some (Config.mk a14)
 ) (z2b a0 a4 a6 a8 a10 a12 a14) :=
 gL o9' (q0a Tryz.f52 [1,1,1,0,1,0,0])
theorem ya8 (t_0 : Trust) (node_1 s_2 : Int) : Le (
 Option.bind (z1t s_2) fun x0 =>
 bif !x0 then
 some (Trust.mk t_0.Threshold t_0.Nodes t_0.Inner)
 else
 Option.bind (z73 t_0 s_2) fun x1 =>
 bif leB x1.Threshold 0 then
 some (Trust.mk 1 ([node_1] : List Int) ([] : List Trust))
 else
 some (Trust.mk x1.Threshold x1.Nodes x1.Inner)
 ) (z76 t_0 node_1 s_2) :=
 cL o6' Tryz.func90
theorem yat (t_0 : Trust) (s_1 : Int) : Le (
 z4m s_1 t_0.Nodes (t_0.Nodes.length : Int) 0 t_0.Threshold t_0.Nodes t_0.Inner 0 ([] : List Int) ([] : List Trust) t_0.Threshold ([] : List Int) ([] : List Trust)
 ) (z73 t_0 s_1) :=
 cL o6' Tryz.func117
end Go.Proofs.YtjfhnffdijlboaaGreat
