/- What the functions come to, printed by a program and checked by the kernel. -/
import Derived.Test.YtbmelgbadedbbaaGreatP14Df
namespace Go.Proofs.YtbmelgbadedbbaaGreat
open Go Go.Ab
set_option maxRecDepth 100000
theorem qzv (a2 : Bool) (a4 : List Int) (a6 : Int) (a8 a10 a12 : List Member) : Le (
 bif (leB ((List.length a12 : Nat) : Int) 10) then
 capOk (List.length a12 + List.length ([(Member.mk false (Trust.mk 0 ([] : List (Int)) ([] : List (Trust))))] : List (Member))) <|
 z3e a4 a6 a8 a10 (a12 ++ ([(Member.mk false (Trust.mk 0 ([] : List (Int)) ([] : List (Trust))))] : List (Member)))
 else
 some ((Config.mk a12), a4, a6)
 ) (z3d a2 a4 a6 a8 a10 a12) :=
 gL o14' (q01 Tryz.f21 [1,1,1,1,0,1,0,1,1,1,1,1,1,1,1,0,0])
theorem y0r (a0 : Int) (a5 : List Int) (a7 a9 : Int) (a11 a13 : List Member) (a15 a17 a19 : Int) : Le (
 bif (ltB a9 a7) then
 nth a5 a9 fun y0 =>
 Option.bind (z43 (Config.mk a13) y0 a0) fun x1 =>
 bif x1 then
 some ((Refutation.mk y0 0 0), 0)
 else
 z23 a0 a5 a7 (addI .i64 a9 1) a11 a13 a15 a17 a19
 else
 Option.bind (z3r (Config.mk a11) a0) fun x2 =>
 Option.bind (z3h x2) fun x3 =>
 bif (neB x3.2.2 0) then
 some ((Refutation.mk 0 0 0), x3.2.2)
 else
 some ((Refutation.mk (-1) x3.1 x3.2.1), 0)
 ) (z23 a0 a5 a7 a9 a11 a13 a15 a17 a19) :=
 gL o17' (q01 Tryz.f17 [1,1,0,1,0,0])
theorem y6c (c_0 : Config) : Le (
 Option.bind (z1q c_0) fun x0 =>
 bif (neB x0 0) then
 some (0, 0, x0)
 else
 Option.bind (z45 c_0) fun x1 =>
 bif (eqB x1.1 0) then
 some (0, 0, 11)
 else
 some (x1.1, x1.2, 0)
 ) (z3h c_0) :=
 cL o22' Tryz.func52
theorem qqs (a2 a4 a7 : Int) (a9 : List Int) (a11 : Int) (a13 a15 : List Member) : Le (
 bif (ltB a7 a2) then
 bif (eqB a4 0) then
 Option.bind (z6f a2 2 a9 a11) fun x0 =>
 Option.bind (z11 12 x0.2.1 x0.2.2) fun x1 =>
 bif (eqB x1.1 11) then
 capOk (List.length a15 + List.length ([(Member.mk false (Trust.mk 0 ([] : List (Int)) ([] : List (Trust))))] : List (Member))) <|
 z1f a2 a4 (addI .i64 a7 1) x1.2.1 x1.2.2 a13 (a15 ++ ([(Member.mk false (Trust.mk 0 ([] : List (Int)) ([] : List (Trust))))] : List (Member)))
 else
 capOk (List.length a15 + List.length ([(Member.mk true (Trust.mk x0.1.Threshold x0.1.Nodes x0.1.Inner))] : List (Member))) <|
 z1f a2 a4 (addI .i64 a7 1) x1.2.1 x1.2.2 a13 (a15 ++ ([(Member.mk true (Trust.mk x0.1.Threshold x0.1.Nodes x0.1.Inner))] : List (Member)))
 else
 bif (eqB a4 1) then
 Option.bind (z6w a2 a9 a11) fun x2 =>
 Option.bind (z11 12 x2.2.1 x2.2.2) fun x3 =>
 bif (eqB x3.1 11) then
 capOk (List.length a15 + List.length ([(Member.mk false (Trust.mk 0 ([] : List (Int)) ([] : List (Trust))))] : List (Member))) <|
 z1f a2 a4 (addI .i64 a7 1) x3.2.1 x3.2.2 a13 (a15 ++ ([(Member.mk false (Trust.mk 0 ([] : List (Int)) ([] : List (Trust))))] : List (Member)))
 else
 capOk (List.length a15 + List.length ([(Member.mk true (Trust.mk x2.1.Threshold x2.1.Nodes x2.1.Inner))] : List (Member))) <|
 z1f a2 a4 (addI .i64 a7 1) x3.2.1 x3.2.2 a13 (a15 ++ ([(Member.mk true (Trust.mk x2.1.Threshold x2.1.Nodes x2.1.Inner))] : List (Member)))
 else
 Option.bind (z6t a2 a7 a9 a11) fun x4 =>
 Option.bind (z11 12 x4.2.1 x4.2.2) fun x5 =>
 bif (eqB x5.1 11) then
 capOk (List.length a15 + List.length ([(Member.mk false (Trust.mk 0 ([] : List (Int)) ([] : List (Trust))))] : List (Member))) <|
 z1f a2 a4 (addI .i64 a7 1) x5.2.1 x5.2.2 a13 (a15 ++ ([(Member.mk false (Trust.mk 0 ([] : List (Int)) ([] : List (Trust))))] : List (Member)))
 else
 capOk (List.length a15 + List.length ([(Member.mk true (Trust.mk x4.1.Threshold x4.1.Nodes x4.1.Inner))] : List (Member))) <|
 z1f a2 a4 (addI .i64 a7 1) x5.2.1 x5.2.2 a13 (a15 ++ ([(Member.mk true (Trust.mk x4.1.Threshold x4.1.Nodes x4.1.Inner))] : List (Member)))
 else
 some ((Config.mk a15), a9, a11)
 ) (z1f a2 a4 a7 a9 a11 a13 a15) :=
 gL o14' (q01 Tryz.f35 [1,1,1,1,0,1,0,0])
theorem y0y (n_1 deep_2 : Int) (h0 : List Int) (h1 : Int) : Le (
 Option.bind (z62 n_1 deep_2 h0 h1) fun x0 =>
 Option.bind (z36 x0.1) fun x1 =>
 bif (neB x1 0) then
 Option.bind (z11 n_1 x0.2.1 x0.2.2) fun x2 =>
 some ((Trust.mk 1 ([x2.1] : List (Int)) ([] : List (Trust))), x2.2.1, x2.2.2)
 else
 some ((Trust.mk x0.1.Threshold x0.1.Nodes x0.1.Inner), x0.2.1, x0.2.2)
 ) (z6f n_1 deep_2 h0 h1) :=
 cL o5' Tryz.func73
theorem y65 (m_1 : Int) (h0 : List Int) (h1 : Int) : Le (
 z4j m_1 0 h0 h1 0 ([] : List (Int)) ([] : List (Trust)) 0 ([] : List (Int)) ([] : List (Trust))
 ) (z6w m_1 h0 h1) :=
 cL o5' Tryz.func74
theorem y69 (m_1 k_2 : Int) (h0 : List Int) (h1 : Int) : Le (
 z2i m_1 k_2 ([] : List (Trust)) 0 h0 h1 0 ([] : List (Int)) ([] : List (Trust))
 ) (z6t m_1 k_2 h0 h1) :=
 cL o5' Tryz.func75
theorem y04 (n_1 deep_2 : Int) (h0 : List Int) (h1 : Int) : Le (
 Option.bind (z5v n_1 h0 h1) fun x0 =>
 Option.bind (z19 1 (if 5 < n_1 then 5 else n_1) x0.2.1 x0.2.2) fun x1 =>
 hiK (List.length x0.1) x1.1 fun b2 =>
 z4k n_1 deep_2 (List.drop 0 (List.take b2 x0.1)) ((List.length (List.drop 0 (List.take b2 x0.1)) : Nat) : Int) 0 x1.2.1 x1.2.2 0 ([] : List (Int)) ([] : List (Trust)) 0 ([] : List (Int)) ([] : List (Trust))
 ) (z62 n_1 deep_2 h0 h1) :=
 cL o5' Tryz.func97
theorem qqf (t_0 : Trust) : Le (
 Option.bind (z5z t_0) fun x0 =>
 bif (ltB 4 x0) then
 some 3
 else
 Option.bind (z66 t_0) fun x1 =>
 bif (ltB 200 x1) then
 some 3
 else
 Option.bind (z3o t_0) fun x2 =>
 some x2
 ) (z36 t_0) :=
 cL o0' Tryz.func91
theorem y6u (n_1 : Int) (h0 : List Int) (h1 : Int) : Le (
 z3f n_1 ([] : List (Int)) 0 h0 h1
 ) (z5v n_1 h0 h1) :=
 cL o21' Tryz.func120
theorem y60 (t_0 : Trust) : Le (
 z4f 0 t_0.Inner ((List.length t_0.Inner : Nat) : Int) 0 t_0.Threshold t_0.Nodes t_0.Inner
 ) (z5z t_0) :=
 cL o0' Tryz.func115
theorem y4x (t_0 : Trust) : Le (
 z4s (addI .i64 ((List.length t_0.Nodes : Nat) : Int) ((List.length t_0.Inner : Nat) : Int)) t_0.Inner ((List.length t_0.Inner : Nat) : Int) 0 t_0.Threshold t_0.Nodes t_0.Inner
 ) (z66 t_0) :=
 cL o0' Tryz.func116
theorem qq2 (t_0 : Trust) : Le (
 bif (ltB t_0.Threshold 1) then
 some 4
 else
 bif (ltB (addI .i64 ((List.length t_0.Nodes : Nat) : Int) ((List.length t_0.Inner : Nat) : Int)) t_0.Threshold) then
 some 4
 else
 z1m t_0.Nodes ((List.length t_0.Nodes : Nat) : Int) 0 t_0.Threshold t_0.Nodes t_0.Inner
 ) (z3o t_0) :=
 cL o0' Tryz.func117
theorem y1z (a0 : Int) (a2 : List Int) (a4 : Int) : Le (
 Option.bind (z1o a0) fun x0 =>
 bif x0 then
 bif (leB a4 a0) then
 bif (eqB (q40 .i64 a4 a0) 0) then
 capOk (List.length a2 + List.length ([a4] : List (Int))) <|
 z27 a0 (a2 ++ ([a4] : List (Int))) (addI .i64 a4 1)
 else
 z27 a0 a2 (addI .i64 a4 1)
 else
 Option.bind (z0j a2) fun x1 =>
 some x1
 else
 Option.bind (z0j a2) fun x2 =>
 some x2
 ) (z27 a0 a2 a4) :=
 gL o3' (q01 Tryz.f41 [1,1,0,1,0,0])
theorem y72 (h0 : List Int) : Le (
 Option.bind (z6m (IntKind.wrap .u64 ((List.length h0 : Nat) : Int))) fun x0 =>
 Option.bind (z01 0 ((List.length h0 : Nat) : Int) x0 h0) fun x1 =>
 some x1
 ) (z0j h0) :=
 cL o2' Tryz.func78
theorem y5r (x_0 : Int) : Le (
 Option.bind (z6j x_0) fun x0 =>
 some x0
 ) (z6m x_0) :=
 cL o0' Tryz.func101
theorem y1q (a_1 b_2 limit_3 : Int) (h0 : List Int) : Le (
 z00 a_1 b_2 limit_3 true true h0
 ) (z01 a_1 b_2 limit_3 h0) :=
 cL o2' Tryz.func100
theorem y3p (x_0 : Int) : Le (
 bif (leB 4294967296 x_0) then
 bif (leB 65536 (shrI .u64 x_0 32)) then
 bif (leB 256 (shrI .u64 (shrI .u64 x_0 32) 16)) then
 nth ([0, 1, 2, 2, 3, 3, 3, 3, 4, 4, 4, 4, 4, 4, 4, 4, 5, 5, 5, 5, 5, 5, 5, 5, 5, 5, 5, 5, 5, 5, 5, 5, 6, 6, 6, 6, 6, 6, 6, 6, 6, 6, 6, 6, 6, 6, 6, 6, 6, 6, 6, 6, 6, 6, 6, 6, 6, 6, 6, 6, 6, 6, 6, 6, 7, 7, 7, 7, 7, 7, 7, 7, 7, 7, 7, 7, 7, 7, 7, 7, 7, 7, 7, 7, 7, 7, 7, 7, 7, 7, 7, 7, 7, 7, 7, 7, 7, 7, 7, 7, 7, 7, 7, 7, 7, 7, 7, 7, 7, 7, 7, 7, 7, 7, 7, 7, 7, 7, 7, 7, 7, 7, 7, 7, 7, 7, 7, 7, 8, 8, 8, 8, 8, 8, 8, 8, 8, 8, 8, 8, 8, 8, 8, 8, 8, 8, 8, 8, 8, 8, 8, 8, 8, 8, 8, 8, 8, 8, 8, 8, 8, 8, 8, 8, 8, 8, 8, 8, 8, 8, 8, 8, 8, 8, 8, 8, 8, 8, 8, 8, 8, 8, 8, 8, 8, 8, 8, 8, 8, 8, 8, 8, 8, 8, 8, 8, 8, 8, 8, 8, 8, 8, 8, 8, 8, 8, 8, 8, 8, 8, 8, 8, 8, 8, 8, 8, 8, 8, 8, 8, 8, 8, 8, 8, 8, 8, 8, 8, 8, 8, 8, 8, 8, 8, 8, 8, 8, 8, 8, 8, 8, 8, 8, 8, 8, 8, 8, 8, 8, 8, 8, 8, 8, 8, 8, 8] : List UInt8) (IntKind.wrap .u8 (shrI .u64 (shrI .u64 (shrI .u64 x_0 32) 16) 8)) fun y0 =>
 some (addI .i64 56 (IntKind.wrap .i64 ((y0.toNat : Nat) : Int)))
 else
 nth ([0, 1, 2, 2, 3, 3, 3, 3, 4, 4, 4, 4, 4, 4, 4, 4, 5, 5, 5, 5, 5, 5, 5, 5, 5, 5, 5, 5, 5, 5, 5, 5, 6, 6, 6, 6, 6, 6, 6, 6, 6, 6, 6, 6, 6, 6, 6, 6, 6, 6, 6, 6, 6, 6, 6, 6, 6, 6, 6, 6, 6, 6, 6, 6, 7, 7, 7, 7, 7, 7, 7, 7, 7, 7, 7, 7, 7, 7, 7, 7, 7, 7, 7, 7, 7, 7, 7, 7, 7, 7, 7, 7, 7, 7, 7, 7, 7, 7, 7, 7, 7, 7, 7, 7, 7, 7, 7, 7, 7, 7, 7, 7, 7, 7, 7, 7, 7, 7, 7, 7, 7, 7, 7, 7, 7, 7, 7, 7, 8, 8, 8, 8, 8, 8, 8, 8, 8, 8, 8, 8, 8, 8, 8, 8, 8, 8, 8, 8, 8, 8, 8, 8, 8, 8, 8, 8, 8, 8, 8, 8, 8, 8, 8, 8, 8, 8, 8, 8, 8, 8, 8, 8, 8, 8, 8, 8, 8, 8, 8, 8, 8, 8, 8, 8, 8, 8, 8, 8, 8, 8, 8, 8, 8, 8, 8, 8, 8, 8, 8, 8, 8, 8, 8, 8, 8, 8, 8, 8, 8, 8, 8, 8, 8, 8, 8, 8, 8, 8, 8, 8, 8, 8, 8, 8, 8, 8, 8, 8, 8, 8, 8, 8, 8, 8, 8, 8, 8, 8, 8, 8, 8, 8, 8, 8, 8, 8, 8, 8, 8, 8, 8, 8, 8, 8, 8, 8] : List UInt8) (IntKind.wrap .u8 (shrI .u64 (shrI .u64 x_0 32) 16)) fun y1 =>
 some (addI .i64 48 (IntKind.wrap .i64 ((y1.toNat : Nat) : Int)))
 else
 bif (leB 256 (shrI .u64 x_0 32)) then
 nth ([0, 1, 2, 2, 3, 3, 3, 3, 4, 4, 4, 4, 4, 4, 4, 4, 5, 5, 5, 5, 5, 5, 5, 5, 5, 5, 5, 5, 5, 5, 5, 5, 6, 6, 6, 6, 6, 6, 6, 6, 6, 6, 6, 6, 6, 6, 6, 6, 6, 6, 6, 6, 6, 6, 6, 6, 6, 6, 6, 6, 6, 6, 6, 6, 7, 7, 7, 7, 7, 7, 7, 7, 7, 7, 7, 7, 7, 7, 7, 7, 7, 7, 7, 7, 7, 7, 7, 7, 7, 7, 7, 7, 7, 7, 7, 7, 7, 7, 7, 7, 7, 7, 7, 7, 7, 7, 7, 7, 7, 7, 7, 7, 7, 7, 7, 7, 7, 7, 7, 7, 7, 7, 7, 7, 7, 7, 7, 7, 8, 8, 8, 8, 8, 8, 8, 8, 8, 8, 8, 8, 8, 8, 8, 8, 8, 8, 8, 8, 8, 8, 8, 8, 8, 8, 8, 8, 8, 8, 8, 8, 8, 8, 8, 8, 8, 8, 8, 8, 8, 8, 8, 8, 8, 8, 8, 8, 8, 8, 8, 8, 8, 8, 8, 8, 8, 8, 8, 8, 8, 8, 8, 8, 8, 8, 8, 8, 8, 8, 8, 8, 8, 8, 8, 8, 8, 8, 8, 8, 8, 8, 8, 8, 8, 8, 8, 8, 8, 8, 8, 8, 8, 8, 8, 8, 8, 8, 8, 8, 8, 8, 8, 8, 8, 8, 8, 8, 8, 8, 8, 8, 8, 8, 8, 8, 8, 8, 8, 8, 8, 8, 8, 8, 8, 8, 8, 8] : List UInt8) (IntKind.wrap .u8 (shrI .u64 (shrI .u64 x_0 32) 8)) fun y2 =>
 some (addI .i64 40 (IntKind.wrap .i64 ((y2.toNat : Nat) : Int)))
 else
 nth ([0, 1, 2, 2, 3, 3, 3, 3, 4, 4, 4, 4, 4, 4, 4, 4, 5, 5, 5, 5, 5, 5, 5, 5, 5, 5, 5, 5, 5, 5, 5, 5, 6, 6, 6, 6, 6, 6, 6, 6, 6, 6, 6, 6, 6, 6, 6, 6, 6, 6, 6, 6, 6, 6, 6, 6, 6, 6, 6, 6, 6, 6, 6, 6, 7, 7, 7, 7, 7, 7, 7, 7, 7, 7, 7, 7, 7, 7, 7, 7, 7, 7, 7, 7, 7, 7, 7, 7, 7, 7, 7, 7, 7, 7, 7, 7, 7, 7, 7, 7, 7, 7, 7, 7, 7, 7, 7, 7, 7, 7, 7, 7, 7, 7, 7, 7, 7, 7, 7, 7, 7, 7, 7, 7, 7, 7, 7, 7, 8, 8, 8, 8, 8, 8, 8, 8, 8, 8, 8, 8, 8, 8, 8, 8, 8, 8, 8, 8, 8, 8, 8, 8, 8, 8, 8, 8, 8, 8, 8, 8, 8, 8, 8, 8, 8, 8, 8, 8, 8, 8, 8, 8, 8, 8, 8, 8, 8, 8, 8, 8, 8, 8, 8, 8, 8, 8, 8, 8, 8, 8, 8, 8, 8, 8, 8, 8, 8, 8, 8, 8, 8, 8, 8, 8, 8, 8, 8, 8, 8, 8, 8, 8, 8, 8, 8, 8, 8, 8, 8, 8, 8, 8, 8, 8, 8, 8, 8, 8, 8, 8, 8, 8, 8, 8, 8, 8, 8, 8, 8, 8, 8, 8, 8, 8, 8, 8, 8, 8, 8, 8, 8, 8, 8, 8, 8, 8] : List UInt8) (IntKind.wrap .u8 (shrI .u64 x_0 32)) fun y3 =>
 some (addI .i64 32 (IntKind.wrap .i64 ((y3.toNat : Nat) : Int)))
 else
 bif (leB 65536 x_0) then
 bif (leB 256 (shrI .u64 x_0 16)) then
 nth ([0, 1, 2, 2, 3, 3, 3, 3, 4, 4, 4, 4, 4, 4, 4, 4, 5, 5, 5, 5, 5, 5, 5, 5, 5, 5, 5, 5, 5, 5, 5, 5, 6, 6, 6, 6, 6, 6, 6, 6, 6, 6, 6, 6, 6, 6, 6, 6, 6, 6, 6, 6, 6, 6, 6, 6, 6, 6, 6, 6, 6, 6, 6, 6, 7, 7, 7, 7, 7, 7, 7, 7, 7, 7, 7, 7, 7, 7, 7, 7, 7, 7, 7, 7, 7, 7, 7, 7, 7, 7, 7, 7, 7, 7, 7, 7, 7, 7, 7, 7, 7, 7, 7, 7, 7, 7, 7, 7, 7, 7, 7, 7, 7, 7, 7, 7, 7, 7, 7, 7, 7, 7, 7, 7, 7, 7, 7, 7, 8, 8, 8, 8, 8, 8, 8, 8, 8, 8, 8, 8, 8, 8, 8, 8, 8, 8, 8, 8, 8, 8, 8, 8, 8, 8, 8, 8, 8, 8, 8, 8, 8, 8, 8, 8, 8, 8, 8, 8, 8, 8, 8, 8, 8, 8, 8, 8, 8, 8, 8, 8, 8, 8, 8, 8, 8, 8, 8, 8, 8, 8, 8, 8, 8, 8, 8, 8, 8, 8, 8, 8, 8, 8, 8, 8, 8, 8, 8, 8, 8, 8, 8, 8, 8, 8, 8, 8, 8, 8, 8, 8, 8, 8, 8, 8, 8, 8, 8, 8, 8, 8, 8, 8, 8, 8, 8, 8, 8, 8, 8, 8, 8, 8, 8, 8, 8, 8, 8, 8, 8, 8, 8, 8, 8, 8, 8, 8] : List UInt8) (IntKind.wrap .u8 (shrI .u64 (shrI .u64 x_0 16) 8)) fun y4 =>
 some (addI .i64 24 (IntKind.wrap .i64 ((y4.toNat : Nat) : Int)))
 else
 nth ([0, 1, 2, 2, 3, 3, 3, 3, 4, 4, 4, 4, 4, 4, 4, 4, 5, 5, 5, 5, 5, 5, 5, 5, 5, 5, 5, 5, 5, 5, 5, 5, 6, 6, 6, 6, 6, 6, 6, 6, 6, 6, 6, 6, 6, 6, 6, 6, 6, 6, 6, 6, 6, 6, 6, 6, 6, 6, 6, 6, 6, 6, 6, 6, 7, 7, 7, 7, 7, 7, 7, 7, 7, 7, 7, 7, 7, 7, 7, 7, 7, 7, 7, 7, 7, 7, 7, 7, 7, 7, 7, 7, 7, 7, 7, 7, 7, 7, 7, 7, 7, 7, 7, 7, 7, 7, 7, 7, 7, 7, 7, 7, 7, 7, 7, 7, 7, 7, 7, 7, 7, 7, 7, 7, 7, 7, 7, 7, 8, 8, 8, 8, 8, 8, 8, 8, 8, 8, 8, 8, 8, 8, 8, 8, 8, 8, 8, 8, 8, 8, 8, 8, 8, 8, 8, 8, 8, 8, 8, 8, 8, 8, 8, 8, 8, 8, 8, 8, 8, 8, 8, 8, 8, 8, 8, 8, 8, 8, 8, 8, 8, 8, 8, 8, 8, 8, 8, 8, 8, 8, 8, 8, 8, 8, 8, 8, 8, 8, 8, 8, 8, 8, 8, 8, 8, 8, 8, 8, 8, 8, 8, 8, 8, 8, 8, 8, 8, 8, 8, 8, 8, 8, 8, 8, 8, 8, 8, 8, 8, 8, 8, 8, 8, 8, 8, 8, 8, 8, 8, 8, 8, 8, 8, 8, 8, 8, 8, 8, 8, 8, 8, 8, 8, 8, 8, 8] : List UInt8) (IntKind.wrap .u8 (shrI .u64 x_0 16)) fun y5 =>
 some (addI .i64 16 (IntKind.wrap .i64 ((y5.toNat : Nat) : Int)))
 else
 bif (leB 256 x_0) then
 nth ([0, 1, 2, 2, 3, 3, 3, 3, 4, 4, 4, 4, 4, 4, 4, 4, 5, 5, 5, 5, 5, 5, 5, 5, 5, 5, 5, 5, 5, 5, 5, 5, 6, 6, 6, 6, 6, 6, 6, 6, 6, 6, 6, 6, 6, 6, 6, 6, 6, 6, 6, 6, 6, 6, 6, 6, 6, 6, 6, 6, 6, 6, 6, 6, 7, 7, 7, 7, 7, 7, 7, 7, 7, 7, 7, 7, 7, 7, 7, 7, 7, 7, 7, 7, 7, 7, 7, 7, 7, 7, 7, 7, 7, 7, 7, 7, 7, 7, 7, 7, 7, 7, 7, 7, 7, 7, 7, 7, 7, 7, 7, 7, 7, 7, 7, 7, 7, 7, 7, 7, 7, 7, 7, 7, 7, 7, 7, 7, 8, 8, 8, 8, 8, 8, 8, 8, 8, 8, 8, 8, 8, 8, 8, 8, 8, 8, 8, 8, 8, 8, 8, 8, 8, 8, 8, 8, 8, 8, 8, 8, 8, 8, 8, 8, 8, 8, 8, 8, 8, 8, 8, 8, 8, 8, 8, 8, 8, 8, 8, 8, 8, 8, 8, 8, 8, 8, 8, 8, 8, 8, 8, 8, 8, 8, 8, 8, 8, 8, 8, 8, 8, 8, 8, 8, 8, 8, 8, 8, 8, 8, 8, 8, 8, 8, 8, 8, 8, 8, 8, 8, 8, 8, 8, 8, 8, 8, 8, 8, 8, 8, 8, 8, 8, 8, 8, 8, 8, 8, 8, 8, 8, 8, 8, 8, 8, 8, 8, 8, 8, 8, 8, 8, 8, 8, 8, 8] : List UInt8) (IntKind.wrap .u8 (shrI .u64 x_0 8)) fun y6 =>
 some (addI .i64 8 (IntKind.wrap .i64 ((y6.toNat : Nat) : Int)))
 else
 nth ([0, 1, 2, 2, 3, 3, 3, 3, 4, 4, 4, 4, 4, 4, 4, 4, 5, 5, 5, 5, 5, 5, 5, 5, 5, 5, 5, 5, 5, 5, 5, 5, 6, 6, 6, 6, 6, 6, 6, 6, 6, 6, 6, 6, 6, 6, 6, 6, 6, 6, 6, 6, 6, 6, 6, 6, 6, 6, 6, 6, 6, 6, 6, 6, 7, 7, 7, 7, 7, 7, 7, 7, 7, 7, 7, 7, 7, 7, 7, 7, 7, 7, 7, 7, 7, 7, 7, 7, 7, 7, 7, 7, 7, 7, 7, 7, 7, 7, 7, 7, 7, 7, 7, 7, 7, 7, 7, 7, 7, 7, 7, 7, 7, 7, 7, 7, 7, 7, 7, 7, 7, 7, 7, 7, 7, 7, 7, 7, 8, 8, 8, 8, 8, 8, 8, 8, 8, 8, 8, 8, 8, 8, 8, 8, 8, 8, 8, 8, 8, 8, 8, 8, 8, 8, 8, 8, 8, 8, 8, 8, 8, 8, 8, 8, 8, 8, 8, 8, 8, 8, 8, 8, 8, 8, 8, 8, 8, 8, 8, 8, 8, 8, 8, 8, 8, 8, 8, 8, 8, 8, 8, 8, 8, 8, 8, 8, 8, 8, 8, 8, 8, 8, 8, 8, 8, 8, 8, 8, 8, 8, 8, 8, 8, 8, 8, 8, 8, 8, 8, 8, 8, 8, 8, 8, 8, 8, 8, 8, 8, 8, 8, 8, 8, 8, 8, 8, 8, 8, 8, 8, 8, 8, 8, 8, 8, 8, 8, 8, 8, 8, 8, 8, 8, 8, 8, 8] : List UInt8) (IntKind.wrap .u8 x_0) fun y7 =>
 some (addI .i64 0 (IntKind.wrap .i64 ((y7.toNat : Nat) : Int)))
 ) (z6j x_0) :=
 cL o0' Tryz.func131
theorem ql3 (a2 : Int) (a4 a6 : List Member) : Le (
 bif (ltB a2 4) then
 capOk (List.length a6 + List.length ([(Member.mk true (Trust.mk 3 ([0, 1, 2, 3] : List (Int)) ([] : List (Trust))))] : List (Member))) <|
 z39 (addI .i64 a2 1) a4 (a6 ++ ([(Member.mk true (Trust.mk 3 ([0, 1, 2, 3] : List (Int)) ([] : List (Trust))))] : List (Member)))
 else
 some (Config.mk a6)
 ) (z39 a2 a4 a6) :=
 gL o6' (q01 Tryz.f47 [1,1,0,1,0,0])
theorem quu (a0 a2 : List Int) (a4 a6 : Int) : Le (
 bif (ltB a6 a4) then
 nth a0 a6 fun y0 =>
 nth a2 a6 fun y1 =>
 bif (neB y0 y1) then
 some false
 else
 z5g a0 a2 a4 (addI .i64 a6 1)
 else
 some true
 ) (z5g a0 a2 a4 a6) :=
 gL o1' (q01 Tryz.f30 [1,1,0,1,0,0])
theorem qzq (a2 : Int) (a4 : List Int) (a6 a8 : Int) (a10 : List Int) (a12 : List Trust) (a14 : Int) (a16 : List Int) (a18 : List Trust) (a20 : Int) (a22 : List Int) (a24 : List Trust) : Le (
 bif (ltB 0 a2) then
 z3w (subI .i64 a2 1) a4 a6 a8 a10 a12 a14 a16 a18 1 ([] : List (Int)) ([(Trust.mk a20 a22 a24)] : List (Trust))
 else
 some ((Trust.mk a20 a22 a24), a4, a6)
 ) (z34 a2 a4 a6 a8 a10 a12 a14 a16 a18 a20 a22 a24) :=
 gL o5' (q01 Tryz.f57 [1,1,0,1,0,1,1,1,1,1,1,1,1,1,0,1,0,1,0,0])
theorem y00 (a2 : List Trust) (a4 : Int) (a6 : List Int) (a8 a10 : Int) (a12 : List Int) (a14 : List Trust) (a16 : Int) (a18 : List Int) (a20 : List Trust) : Le (
 bif (ltB 0 a4) then
 capOk (List.length a2 + List.length ([(Trust.mk 1 ([(remI .i64 a4 10)] : List (Int)) ([] : List (Trust)))] : List (Trust))) <|
 z2n (a2 ++ ([(Trust.mk 1 ([(remI .i64 a4 10)] : List (Int)) ([] : List (Trust)))] : List (Trust))) (subI .i64 a4 1) a6 a8 a10 a12 a14 a16 a18 a20
 else
 capOk (List.length a2 + List.length a14) <|
 some ((Trust.mk a10 a12 (a2 ++ a14)), a6, a8)
 ) (z2n a2 a4 a6 a8 a10 a12 a14 a16 a18 a20) :=
 gL o5' (q01 Tryz.f57 [1,1,0,1,0,1,1,1,1,1,1,1,1,1,1,1,0,1,0,0])
theorem qyw (a0 : Int) (a4 : List Member) (a6 a8 : Int) (a10 a12 a14 : List Member) : Le (
 bif (ltB a8 a6) then
 nth a4 a8 fun y0 =>
 Option.bind (z3n a0 a8) fun x1 =>
 bif x1 then
 capOk (List.length a14 + List.length ([(Member.mk false (Trust.mk 0 ([] : List (Int)) ([] : List (Trust))))] : List (Member))) <|
 z1k a0 a4 a6 (addI .i64 a8 1) a10 a12 (a14 ++ ([(Member.mk false (Trust.mk 0 ([] : List (Int)) ([] : List (Trust))))] : List (Member)))
 else
 bif y0.Declared then
 Option.bind (z5m y0.Trust a8 a0) fun x2 =>
 capOk (List.length a14 + List.length ([(Member.mk y0.Declared (Trust.mk x2.Threshold x2.Nodes x2.Inner))] : List (Member))) <|
 z1k a0 a4 a6 (addI .i64 a8 1) a10 a12 (a14 ++ ([(Member.mk y0.Declared (Trust.mk x2.Threshold x2.Nodes x2.Inner))] : List (Member)))
 else
 Option.bind (z3s y0.Trust) fun x3 =>
 capOk (List.length a14 + List.length ([(Member.mk y0.Declared (Trust.mk x3.Threshold x3.Nodes x3.Inner))] : List (Member))) <|
 z1k a0 a4 a6 (addI .i64 a8 1) a10 a12 (a14 ++ ([(Member.mk y0.Declared (Trust.mk x3.Threshold x3.Nodes x3.Inner))] : List (Member)))
 else
 some (Config.mk a14)
 ) (z1k a0 a4 a6 a8 a10 a12 a14) :=
 gL o6' (q01 Tryz.f46 [1,1,0,1,0,0])
theorem y66 (t_0 : Trust) (node_1 s_2 : Int) : Le (
 Option.bind (z1o s_2) fun x0 =>
 bif (!x0) then
 Option.bind (z3s t_0) fun x1 =>
 some (Trust.mk x1.Threshold x1.Nodes x1.Inner)
 else
 Option.bind (z52 t_0 s_2) fun x2 =>
 bif (eqB x2.Threshold 0) then
 some (Trust.mk 1 ([node_1] : List (Int)) ([] : List (Trust)))
 else
 some (Trust.mk x2.Threshold x2.Nodes x2.Inner)
 ) (z5m t_0 node_1 s_2) :=
 cL o4' Tryz.func81
theorem y5p (t_0 : Trust) : Le (
 capOk (List.length ([] : List (Int)) + List.length t_0.Nodes) <|
 z2v t_0.Inner ((List.length t_0.Inner : Nat) : Int) 0 t_0.Threshold t_0.Nodes t_0.Inner 0 ([] : List (Int)) ([] : List (Trust)) t_0.Threshold (([] : List (Int)) ++ t_0.Nodes) ([] : List (Trust))
 ) (z3s t_0) :=
 cL o4' Tryz.func82
theorem y7v (t_0 : Trust) (s_1 : Int) : Le (
 z2k s_1 t_0.Nodes ((List.length t_0.Nodes : Nat) : Int) 0 t_0.Threshold t_0.Nodes t_0.Inner 0 ([] : List (Int)) ([] : List (Trust)) (if 0 > t_0.Threshold then 0 else t_0.Threshold) ([] : List (Int)) ([] : List (Trust))
 ) (z52 t_0 s_1) :=
 cL o4' Tryz.func108
theorem qzn (a0 : Int) (a2 : List Int) (a4 : Int) : Le (
 bif (ltB a4 10) then
 Option.bind (z3n a0 a4) fun x0 =>
 bif x0 then
 capOk (List.length a2 + List.length ([a4] : List (Int))) <|
 z2t a0 (a2 ++ ([a4] : List (Int))) (addI .i64 a4 1)
 else
 z2t a0 a2 (addI .i64 a4 1)
 else
 some a2
 ) (z2t a0 a2 a4) :=
 gL o3' (q01 Tryz.f50 [1,1,0,1,0,0])
theorem y08 (a0 : Int) (a4 : List Member) (a6 a8 : Int) (a10 a12 a14 : List Member) : Le (
 bif (ltB a8 a6) then
 nth a4 a8 fun y0 =>
 Option.bind (z4z a0 a8) fun x1 =>
 bif x1 then
 capOk (List.length a14 + List.length ([(Member.mk false (Trust.mk 0 ([] : List (Int)) ([] : List (Trust))))] : List (Member))) <|
 z25 a0 a4 a6 (addI .i64 a8 1) a10 a12 (a14 ++ ([(Member.mk false (Trust.mk 0 ([] : List (Int)) ([] : List (Trust))))] : List (Member)))
 else
 bif y0.Declared then
 Option.bind (z6d y0.Trust a8 a0) fun x2 =>
 capOk (List.length a14 + List.length ([(Member.mk y0.Declared (Trust.mk x2.Threshold x2.Nodes x2.Inner))] : List (Member))) <|
 z25 a0 a4 a6 (addI .i64 a8 1) a10 a12 (a14 ++ ([(Member.mk y0.Declared (Trust.mk x2.Threshold x2.Nodes x2.Inner))] : List (Member)))
 else
 capOk (List.length a14 + List.length ([(Member.mk y0.Declared (Trust.mk y0.Trust.Threshold y0.Trust.Nodes y0.Trust.Inner))] : List (Member))) <|
 z25 a0 a4 a6 (addI .i64 a8 1) a10 a12 (a14 ++ ([(Member.mk y0.Declared (Trust.mk y0.Trust.Threshold y0.Trust.Nodes y0.Trust.Inner))] : List (Member)))
 else
 some (Config.mk a14)
 ) (z25 a0 a4 a6 a8 a10 a12 a14) :=
 gL o6' (q01 Tryz.f34 [1,1,1,0,1,0,0])
theorem y70 (t_0 : Trust) (node_1 s_2 : Int) : Le (
 Option.bind (z1y s_2) fun x0 =>
 bif (!x0) then
 some (Trust.mk t_0.Threshold t_0.Nodes t_0.Inner)
 else
 Option.bind (z67 t_0 s_2) fun x1 =>
 bif (leB x1.Threshold 0) then
 some (Trust.mk 1 ([node_1] : List (Int)) ([] : List (Trust)))
 else
 some (Trust.mk x1.Threshold x1.Nodes x1.Inner)
 ) (z6d t_0 node_1 s_2) :=
 cL o4' Tryz.func71
theorem y4z (t_0 : Trust) (s_1 : Int) : Le (
 z49 s_1 t_0.Nodes ((List.length t_0.Nodes : Nat) : Int) 0 t_0.Threshold t_0.Nodes t_0.Inner 0 ([] : List (Int)) ([] : List (Trust)) t_0.Threshold ([] : List (Int)) ([] : List (Trust))
 ) (z67 t_0 s_1) :=
 cL o4' Tryz.func96
theorem y1g (a0 : Int) (a3 : List Int) (a5 a7 : Int) (a9 : List Member) : Le (
 bif (ltB a7 a5) then
 nth a3 a7 fun y0 =>
 nth a9 y0 fun y1 =>
 Option.bind (z24 y1.Trust a0) fun x2 =>
 bif (!x2) then
 some false
 else
 z2o a0 a3 a5 (addI .i64 a7 1) a9
 else
 some true
 ) (z2o a0 a3 a5 a7 a9) :=
 gL o1' (q01 Tryz.f32 [1,1,0,1,0,0])
theorem y02 (a1 : List Member) (a3 a5 : Int) (a7 a9 : List Member) : Le (
 bif (ltB a5 a3) then
 nth a1 a5 fun y0 =>
 bif (!y0.Declared) then
 z1t a1 a3 (addI .i64 a5 1) a7 a9
 else
 nth a7 a5 fun y1 =>
 Option.bind (z5n y0.Trust y1.Trust) fun x2 =>
 bif (!x2.1) then
 some 14
 else
 z1t a1 a3 (addI .i64 a5 1) a7 a9
 else
 some 0
 ) (z1t a1 a3 a5 a7 a9) :=
 gL o0' (q01 Tryz.f22 [1,1,1,1,1,0,1,0,0])
theorem y64 (a_0 b_1 : Trust) : Le (
 Option.bind (z63 a_0 b_1) fun x0 =>
 bif (neB x0 0) then
 some (false, 0, x0)
 else
 Option.bind (z5h a_0.Threshold a_0.Nodes a_0.Inner b_1.Threshold b_1.Nodes b_1.Inner) fun x1 =>
 some ((!x1.2.1), x1.1, 0)
 ) (z5n a_0 b_1) :=
 cL ⟨[.lf .b, .lf (.i .i64), .lf (.i .i64)],[]⟩ Tryz.func60
theorem y5z (a_0 b_1 : Trust) : Le (
 Option.bind (z3t a_0) fun x0 =>
 bif (neB x0 0) then
 some x0
 else
 Option.bind (z3t b_1) fun x1 =>
 some x1
 ) (z63 a_0 b_1) :=
 cL o0' Tryz.func87
theorem y7x (t_0 : Trust) : Le (
 Option.bind (z4p t_0) fun x0 =>
 bif (ltB 4 x0) then
 some 3
 else
 Option.bind (z53 t_0) fun x1 =>
 bif (ltB 200 x1) then
 some 3
 else
 Option.bind (z4q t_0) fun x2 =>
 some x2
 ) (z3t t_0) :=
 cL o0' Tryz.func111
theorem y4i (s_0 h0 : Int) (h1 : List Int) (h2 : List Trust) (h3 : Int) (h4 : List Int) (h5 : List Trust) : Le (
 Option.bind (z1r (Trust.mk h0 h1 h2) s_0) fun x0 =>
 bif x0 then
 Option.bind (z1r (Trust.mk h3 h4 h5) s_0) fun x1 =>
 some ((!x1), h0, h1, h2, h3, h4, h5)
 else
 some (false, h0, h1, h2, h3, h4, h5)
 ) (z5t s_0 h0 h1 h2 h3 h4 h5) :=
 cL ⟨[.lf .b],[[.lf (.i .i64), .lf (.l .i64), .lf (.l .Trust)],[.lf (.i .i64), .lf (.l .i64), .lf (.l .Trust)]]⟩ Tryz.func89
theorem y7c (t_0 : Trust) : Le (
 z2w 0 t_0.Inner ((List.length t_0.Inner : Nat) : Int) 0 t_0.Threshold t_0.Nodes t_0.Inner
 ) (z4p t_0) :=
 cL o0' Tryz.func136
theorem y5o (t_0 : Trust) : Le (
 z32 (addI .i64 ((List.length t_0.Nodes : Nat) : Int) ((List.length t_0.Inner : Nat) : Int)) t_0.Inner ((List.length t_0.Inner : Nat) : Int) 0 t_0.Threshold t_0.Nodes t_0.Inner
 ) (z53 t_0) :=
 cL o0' Tryz.func137
theorem y8c (t_0 : Trust) : Le (
 bif (ltB t_0.Threshold 1) then
 some 4
 else
 bif (ltB (addI .i64 ((List.length t_0.Nodes : Nat) : Int) ((List.length t_0.Inner : Nat) : Int)) t_0.Threshold) then
 some 4
 else
 Option.bind (z15 t_0.Nodes) fun x0 =>
 bif x0 then
 some 5
 else
 Option.bind (z6k t_0.Nodes) fun x1 =>
 bif (neB x1.2 0) then
 some x1.2
 else
 z2x t_0.Inner ((List.length t_0.Inner : Nat) : Int) 0 t_0.Threshold t_0.Nodes t_0.Inner
 ) (z4q t_0) :=
 cL o0' Tryz.func138
theorem y63 (s_0 : List Int) : Le (
 Option.bind (z1b s_0) fun x0 =>
 some (leB 0 x0)
 ) (z15 s_0) :=
 cL o1' Tryz.func148
end Go.Proofs.YtbmelgbadedbbaaGreat
