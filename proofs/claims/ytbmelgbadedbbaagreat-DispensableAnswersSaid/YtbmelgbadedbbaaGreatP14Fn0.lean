/- What the functions come to, printed by a program and checked by the kernel. -/
import Derived.Test.YtbmelgbadedbbaaGreatP14Df
namespace Go.Proofs.YtbmelgbadedbbaaGreat
open Go Go.Ab
set_option maxRecDepth 100000
theorem law14_DispensableAnswers_le (t_0 : List Int) (raw_1 other_2 : Config) (b_3 : Int) (r_4 : Refutation) : Le (
 Option.bind (z4d raw_1) fun x0 =>
 bif (!x0) then
 Option.bind (law14_awake) fun x1 =>
 some x1
 else
 Option.bind (z4d other_2) fun x2 =>
 bif (!x2) then
 Option.bind (law14_awake) fun x3 =>
 some x3
 else
 Option.bind (z6u t_0) fun x4 =>
 Option.bind (z6r 5 x4.2.1 x4.2.2) fun x5 =>
 Option.bind (z4r x5.1 x5.2.2.1 x5.2.2.2) fun x6 =>
 z14 b_3 ([(Arr2_Config.mk (Config.mk x5.1.Members) (Config.mk x5.2.1.Members)), (Arr2_Config.mk (Config.mk x5.2.1.Members) (Config.mk x5.1.Members)), (Arr2_Config.mk (Config.mk x6.1.Members) (Config.mk x5.2.1.Members)), (Arr2_Config.mk (Config.mk raw_1.Members) (Config.mk other_2.Members)), (Arr2_Config.mk (Config.mk raw_1.Members) (Config.mk raw_1.Members))] : List (Arr2_Config)) ((List.length ([(Arr2_Config.mk (Config.mk x5.1.Members) (Config.mk x5.2.1.Members)), (Arr2_Config.mk (Config.mk x5.2.1.Members) (Config.mk x5.1.Members)), (Arr2_Config.mk (Config.mk x6.1.Members) (Config.mk x5.2.1.Members)), (Arr2_Config.mk (Config.mk raw_1.Members) (Config.mk other_2.Members)), (Arr2_Config.mk (Config.mk raw_1.Members) (Config.mk raw_1.Members))] : List (Arr2_Config)) : Nat) : Int) 0 raw_1.Members other_2.Members r_4.Node r_4.A r_4.B x6.2.1 x6.2.2 x5.1.Members x5.2.1.Members
 ) (law14_DispensableAnswers t_0 raw_1 other_2 b_3 r_4) :=
 cL o1' Tryz.func5
theorem qz6 (l_0 : List Int) : Le (
 hiK (List.length l_0) (if 400 < ((List.length l_0 : Nat) : Int) then 400 else ((List.length l_0 : Nat) : Int)) fun b0 =>
 some ((), (List.drop 0 (List.take b0 l_0)), 0)
 ) (z6u l_0) :=
 cL ⟨[.ptr 0 0],[[.lf (.l .i64), .lf (.i .i64)]]⟩ Tryz.func8
theorem y1r (n_1 : Int) (h0 : List Int) (h1 : Int) : Le (
 Option.bind (z6o n_1 h0 h1) fun x0 =>
 Option.bind (z11 2 x0.2.1 x0.2.2) fun x1 =>
 bif (eqB x1.1 0) then
 some ((Config.mk x0.1.Members), (Config.mk x0.1.Members), x1.2.1, x1.2.2)
 else
 z38 ([] : List (List (Trust))) x0.1.Members ((List.length x0.1.Members : Nat) : Int) 0 x1.2.1 x1.2.2 ([] : List (Member)) ([] : List (Member)) x0.1.Members
 ) (z6r n_1 h0 h1) :=
 cL o20' Tryz.func9
theorem y59 (c_1 : Config) (h0 : List Int) (h1 : Int) : Le (
 Option.bind (z1c ([0, 1, 1, 2, 3] : List (Int)) h0 h1) fun x0 =>
 z5s ((List.length c_1.Members : Nat) : Int) 0 x0.1 x0.2.1 x0.2.2 c_1.Members
 ) (z6v c_1 h0 h1) :=
 cL o13' Tryz.func10
theorem y5g (low_0 high_1 : Config) (ill_2 : Int) : Le (
 Option.bind (z2s low_0 high_1 ill_2) fun x0 =>
 bif (neB x0 0) then
 some (([] : List (Int)), x0)
 else
 Option.bind (z1i low_0) fun x1 =>
 Option.bind (z5f x1) fun x2 =>
 z1s ill_2 ([] : List (Int)) x2 ((List.length x2 : Nat) : Int) 0 low_0.Members high_1.Members
 ) (z3p low_0 high_1 ill_2) :=
 cL o16' Tryz.func11
theorem y0o (c_0 : Config) : Le (
 bif (ltB 30 ((List.length c_0.Members : Nat) : Int)) then
 some false
 else
 z2j 0 0 c_0.Members
 ) (z4d c_0) :=
 cL o1' Tryz.func20
theorem law14_awake_le  : Le (
 Option.bind (law14_four) fun x0 =>
 Option.bind (law14_four) fun x1 =>
 Option.bind (z3p x0 x1 0) fun x2 =>
 Option.bind (law14_four) fun x3 =>
 Option.bind (law14_four) fun x4 =>
 Option.bind (z2r x3 x4 3) fun x5 =>
 bif (eqB x2.2 0) then
 Option.bind (z6h x2.1 ([0, 1, 2, 4, 8, 15] : List (Int))) fun x6 =>
 bif x6 then
 bif (eqB x5.2 0) then
 bif (eqB x5.1.Node 2) then
 Option.bind (law14_four) fun x7 =>
 Option.bind (law14_four) fun x8 =>
 Option.bind (z30 x7 x8 3 x5.1) fun x9 =>
 some x9
 else
 some false
 else
 some false
 else
 some false
 else
 some false
 ) (law14_awake) :=
 cL o1' Tryz.func14
theorem y0e (c_1 : Config) (h0 : List Int) (h1 : Int) : Le (
 capOk (List.length ([] : List (Member)) + List.length c_1.Members) <|
 bif (eqB ((List.length (([] : List (Member)) ++ c_1.Members) : Nat) : Int) 0) then
 Option.bind (z1c ([1, 10, 11] : List (Int)) h0 h1) fun x0 =>
 chk (x0.1 = x0.1 ∧ 0 ≤ x0.1 ∧ x0.1 ≤ 65536) <|
 some ((Config.mk (List.replicate (Int.toNat x0.1) (Member.mk false (Trust.mk 0 ([] : List (Int)) ([] : List (Trust)))))), x0.2.1, x0.2.2)
 else
 Option.bind (z11 ((List.length (([] : List (Member)) ++ c_1.Members) : Nat) : Int) h0 h1) fun x1 =>
 nth (([] : List (Member)) ++ c_1.Members) x1.1 fun _ =>
 Option.bind (z11 5 x1.2.1 x1.2.2) fun x2 =>
 bif (eqB x2.1 0) then
 nthN (([] : List (Member)) ++ c_1.Members) (Int.toNat x1.1) fun y3 =>
 nthN (([] : List (Member)) ++ c_1.Members) (Int.toNat x1.1) fun y4 =>
 some ((Config.mk (List.set (([] : List (Member)) ++ c_1.Members) (Int.toNat x1.1) (Member.mk (!y3.Declared) (Trust.mk y4.Trust.Threshold y4.Trust.Nodes y4.Trust.Inner)))), x2.2.1, x2.2.2)
 else
 bif (eqB x2.1 1) then
 nthN (([] : List (Member)) ++ c_1.Members) (Int.toNat x1.1) fun y5 =>
 Option.bind (z3q y5.Trust x2.2.1 x2.2.2) fun x6 =>
 nthN (([] : List (Member)) ++ c_1.Members) (Int.toNat x1.1) fun y7 =>
 some ((Config.mk (List.set (([] : List (Member)) ++ c_1.Members) (Int.toNat x1.1) (Member.mk y7.Declared (Trust.mk x6.1.Threshold x6.1.Nodes x6.1.Inner)))), x6.2.1, x6.2.2)
 else
 bif (eqB x2.1 2) then
 nthN (([] : List (Member)) ++ c_1.Members) (Int.toNat x1.1) fun y8 =>
 some ((Config.mk (List.set (([] : List (Member)) ++ c_1.Members) (Int.toNat x1.1) (Member.mk y8.Declared (Trust.mk 1 ([((List.length (([] : List (Member)) ++ c_1.Members) : Nat) : Int)] : List (Int)) ([] : List (Trust)))))), x2.2.1, x2.2.2)
 else
 bif (eqB x2.1 3) then
 hiK (List.length (([] : List (Member)) ++ c_1.Members)) (subI .i64 ((List.length (([] : List (Member)) ++ c_1.Members) : Nat) : Int) 1) fun b9 =>
 some ((Config.mk (List.drop 0 (List.take b9 (([] : List (Member)) ++ c_1.Members)))), x2.2.1, x2.2.2)
 else
 z3d false x2.2.1 x2.2.2 c_1.Members ([] : List (Member)) (([] : List (Member)) ++ c_1.Members)
 ) (z4r c_1 h0 h1) :=
 cL o14' Tryz.func21
theorem y5c (low_0 : Config) (b_1 : Int) : Le (
 Option.bind (z31 low_0 b_1) fun x0 =>
 bif (neB x0 0) then
 some (false, x0)
 else
 Option.bind (z3r low_0 b_1) fun x1 =>
 Option.bind (z4n x1) fun x2 =>
 some (x2.1, x2.2)
 ) (z2f low_0 b_1) :=
 cL o9' Tryz.func12
theorem qtf (n_1 : Int) (h0 : List Int) (h1 : Int) : Le (
 bif (leB ((List.length h0 : Nat) : Int) h1) then
 some (0, h0, h1)
 else
 nth h0 h1 fun y0 =>
 chk (n_1 ≠ 0) <|
 bif (ltB (remI .i64 y0 n_1) 0) then
 some ((addI .i64 (remI .i64 y0 n_1) n_1), h0, (addI .i64 h1 1))
 else
 some ((remI .i64 y0 n_1), h0, (addI .i64 h1 1))
 ) (z11 n_1 h0 h1) :=
 cL o13' Tryz.func15
theorem y5x (low_0 high_1 : Config) (b_2 : Int) : Le (
 Option.bind (z4y low_0 high_1 b_2) fun x0 =>
 bif (neB x0 0) then
 some (false, x0)
 else
 Option.bind (z6l low_0 high_1 b_2) fun x1 =>
 some (x1, 0)
 ) (z6s low_0 high_1 b_2) :=
 cL o9' Tryz.func16
theorem y7q (low_0 high_1 : Config) (b_2 : Int) : Le (
 Option.bind (z2s low_0 high_1 b_2) fun x0 =>
 bif (neB x0 0) then
 some ((Refutation.mk 0 0 0), x0)
 else
 Option.bind (z1i high_1) fun x1 =>
 Option.bind (z5c (q40 .i64 x1 b_2)) fun x2 =>
 z23 b_2 x2 ((List.length x2 : Nat) : Int) 0 low_0.Members high_1.Members 0 0 0
 ) (z2r low_0 high_1 b_2) :=
 cL o17' Tryz.func17
theorem y5l (low_0 high_1 : Config) (b_2 : Int) (x_3 : Refutation) : Le (
 Option.bind (z4y low_0 high_1 b_2) fun x0 =>
 bif (neB x0 0) then
 some false
 else
 bif (neB x_3.Node (-1)) then
 Option.bind (z5w high_1 b_2 x_3.Node) fun x1 =>
 bif x1 then
 bif (eqB x_3.A 0) then
 some (eqB x_3.B 0)
 else
 some false
 else
 some false
 else
 Option.bind (z57 low_0 b_2) fun x2 =>
 Option.bind (z22 x2 x_3.A) fun x3 =>
 bif x3 then
 Option.bind (z22 x2 x_3.B) fun x4 =>
 bif x4 then
 some (eqB (andI .i64 x_3.A x_3.B) 0)
 else
 some false
 else
 some false
 ) (z6b low_0 high_1 b_2 x_3) :=
 cL o1' Tryz.func18
theorem y6m (low_0 high_1 : Config) (b_2 : Int) (x_3 : Refutation) : Le (
 Option.bind (z2s low_0 high_1 b_2) fun x0 =>
 bif (neB x0 0) then
 some false
 else
 bif (leB 0 x_3.Node) then
 bif (eqB x_3.A 0) then
 bif (eqB x_3.B 0) then
 Option.bind (z1i high_1) fun x1 =>
 Option.bind (z3n (q40 .i64 x1 b_2) x_3.Node) fun x2 =>
 bif x2 then
 Option.bind (z43 high_1 x_3.Node b_2) fun x3 =>
 some x3
 else
 some false
 else
 some false
 else
 some false
 else
 Option.bind (z3r low_0 b_2) fun x4 =>
 bif (eqB x_3.Node (-1)) then
 Option.bind (z2g x4 x_3.A) fun x5 =>
 bif x5 then
 Option.bind (z2g x4 x_3.B) fun x6 =>
 bif x6 then
 some (eqB (andI .i64 x_3.A x_3.B) 0)
 else
 some false
 else
 some false
 else
 some false
 ) (z30 low_0 high_1 b_2 x_3) :=
 cL o1' Tryz.func19
theorem y4m (n_1 : Int) (h0 : List Int) (h1 : Int) : Le (
 Option.bind (z19 1 n_1 h0 h1) fun x0 =>
 Option.bind (z11 3 x0.2.1 x0.2.2) fun x1 =>
 z1f x0.1 x1.1 0 x1.2.1 x1.2.2 ([] : List (Member)) ([] : List (Member))
 ) (z6o n_1 h0 h1) :=
 cL o14' Tryz.func35
theorem y40 (l_1 h0 : List Int) (h1 : Int) : Le (
 Option.bind (z11 ((List.length l_1 : Nat) : Int) h0 h1) fun x0 =>
 nth l_1 x0.1 fun y1 =>
 some (y1, x0.2.1, x0.2.2)
 ) (z1c l_1 h0 h1) :=
 cL o13' Tryz.func39
theorem y5a (low_0 high_1 : Config) (b_2 : Int) : Le (
 Option.bind (z44 low_0 high_1) fun x0 =>
 bif (neB x0 0) then
 some x0
 else
 Option.bind (z31 low_0 b_2) fun x1 =>
 some x1
 ) (z2s low_0 high_1 b_2) :=
 cL o0' Tryz.func40
theorem y53 (c_0 : Config) : Le (
 chk (0 ≤ ((List.length c_0.Members : Nat) : Int)) <|
 some (subI .i64 (shlI .i64 1 ((List.length c_0.Members : Nat) : Int)) 1)
 ) (z1i c_0) :=
 cL o0' Tryz.func42
theorem y5b (s_0 : Int) : Le (
 z27 s_0 ([] : List (Int)) 0
 ) (z5f s_0) :=
 cL o3' Tryz.func41
theorem law14_four_le  : Le (
 z39 0 ([] : List (Member)) ([] : List (Member))
 ) (law14_four) :=
 cL o6' Tryz.func47
theorem y0x (a_0 b_1 : List Int) : Le (
 bif (neB ((List.length a_0 : Nat) : Int) ((List.length b_1 : Nat) : Int)) then
 some false
 else
 z5g a_0 b_1 ((List.length a_0 : Nat) : Int) 0
 ) (z6h a_0 b_1) :=
 cL o1' Tryz.func30
theorem qvk (x_1 : Trust) (h0 : List Int) (h1 : Int) : Le (
 bif (ltB 0 ((List.length x_1.Inner : Nat) : Int)) then
 Option.bind (z11 2 h0 h1) fun x0 =>
 bif (eqB x0.1 1) then
 capOk (List.length ([] : List (Trust)) + List.length x_1.Inner) <|
 Option.bind (z11 ((List.length (([] : List (Trust)) ++ x_1.Inner) : Nat) : Int) x0.2.1 x0.2.2) fun x1 =>
 nth (([] : List (Trust)) ++ x_1.Inner) x1.1 fun _ =>
 nthN (([] : List (Trust)) ++ x_1.Inner) (Int.toNat x1.1) fun y2 =>
 Option.bind (z3q y2 x1.2.1 x1.2.2) fun x3 =>
 nth (([] : List (Trust)) ++ x_1.Inner) x1.1 fun _ =>
 nthN (([] : List (Trust)) ++ x_1.Inner) (Int.toNat x1.1) fun _y4 =>
 some ((Trust.mk x_1.Threshold x_1.Nodes (List.set (([] : List (Trust)) ++ x_1.Inner) (Int.toNat x1.1) (Trust.mk x3.1.Threshold x3.1.Nodes x3.1.Inner))), x3.2.1, x3.2.2)
 else
 Option.bind (z11 6 x0.2.1 x0.2.2) fun x5 =>
 bif (eqB x5.1 0) then
 Option.bind (z1c ([0, (-1), (addI .i64 ((List.length x_1.Nodes : Nat) : Int) ((List.length x_1.Inner : Nat) : Int)), (addI .i64 (addI .i64 ((List.length x_1.Nodes : Nat) : Int) ((List.length x_1.Inner : Nat) : Int)) 1)] : List (Int)) x5.2.1 x5.2.2) fun x6 =>
 some ((Trust.mk x6.1 x_1.Nodes x_1.Inner), x6.2.1, x6.2.2)
 else
 bif (eqB x5.1 1) then
 capOk (List.length ([] : List (Int)) + List.length x_1.Nodes) <|
 Option.bind (z1c ([(-1), 0, 9, 10] : List (Int)) x5.2.1 x5.2.2) fun x7 =>
 capOk (List.length (([] : List (Int)) ++ x_1.Nodes) + List.length ([x7.1] : List (Int))) <|
 some ((Trust.mk x_1.Threshold ((([] : List (Int)) ++ x_1.Nodes) ++ ([x7.1] : List (Int))) x_1.Inner), x7.2.1, x7.2.2)
 else
 bif (eqB x5.1 2) then
 some ((Trust.mk x_1.Threshold ([] : List (Int)) x_1.Inner), x5.2.1, x5.2.2)
 else
 bif (eqB x5.1 3) then
 capOk (List.length ([] : List (Trust)) + List.length x_1.Inner) <|
 capOk (List.length (([] : List (Trust)) ++ x_1.Inner) + List.length ([(Trust.mk 0 ([] : List (Int)) ([] : List (Trust)))] : List (Trust))) <|
 some ((Trust.mk x_1.Threshold x_1.Nodes ((([] : List (Trust)) ++ x_1.Inner) ++ ([(Trust.mk 0 ([] : List (Int)) ([] : List (Trust)))] : List (Trust)))), x5.2.1, x5.2.2)
 else
 bif (eqB x5.1 4) then
 Option.bind (z19 1 4 x5.2.1 x5.2.2) fun x8 =>
 z34 x8.1 x8.2.1 x8.2.2 x_1.Threshold x_1.Nodes x_1.Inner 0 ([] : List (Int)) ([] : List (Trust)) x_1.Threshold x_1.Nodes x_1.Inner
 else
 Option.bind (z1c ([20, 60, 101] : List (Int)) x5.2.1 x5.2.2) fun x9 =>
 z2n ([] : List (Trust)) x9.1 x9.2.1 x9.2.2 x_1.Threshold x_1.Nodes x_1.Inner 0 ([] : List (Int)) ([] : List (Trust))
 else
 Option.bind (z11 6 h0 h1) fun x10 =>
 bif (eqB x10.1 0) then
 Option.bind (z1c ([0, (-1), (addI .i64 ((List.length x_1.Nodes : Nat) : Int) ((List.length x_1.Inner : Nat) : Int)), (addI .i64 (addI .i64 ((List.length x_1.Nodes : Nat) : Int) ((List.length x_1.Inner : Nat) : Int)) 1)] : List (Int)) x10.2.1 x10.2.2) fun x11 =>
 some ((Trust.mk x11.1 x_1.Nodes x_1.Inner), x11.2.1, x11.2.2)
 else
 bif (eqB x10.1 1) then
 capOk (List.length ([] : List (Int)) + List.length x_1.Nodes) <|
 Option.bind (z1c ([(-1), 0, 9, 10] : List (Int)) x10.2.1 x10.2.2) fun x12 =>
 capOk (List.length (([] : List (Int)) ++ x_1.Nodes) + List.length ([x12.1] : List (Int))) <|
 some ((Trust.mk x_1.Threshold ((([] : List (Int)) ++ x_1.Nodes) ++ ([x12.1] : List (Int))) x_1.Inner), x12.2.1, x12.2.2)
 else
 bif (eqB x10.1 2) then
 some ((Trust.mk x_1.Threshold ([] : List (Int)) x_1.Inner), x10.2.1, x10.2.2)
 else
 bif (eqB x10.1 3) then
 capOk (List.length ([] : List (Trust)) + List.length x_1.Inner) <|
 capOk (List.length (([] : List (Trust)) ++ x_1.Inner) + List.length ([(Trust.mk 0 ([] : List (Int)) ([] : List (Trust)))] : List (Trust))) <|
 some ((Trust.mk x_1.Threshold x_1.Nodes ((([] : List (Trust)) ++ x_1.Inner) ++ ([(Trust.mk 0 ([] : List (Int)) ([] : List (Trust)))] : List (Trust)))), x10.2.1, x10.2.2)
 else
 bif (eqB x10.1 4) then
 Option.bind (z19 1 4 x10.2.1 x10.2.2) fun x13 =>
 z34 x13.1 x13.2.1 x13.2.2 x_1.Threshold x_1.Nodes x_1.Inner 0 ([] : List (Int)) ([] : List (Trust)) x_1.Threshold x_1.Nodes x_1.Inner
 else
 Option.bind (z1c ([20, 60, 101] : List (Int)) x10.2.1 x10.2.2) fun x14 =>
 z2n ([] : List (Trust)) x14.1 x14.2.1 x14.2.2 x_1.Threshold x_1.Nodes x_1.Inner 0 ([] : List (Int)) ([] : List (Trust))
 ) (z3q x_1 h0 h1) :=
 cL o5' Tryz.func57
theorem y6r (c_0 : Config) (b_1 : Int) : Le (
 Option.bind (z1q c_0) fun x0 =>
 bif (neB x0 0) then
 some x0
 else
 bif (ltB b_1 0) then
 some 1
 else
 Option.bind (z1i c_0) fun x1 =>
 bif (ltB x1 b_1) then
 some 1
 else
 some 0
 ) (z31 c_0 b_1) :=
 cL o0' Tryz.func44
theorem y77 (c_0 : Config) (s_1 : Int) : Le (
 z1k s_1 c_0.Members ((List.length c_0.Members : Nat) : Int) 0 c_0.Members ([] : List (Member)) ([] : List (Member))
 ) (z3r c_0 s_1) :=
 cL o6' Tryz.func46
theorem y3t (c_0 : Config) : Le (
 Option.bind (z1q c_0) fun x0 =>
 bif (neB x0 0) then
 some (false, x0)
 else
 Option.bind (z45 c_0) fun x1 =>
 some ((eqB x1.1 0), 0)
 ) (z4n c_0) :=
 cL o9' Tryz.func45
theorem y3y (low_0 high_1 : Config) (b_2 : Int) : Le (
 Option.bind (z5x low_0 high_1) fun x0 =>
 bif (neB x0 0) then
 some x0
 else
 Option.bind (z61 low_0 b_2) fun x1 =>
 some x1
 ) (z4y low_0 high_1 b_2) :=
 cL o0' Tryz.func48
theorem y4e (low_0 high_1 : Config) (b_2 : Int) : Le (
 Option.bind (z4o high_1 b_2) fun x0 =>
 bif (!x0.1) then
 some false
 else
 Option.bind (z4e low_0 b_2) fun x1 =>
 some x1.1
 ) (z6l low_0 high_1 b_2) :=
 cL o1' Tryz.func49
theorem y4b (s_0 : Int) : Le (
 z2t s_0 ([] : List (Int)) 0
 ) (z5c s_0) :=
 cL o3' Tryz.func50
theorem y82 (high_0 : Config) (b_1 k_2 : Int) : Le (
 bif (ltB k_2 0) then
 some false
 else
 bif (leB ((List.length high_0.Members : Nat) : Int) k_2) then
 some false
 else
 Option.bind (z4z b_1 k_2) fun x0 =>
 bif x0 then
 some false
 else
 nth high_0.Members k_2 fun y1 =>
 bif (!y1.Declared) then
 some true
 else
 nth high_0.Members k_2 fun y2 =>
 Option.bind (z37 high_0) fun x3 =>
 Option.bind (z24 y2.Trust (subI .i64 x3 b_1)) fun x4 =>
 some (!x4)
 ) (z5w high_0 b_1 k_2) :=
 cL o1' Tryz.func53
theorem y4f (c_0 : Config) (s_1 : Int) : Le (
 Option.bind (z1y s_1) fun x0 =>
 bif (!x0) then
 some (Config.mk c_0.Members)
 else
 z25 s_1 c_0.Members ((List.length c_0.Members : Nat) : Int) 0 c_0.Members ([] : List (Member)) ([] : List (Member))
 ) (z57 c_0 s_1) :=
 cL o6' Tryz.func34
theorem qqn (c_0 : Config) (s_1 : Int) : Le (
 Option.bind (z1y s_1) fun x0 =>
 bif (!x0) then
 some false
 else
 bif (eqB s_1 0) then
 some false
 else
 Option.bind (z2h c_0) fun x1 =>
 bif (neB (andI .i64 s_1 x1) s_1) then
 some false
 else
 Option.bind (z5i s_1) fun x2 =>
 z2o s_1 x2 ((List.length x2 : Nat) : Int) 0 c_0.Members
 ) (z22 c_0 s_1) :=
 cL o1' Tryz.func32
theorem y50 (s_0 node_1 : Int) : Le (
 Option.bind (z1o s_0) fun x0 =>
 bif x0 then
 bif (leB 0 node_1) then
 bif (ltB node_1 10) then
 chk (0 ≤ node_1) <|
 some (neB (andI .i64 s_0 (shlI .i64 1 node_1)) 0)
 else
 some false
 else
 some false
 else
 some false
 ) (z3n s_0 node_1) :=
 cL o1' Tryz.func54
theorem y4r (high_0 : Config) (v_1 b_2 : Int) : Le (
 nth high_0.Members v_1 fun y0 =>
 bif (!y0.Declared) then
 some true
 else
 Option.bind (z1i high_0) fun x1 =>
 Option.bind (z1r y0.Trust (q40 .i64 x1 b_2)) fun x2 =>
 some (!x2)
 ) (z43 high_0 v_1 b_2) :=
 cL o1' Tryz.func51
theorem qzc (c_0 : Config) (s_1 : Int) : Le (
 Option.bind (z1o s_1) fun x0 =>
 bif (!x0) then
 some false
 else
 bif (eqB s_1 0) then
 some false
 else
 Option.bind (z5j c_0 s_1) fun x1 =>
 bif (!x1) then
 some false
 else
 Option.bind (z33 c_0 s_1) fun x2 =>
 some (!x2.2)
 ) (z2g c_0 s_1) :=
 cL o1' Tryz.func55
theorem y79 (a_1 b_2 : Int) (h0 : List Int) (h1 : Int) : Le (
 Option.bind (z11 (addI .i64 (subI .i64 b_2 a_1) 1) h0 h1) fun x0 =>
 some ((addI .i64 a_1 x0.1), x0.2.1, x0.2.2)
 ) (z19 a_1 b_2 h0 h1) :=
 cL o13' Tryz.func72
end Go.Proofs.YtbmelgbadedbbaaGreat
