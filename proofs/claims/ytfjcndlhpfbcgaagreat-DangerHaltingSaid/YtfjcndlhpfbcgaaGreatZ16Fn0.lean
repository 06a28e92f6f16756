/- What the functions come to, printed by a program and checked by the kernel. -/
import Derived.Test.YtfjcndlhpfbcgaaGreatZ16Df
namespace Go.Proofs.YtfjcndlhpfbcgaaGreat
open Go Go.Ab
set_option maxRecDepth 100000
theorem law16_DangerAnswers_le (t_0 : List Int) (raw_1 : Config) (x_2 : Int) : Le (
 Option.bind (z5c raw_1) fun x0 =>
 bif (!x0) then
 Option.bind (law16_awake) fun x1 =>
 some x1
 else
 Option.bind (z6z t_0) fun x2 =>
 Option.bind (z6i 6 x2.2.1 x2.2.2) fun x3 =>
 Option.bind (z4z x3.1 x3.2.1 x3.2.2) fun x4 =>
 z1p x_2 ([(Config.mk x3.1.Members), (Config.mk x4.1.Members), (Config.mk raw_1.Members)] : List (Config)) ((List.length ([(Config.mk x3.1.Members), (Config.mk x4.1.Members), (Config.mk raw_1.Members)] : List (Config)) : Nat) : Int) 0 raw_1.Members x4.2.1 x4.2.2 x3.1.Members
 ) (law16_DangerAnswers t_0 raw_1 x_2) :=
 q01 (T := tn) (c := q06 Tryz.f5) (o := ⟨[.lf .b],[]⟩) sigOk 100000 (by kernel_rfl) Tryz.func5 (by kernel_rfl) (by kernel_rfl) (by kernel_rfl)
theorem law16_DangerHalting_le (t_0 : List Int) : Le (
 Option.bind (z6z t_0) fun x0 =>
 Option.bind (z6i 8 x0.2.1 x0.2.2) fun x1 =>
 Option.bind (z2o x1.1) fun x2 =>
 Option.bind (z68 x1.1) fun x3 =>
 Option.bind (z69 x3.1 ((List.length x1.1.Members : Nat) : Int)) fun x4 =>
 bif (neB x2.2 0) then
 some false
 else
 bif (neB x4.2 0) then
 some false
 else
 Option.bind (z5w x2.1 x4.1) fun x5 =>
 bif (!x5) then
 some false
 else
 z1q x2.1 0 x1.2.1 x1.2.2 x1.1.Members
 ) (law16_DangerHalting t_0) :=
 q01 (T := tn) (c := q06 Tryz.f3) (o := ⟨[.lf .b],[]⟩) sigOk 100000 (by kernel_rfl) Tryz.func3 (by kernel_rfl) (by kernel_rfl) (by kernel_rfl)
theorem law16_DangerSplitting_le (t_0 : List Int) : Le (
 Option.bind (z6z t_0) fun x0 =>
 Option.bind (z6i 6 x0.2.1 x0.2.2) fun x1 =>
 Option.bind (z72 x1.1 x1.2.1 x1.2.2) fun x2 =>
 Option.bind (z5m x1.1 x2.1) fun x3 =>
 Option.bind (z6d x1.1 x2.1) fun x4 =>
 Option.bind (z5i x1.1 x2.1) fun x5 =>
 chk (0 ≤ ((List.length x1.1.Members : Nat) : Int)) <|
 z1g x2.1 x3.1 x3.2 x4.1 x4.2.1 x4.2.2 (subI .i64 (shlI .i64 1 ((List.length x1.1.Members : Nat) : Int)) 1) false 1 x2.2.1 x2.2.2 x1.1.Members x5.Members
 ) (law16_DangerSplitting t_0) :=
 q01 (T := tn) (c := q06 Tryz.f4) (o := ⟨[.lf .b],[]⟩) sigOk 100000 (by kernel_rfl) Tryz.func4 (by kernel_rfl) (by kernel_rfl) (by kernel_rfl)
theorem qxx (c_0 : Config) : Le (
 bif (ltB 30 ((List.length c_0.Members : Nat) : Int)) then
 some false
 else
 z2r 0 0 c_0.Members
 ) (z5c c_0) :=
 q01 (T := tn) (c := q06 Tryz.f21) (o := ⟨[.lf .b],[]⟩) sigOk 100000 (by kernel_rfl) Tryz.func21 (by kernel_rfl) (by kernel_rfl) (by kernel_rfl)
theorem law16_awake_le  : Le (
 Option.bind (law16_same 4 3) fun x0 =>
 Option.bind (z1x x0) fun x1 =>
 Option.bind (law16_same 4 3) fun x2 =>
 Option.bind (z2o x2) fun x3 =>
 Option.bind (law16_same 4 3) fun x4 =>
 Option.bind (z2y x4) fun x5 =>
 bif (eqB x1.2 0) then
 bif (eqB x3.2 0) then
 bif (eqB x5.2.2 0) then
 Option.bind (z5w x1.1 ([3, 5, 6, 9, 10, 12] : List (Int))) fun x6 =>
 bif x6 then
 Option.bind (z5w x3.1 x1.1) fun x7 =>
 bif x7 then
 bif (eqB x5.1 1) then
 some (eqB x5.2.1 1)
 else
 some false
 else
 some false
 else
 some false
 else
 some false
 else
 some false
 else
 some false
 ) (law16_awake) :=
 q01 (T := tn) (c := q06 Tryz.f14) (o := ⟨[.lf .b],[]⟩) sigOk 100000 (by kernel_rfl) Tryz.func14 (by kernel_rfl) (by kernel_rfl) (by kernel_rfl)
theorem qxg (l_0 : List Int) : Le (
 hiK (List.length l_0) (if 400 < ((List.length l_0 : Nat) : Int) then 400 else ((List.length l_0 : Nat) : Int)) fun b0 =>
 some ((), (List.drop 0 (List.take b0 l_0)), 0)
 ) (z6z l_0) :=
 q01 (T := tn) (c := q06 Tryz.f6) (o := ⟨[.ptr 0 0],[[.lf (.l .i64), .lf (.i .i64)]]⟩) sigOk 100000 (by kernel_rfl) Tryz.func6 (by kernel_rfl) (by kernel_rfl) (by kernel_rfl)
theorem y3g (n_1 : Int) (h0 : List Int) (h1 : Int) : Le (
 Option.bind (z1f 1 n_1 h0 h1) fun x0 =>
 Option.bind (z1a 3 x0.2.1 x0.2.2) fun x1 =>
 z1m x0.1 x1.1 0 x1.2.1 x1.2.2 ([] : List (Member)) ([] : List (Member))
 ) (z6i n_1 h0 h1) :=
 q01 (T := tn) (c := q06 Tryz.f7) (o := ⟨[.ag .Config],[[.lf (.l .i64), .lf (.i .i64)]]⟩) sigOk 100000 (by kernel_rfl) Tryz.func7 (by kernel_rfl) (by kernel_rfl) (by kernel_rfl)
theorem qzi (c_1 : Config) (h0 : List Int) (h1 : Int) : Le (
 capOk (List.length ([] : List (Member)) + List.length c_1.Members) <|
 bif (eqB ((List.length (([] : List (Member)) ++ c_1.Members) : Nat) : Int) 0) then
 Option.bind (z1j ([1, 10, 11] : List (Int)) h0 h1) fun x0 =>
 chk (x0.1 = x0.1 ∧ 0 ≤ x0.1 ∧ x0.1 ≤ 65536) <|
 some ((Config.mk (List.replicate (Int.toNat x0.1) (Member.mk false (Trust.mk 0 ([] : List (Int)) ([] : List (Trust)))))), x0.2.1, x0.2.2)
 else
 Option.bind (z1a ((List.length (([] : List (Member)) ++ c_1.Members) : Nat) : Int) h0 h1) fun x1 =>
 nth (([] : List (Member)) ++ c_1.Members) x1.1 fun _ =>
 Option.bind (z1a 5 x1.2.1 x1.2.2) fun x2 =>
 bif (eqB x2.1 0) then
 nthN (([] : List (Member)) ++ c_1.Members) (Int.toNat x1.1) fun y3 =>
 nthN (([] : List (Member)) ++ c_1.Members) (Int.toNat x1.1) fun y4 =>
 some ((Config.mk (List.set (([] : List (Member)) ++ c_1.Members) (Int.toNat x1.1) (Member.mk (!y3.Declared) (Trust.mk y4.Trust.Threshold y4.Trust.Nodes y4.Trust.Inner)))), x2.2.1, x2.2.2)
 else
 bif (eqB x2.1 1) then
 nthN (([] : List (Member)) ++ c_1.Members) (Int.toNat x1.1) fun y5 =>
 Option.bind (z3x y5.Trust x2.2.1 x2.2.2) fun x6 =>
 nthN (([] : List (Member)) ++ c_1.Members) (Int.toNat x1.1) fun y7 =>
 some ((Config.mk (List.set (([] : List (Member)) ++ c_1.Members) (Int.toNat x1.1) (Member.mk y7.Declared (Trust.mk x6.1.Threshold x6.1.Nodes x6.1.Inner)))), x6.2.1, x6.2.2)
 else
 bif (eqB x2.1 2) then
 nthN (([] : List (Member)) ++ c_1.Members) (Int.toNat x1.1) fun y8 =>
 some ((Config.mk (List.set (([] : List (Member)) ++ c_1.Members) (Int.toNat x1.1) (Member.mk y8.Declared (Trust.mk 1 ([((List.length (([] : List (Member)) ++ c_1.Members) : Nat) : Int)] : List (Int)) ([] : List (Trust)))))), x2.2.1, x2.2.2)
 else
 bif (eqB x2.1 3) then
 hiK (List.length (([] : List (Member)) ++ c_1.Members)) (subI .i64 ((List.length (([] : List (Member)) ++ c_1.Members) : Nat) : Int) 1) fun b9 =>
 some ((Config.mk (List.drop 0 (List.take b9 (([] : List (Member)) ++ c_1.Members)))), x2.2.1, x2.2.2)
 else
 z3i false x2.2.1 x2.2.2 c_1.Members ([] : List (Member)) (([] : List (Member)) ++ c_1.Members)
 ) (z4z c_1 h0 h1) :=
 q01 (T := tn) (c := q06 Tryz.f22) (o := ⟨[.ag .Config],[[.lf (.l .i64), .lf (.i .i64)]]⟩) sigOk 100000 (by kernel_rfl) Tryz.func22 (by kernel_rfl) (by kernel_rfl) (by kernel_rfl)
theorem qx8 (c_0 : Config) : Le (
 Option.bind (z1z c_0) fun x0 =>
 bif (neB x0 0) then
 some (([] : List (Int)), x0)
 else
 Option.bind (z21 c_0) fun x1 =>
 some (x1, 0)
 ) (z2o c_0) :=
 q01 (T := tn) (c := q06 Tryz.f8) (o := ⟨[.lf (.l .i64), .lf (.i .i64)],[]⟩) sigOk 100000 (by kernel_rfl) Tryz.func8 (by kernel_rfl) (by kernel_rfl) (by kernel_rfl)
theorem y5u (c_0 : Config) : Le (
 Option.bind (z3u c_0) fun x0 =>
 bif (neB x0 0) then
 some (([] : List (Int)), x0)
 else
 Option.bind (z70 c_0) fun x1 =>
 Option.bind (z3e x1) fun x2 =>
 some (x2, 0)
 ) (z68 c_0) :=
 q01 (T := tn) (c := q06 Tryz.f9) (o := ⟨[.lf (.l .i64), .lf (.i .i64)],[]⟩) sigOk 100000 (by kernel_rfl) Tryz.func9 (by kernel_rfl) (by kernel_rfl) (by kernel_rfl)
theorem y5v (l_0 : List Int) (n_1 : Int) : Le (
 bif (ltB n_1 0) then
 some (([] : List (Int)), 1)
 else
 bif (ltB 10 n_1) then
 some (([] : List (Int)), 1)
 else
 z3j l_0 n_1 l_0 ((List.length l_0 : Nat) : Int) 0
 ) (z69 l_0 n_1) :=
 q01 (T := tn) (c := q06 Tryz.f10) (o := ⟨[.lf (.l .i64), .lf (.i .i64)],[]⟩) sigOk 100000 (by kernel_rfl) Tryz.func10 (by kernel_rfl) (by kernel_rfl) (by kernel_rfl)
theorem qxn (a_0 b_1 : List Int) : Le (
 bif (neB ((List.length a_0 : Nat) : Int) ((List.length b_1 : Nat) : Int)) then
 some false
 else
 z5p a_0 b_1 ((List.length a_0 : Nat) : Int) 0
 ) (z5w a_0 b_1) :=
 q01 (T := tn) (c := q06 Tryz.f11) (o := ⟨[.lf .b],[]⟩) sigOk 100000 (by kernel_rfl) Tryz.func11 (by kernel_rfl) (by kernel_rfl) (by kernel_rfl)
theorem y54 (c_1 : Config) (h0 : List Int) (h1 : Int) : Le (
 Option.bind (z1j ([0, 1, 1, 2, 3] : List (Int)) h0 h1) fun x0 =>
 z67 ((List.length c_1.Members : Nat) : Int) 0 x0.1 x0.2.1 x0.2.2 c_1.Members
 ) (z72 c_1 h0 h1) :=
 q01 (T := tn) (c := q06 Tryz.f15) (o := ⟨[.lf (.i .i64)],[[.lf (.l .i64), .lf (.i .i64)]]⟩) sigOk 100000 (by kernel_rfl) Tryz.func15 (by kernel_rfl) (by kernel_rfl) (by kernel_rfl)
theorem y6d (c_0 : Config) (s_1 : Int) : Le (
 Option.bind (z5j c_0 s_1) fun x0 =>
 bif (neB x0 0) then
 some (false, x0)
 else
 Option.bind (z5n c_0 s_1) fun x1 =>
 some (x1, 0)
 ) (z5m c_0 s_1) :=
 q01 (T := tn) (c := q06 Tryz.f16) (o := ⟨[.lf .b, .lf (.i .i64)],[]⟩) sigOk 100000 (by kernel_rfl) Tryz.func16 (by kernel_rfl) (by kernel_rfl) (by kernel_rfl)
theorem y30 (c_0 : Config) (s_1 : Int) : Le (
 Option.bind (z5j c_0 s_1) fun x0 =>
 bif (neB x0 0) then
 some (0, 0, x0)
 else
 Option.bind (z4u c_0 s_1) fun x1 =>
 Option.bind (z3n x1) fun x2 =>
 some (x2.1, x2.2.1, x2.2.2)
 ) (z6d c_0 s_1) :=
 q01 (T := tn) (c := q06 Tryz.f17) (o := ⟨[.lf (.i .i64), .lf (.i .i64), .lf (.i .i64)],[]⟩) sigOk 100000 (by kernel_rfl) Tryz.func17 (by kernel_rfl) (by kernel_rfl) (by kernel_rfl)
theorem y3v (c_0 : Config) (s_1 : Int) : Le (
 Option.bind (z1h s_1) fun x0 =>
 bif (!x0) then
 some (Config.mk c_0.Members)
 else
 z2d s_1 c_0.Members ((List.length c_0.Members : Nat) : Int) 0 c_0.Members ([] : List (Member)) ([] : List (Member))
 ) (z5i c_0 s_1) :=
 q01 (T := tn) (c := q06 Tryz.f18) (o := ⟨[.ag .Config],[]⟩) sigOk 100000 (by kernel_rfl) Tryz.func18 (by kernel_rfl) (by kernel_rfl) (by kernel_rfl)
theorem law16_same_le (n_0 k_1 : Int) : Le (
 z50 n_0 0 ([] : List (Member)) k_1 ([] : List (Int)) ([] : List (Trust))
 ) (law16_same n_0 k_1) :=
 q01 (T := tn) (c := q06 Tryz.f42) (o := ⟨[.ag .Config],[]⟩) sigOk 100000 (by kernel_rfl) Tryz.func42 (by kernel_rfl) (by kernel_rfl) (by kernel_rfl)
theorem qrp (c_0 : Config) : Le (
 Option.bind (z22 c_0) fun x0 =>
 bif (neB x0 0) then
 some (([] : List (Int)), x0)
 else
 Option.bind (z20 c_0) fun x1 =>
 some (x1, 0)
 ) (z1x c_0) :=
 q01 (T := tn) (c := q06 Tryz.f26) (o := ⟨[.lf (.l .i64), .lf (.i .i64)],[]⟩) sigOk 100000 (by kernel_rfl) Tryz.func26 (by kernel_rfl) (by kernel_rfl) (by kernel_rfl)
theorem qyx (c_0 : Config) : Le (
 Option.bind (z22 c_0) fun x0 =>
 bif (neB x0 0) then
 some (0, 0, x0)
 else
 Option.bind (z20 c_0) fun x1 =>
 Option.bind (z4f c_0 x1) fun x2 =>
 Option.bind (z21 c_0) fun x3 =>
 Option.bind (z4f c_0 x3) fun x4 =>
 some (x2, x4, 0)
 ) (z2y c_0) :=
 q01 (T := tn) (c := q06 Tryz.f29) (o := ⟨[.lf (.i .i64), .lf (.i .i64), .lf (.i .i64)],[]⟩) sigOk 100000 (by kernel_rfl) Tryz.func29 (by kernel_rfl) (by kernel_rfl) (by kernel_rfl)
theorem y3c (a_1 b_2 : Int) (h0 : List Int) (h1 : Int) : Le (
 Option.bind (z1a (addI .i64 (subI .i64 b_2 a_1) 1) h0 h1) fun x0 =>
 some ((addI .i64 a_1 x0.1), x0.2.1, x0.2.2)
 ) (z1f a_1 b_2 h0 h1) :=
 q01 (T := tn) (c := q06 Tryz.f31) (o := ⟨[.lf (.i .i64)],[[.lf (.l .i64), .lf (.i .i64)]]⟩) sigOk 100000 (by kernel_rfl) Tryz.func31 (by kernel_rfl) (by kernel_rfl) (by kernel_rfl)
theorem qun (n_1 : Int) (h0 : List Int) (h1 : Int) : Le (
 bif (leB ((List.length h0 : Nat) : Int) h1) then
 some (0, h0, h1)
 else
 nth h0 h1 fun y0 =>
 chk (n_1 ≠ 0) <|
 bif (ltB (remI .i64 y0 n_1) 0) then
 some ((addI .i64 (remI .i64 y0 n_1) n_1), h0, (addI .i64 h1 1))
 else
 some ((remI .i64 y0 n_1), h0, (addI .i64 h1 1))
 ) (z1a n_1 h0 h1) :=
 q01 (T := tn) (c := q06 Tryz.f12) (o := ⟨[.lf (.i .i64)],[[.lf (.l .i64), .lf (.i .i64)]]⟩) sigOk 100000 (by kernel_rfl) Tryz.func12 (by kernel_rfl) (by kernel_rfl) (by kernel_rfl)
theorem y2l (l_1 h0 : List Int) (h1 : Int) : Le (
 Option.bind (z1a ((List.length l_1 : Nat) : Int) h0 h1) fun x0 =>
 nth l_1 x0.1 fun y1 =>
 some (y1, x0.2.1, x0.2.2)
 ) (z1j l_1 h0 h1) :=
 q01 (T := tn) (c := q06 Tryz.f43) (o := ⟨[.lf (.i .i64)],[[.lf (.l .i64), .lf (.i .i64)]]⟩) sigOk 100000 (by kernel_rfl) Tryz.func43 (by kernel_rfl) (by kernel_rfl) (by kernel_rfl)
theorem qt5 (x_1 : Trust) (h0 : List Int) (h1 : Int) : Le (
 bif (ltB 0 ((List.length x_1.Inner : Nat) : Int)) then
 Option.bind (z1a 2 h0 h1) fun x0 =>
 bif (eqB x0.1 1) then
 capOk (List.length ([] : List (Trust)) + List.length x_1.Inner) <|
 Option.bind (z1a ((List.length (([] : List (Trust)) ++ x_1.Inner) : Nat) : Int) x0.2.1 x0.2.2) fun x1 =>
 nth (([] : List (Trust)) ++ x_1.Inner) x1.1 fun _ =>
 nthN (([] : List (Trust)) ++ x_1.Inner) (Int.toNat x1.1) fun y2 =>
 Option.bind (z3x y2 x1.2.1 x1.2.2) fun x3 =>
 nth (([] : List (Trust)) ++ x_1.Inner) x1.1 fun _ =>
 nthN (([] : List (Trust)) ++ x_1.Inner) (Int.toNat x1.1) fun _y4 =>
 some ((Trust.mk x_1.Threshold x_1.Nodes (List.set (([] : List (Trust)) ++ x_1.Inner) (Int.toNat x1.1) (Trust.mk x3.1.Threshold x3.1.Nodes x3.1.Inner))), x3.2.1, x3.2.2)
 else
 Option.bind (z1a 6 x0.2.1 x0.2.2) fun x5 =>
 bif (eqB x5.1 0) then
 Option.bind (z1j ([0, (-1), (addI .i64 ((List.length x_1.Nodes : Nat) : Int) ((List.length x_1.Inner : Nat) : Int)), (addI .i64 (addI .i64 ((List.length x_1.Nodes : Nat) : Int) ((List.length x_1.Inner : Nat) : Int)) 1)] : List (Int)) x5.2.1 x5.2.2) fun x6 =>
 some ((Trust.mk x6.1 x_1.Nodes x_1.Inner), x6.2.1, x6.2.2)
 else
 bif (eqB x5.1 1) then
 capOk (List.length ([] : List (Int)) + List.length x_1.Nodes) <|
 Option.bind (z1j ([(-1), 0, 9, 10] : List (Int)) x5.2.1 x5.2.2) fun x7 =>
 capOk (List.length (([] : List (Int)) ++ x_1.Nodes) + List.length ([x7.1] : List (Int))) <|
 some ((Trust.mk x_1.Threshold ((([] : List (Int)) ++ x_1.Nodes) ++ ([x7.1] : List (Int))) x_1.Inner), x7.2.1, x7.2.2)
 else
 bif (eqB x5.1 2) then
 some ((Trust.mk x_1.Threshold ([] : List (Int)) x_1.Inner), x5.2.1, x5.2.2)
 else
 bif (eqB x5.1 3) then
 capOk (List.length ([] : List (Trust)) + List.length x_1.Inner) <|
 capOk (List.length (([] : List (Trust)) ++ x_1.Inner) + List.length ([(Trust.mk 0 ([] : List (Int)) ([] : List (Trust)))] : List (Trust))) <|
 some ((Trust.mk x_1.Threshold x_1.Nodes ((([] : List (Trust)) ++ x_1.Inner) ++ ([(Trust.mk 0 ([] : List (Int)) ([] : List (Trust)))] : List (Trust)))), x5.2.1, x5.2.2)
 else
 bif (eqB x5.1 4) then
 Option.bind (z1f 1 4 x5.2.1 x5.2.2) fun x8 =>
 z3a x8.1 x8.2.1 x8.2.2 x_1.Threshold x_1.Nodes x_1.Inner 0 ([] : List (Int)) ([] : List (Trust)) x_1.Threshold x_1.Nodes x_1.Inner
 else
 Option.bind (z1j ([20, 60, 101] : List (Int)) x5.2.1 x5.2.2) fun x9 =>
 z2v ([] : List (Trust)) x9.1 x9.2.1 x9.2.2 x_1.Threshold x_1.Nodes x_1.Inner 0 ([] : List (Int)) ([] : List (Trust))
 else
 Option.bind (z1a 6 h0 h1) fun x10 =>
 bif (eqB x10.1 0) then
 Option.bind (z1j ([0, (-1), (addI .i64 ((List.length x_1.Nodes : Nat) : Int) ((List.length x_1.Inner : Nat) : Int)), (addI .i64 (addI .i64 ((List.length x_1.Nodes : Nat) : Int) ((List.length x_1.Inner : Nat) : Int)) 1)] : List (Int)) x10.2.1 x10.2.2) fun x11 =>
 some ((Trust.mk x11.1 x_1.Nodes x_1.Inner), x11.2.1, x11.2.2)
 else
 bif (eqB x10.1 1) then
 capOk (List.length ([] : List (Int)) + List.length x_1.Nodes) <|
 Option.bind (z1j ([(-1), 0, 9, 10] : List (Int)) x10.2.1 x10.2.2) fun x12 =>
 capOk (List.length (([] : List (Int)) ++ x_1.Nodes) + List.length ([x12.1] : List (Int))) <|
 some ((Trust.mk x_1.Threshold ((([] : List (Int)) ++ x_1.Nodes) ++ ([x12.1] : List (Int))) x_1.Inner), x12.2.1, x12.2.2)
 else
 bif (eqB x10.1 2) then
 some ((Trust.mk x_1.Threshold ([] : List (Int)) x_1.Inner), x10.2.1, x10.2.2)
 else
 bif (eqB x10.1 3) then
 capOk (List.length ([] : List (Trust)) + List.length x_1.Inner) <|
 capOk (List.length (([] : List (Trust)) ++ x_1.Inner) + List.length ([(Trust.mk 0 ([] : List (Int)) ([] : List (Trust)))] : List (Trust))) <|
 some ((Trust.mk x_1.Threshold x_1.Nodes ((([] : List (Trust)) ++ x_1.Inner) ++ ([(Trust.mk 0 ([] : List (Int)) ([] : List (Trust)))] : List (Trust)))), x10.2.1, x10.2.2)
 else
 bif (eqB x10.1 4) then
 Option.bind (z1f 1 4 x10.2.1 x10.2.2) fun x13 =>
 z3a x13.1 x13.2.1 x13.2.2 x_1.Threshold x_1.Nodes x_1.Inner 0 ([] : List (Int)) ([] : List (Trust)) x_1.Threshold x_1.Nodes x_1.Inner
 else
 Option.bind (z1j ([20, 60, 101] : List (Int)) x10.2.1 x10.2.2) fun x14 =>
 z2v ([] : List (Trust)) x14.1 x14.2.1 x14.2.2 x_1.Threshold x_1.Nodes x_1.Inner 0 ([] : List (Int)) ([] : List (Trust))
 ) (z3x x_1 h0 h1) :=
 q01 (T := tn) (c := q06 Tryz.f55) (o := ⟨[.ag .Trust],[[.lf (.l .i64), .lf (.i .i64)]]⟩) sigOk 100000 (by kernel_rfl) Tryz.func55 (by kernel_rfl) (by kernel_rfl) (by kernel_rfl)
theorem y5m (c_0 : Config) : Le (
 bif (ltB 10 ((List.length c_0.Members : Nat) : Int)) then
 some 3
 else
 z26 c_0.Members ((List.length c_0.Members : Nat) : Int) 0 c_0.Members
 ) (z1z c_0) :=
 q01 (T := tn) (c := q06 Tryz.f35) (o := ⟨[.lf (.i .i64)],[]⟩) sigOk 100000 (by kernel_rfl) Tryz.func35 (by kernel_rfl) (by kernel_rfl) (by kernel_rfl)
theorem y6c (c_0 : Config) : Le (
 Option.bind (z3o c_0) fun x0 =>
 Option.bind (z4v x0) fun x1 =>
 z1d ([] : List (Int)) x1 ((List.length x1 : Nat) : Int) 0 c_0.Members
 ) (z21 c_0) :=
 q01 (T := tn) (c := q06 Tryz.f36) (o := ⟨[.lf (.l .i64)],[]⟩) sigOk 100000 (by kernel_rfl) Tryz.func36 (by kernel_rfl) (by kernel_rfl) (by kernel_rfl)
theorem y1y (c_0 : Config) : Le (
 bif (ltB 10 ((List.length c_0.Members : Nat) : Int)) then
 some 3
 else
 z3q c_0.Members ((List.length c_0.Members : Nat) : Int) 0 c_0.Members
 ) (z3u c_0) :=
 q01 (T := tn) (c := q06 Tryz.f38) (o := ⟨[.lf (.i .i64)],[]⟩) sigOk 100000 (by kernel_rfl) Tryz.func38 (by kernel_rfl) (by kernel_rfl) (by kernel_rfl)
theorem y2e (c_0 : Config) : Le (
 z4t ([] : List (Int)) 0 c_0.Members
 ) (z70 c_0) :=
 q01 (T := tn) (c := q06 Tryz.f40) (o := ⟨[.lf (.l .i64)],[]⟩) sigOk 100000 (by kernel_rfl) Tryz.func40 (by kernel_rfl) (by kernel_rfl) (by kernel_rfl)
theorem y33 (l_0 : List Int) : Le (
 z1u l_0 ([] : List (Int)) l_0 ((List.length l_0 : Nat) : Int) 0
 ) (z3e l_0) :=
 q01 (T := tn) (c := q06 Tryz.f39) (o := ⟨[.lf (.l .i64)],[]⟩) sigOk 100000 (by kernel_rfl) Tryz.func39 (by kernel_rfl) (by kernel_rfl) (by kernel_rfl)
theorem y3l (c_0 : Config) (s_1 : Int) : Le (
 Option.bind (z1z c_0) fun x0 =>
 bif (neB x0 0) then
 some x0
 else
 bif (ltB s_1 0) then
 some 1
 else
 Option.bind (z3o c_0) fun x1 =>
 bif (ltB x1 s_1) then
 some 1
 else
 some 0
 ) (z5j c_0 s_1) :=
 q01 (T := tn) (c := q06 Tryz.f41) (o := ⟨[.lf (.i .i64)],[]⟩) sigOk 100000 (by kernel_rfl) Tryz.func41 (by kernel_rfl) (by kernel_rfl) (by kernel_rfl)
theorem y2o (c_0 : Config) (s_1 : Int) : Le (
 Option.bind (z4u c_0 s_1) fun x0 =>
 Option.bind (z4r x0) fun x1 =>
 some (!x1.1)
 ) (z5n c_0 s_1) :=
 q01 (T := tn) (c := q06 Tryz.f45) (o := ⟨[.lf .b],[]⟩) sigOk 100000 (by kernel_rfl) Tryz.func45 (by kernel_rfl) (by kernel_rfl) (by kernel_rfl)
theorem y4q (c_0 : Config) (s_1 : Int) : Le (
 z1r s_1 c_0.Members ((List.length c_0.Members : Nat) : Int) 0 c_0.Members ([] : List (Member)) ([] : List (Member))
 ) (z4u c_0 s_1) :=
 q01 (T := tn) (c := q06 Tryz.f47) (o := ⟨[.ag .Config],[]⟩) sigOk 100000 (by kernel_rfl) Tryz.func47 (by kernel_rfl) (by kernel_rfl) (by kernel_rfl)
theorem y29 (c_0 : Config) : Le (
 Option.bind (z1z c_0) fun x0 =>
 bif (neB x0 0) then
 some (0, 0, x0)
 else
 Option.bind (z45 c_0) fun x1 =>
 bif (eqB x1.1 0) then
 some (0, 0, 11)
 else
 some (x1.1, x1.2, 0)
 ) (z3n c_0) :=
 q01 (T := tn) (c := q06 Tryz.f46) (o := ⟨[.lf (.i .i64), .lf (.i .i64), .lf (.i .i64)],[]⟩) sigOk 100000 (by kernel_rfl) Tryz.func46 (by kernel_rfl) (by kernel_rfl) (by kernel_rfl)
theorem qy3 (s_0 : Int) : Le (
 bif (leB 0 s_0) then
 some (leB s_0 1023)
 else
 some false
 ) (z1h s_0) :=
 q01 (T := tn) (c := q06 Tryz.f48) (o := ⟨[.lf .b],[]⟩) sigOk 100000 (by kernel_rfl) Tryz.func48 (by kernel_rfl) (by kernel_rfl) (by kernel_rfl)
theorem ql9 (c_0 : Config) : Le (
 Option.bind (z1z c_0) fun x0 =>
 bif (neB x0 0) then
 some x0
 else
 bif (ltB 7 ((List.length c_0.Members : Nat) : Int)) then
 some 3
 else
 some 0
 ) (z22 c_0) :=
 q01 (T := tn) (c := q06 Tryz.f60) (o := ⟨[.lf (.i .i64)],[]⟩) sigOk 100000 (by kernel_rfl) Tryz.func60 (by kernel_rfl) (by kernel_rfl) (by kernel_rfl)
theorem y4z (c_0 : Config) : Le (
 Option.bind (z3o c_0) fun x0 =>
 Option.bind (z4v x0) fun x1 =>
 z1b ([] : List (Int)) x1 ((List.length x1 : Nat) : Int) 0 c_0.Members
 ) (z20 c_0) :=
 q01 (T := tn) (c := q06 Tryz.f36) (o := ⟨[.lf (.l .i64)],[]⟩) sigOk 100000 (by kernel_rfl) Tryz.func36 (by kernel_rfl) (by kernel_rfl) (by kernel_rfl)
theorem y5y (c_0 : Config) (l_1 : List Int) : Le (
 bif (eqB ((List.length l_1 : Nat) : Int) 0) then
 some ((List.length c_0.Members : Nat) : Int)
 else
 nth l_1 0 fun y0 =>
 Option.bind (z4s y0) fun x1 =>
 some (subI .i64 x1 1)
 ) (z4f c_0 l_1) :=
 q01 (T := tn) (c := q06 Tryz.f61) (o := ⟨[.lf (.i .i64)],[]⟩) sigOk 100000 (by kernel_rfl) Tryz.func61 (by kernel_rfl) (by kernel_rfl) (by kernel_rfl)
theorem y5r (c_0 : Config) : Le (
 chk (0 ≤ ((List.length c_0.Members : Nat) : Int)) <|
 some (subI .i64 (shlI .i64 1 ((List.length c_0.Members : Nat) : Int)) 1)
 ) (z3o c_0) :=
 q01 (T := tn) (c := q06 Tryz.f67) (o := ⟨[.lf (.i .i64)],[]⟩) sigOk 100000 (by kernel_rfl) Tryz.func67 (by kernel_rfl) (by kernel_rfl) (by kernel_rfl)
theorem y32 (s_0 : Int) : Le (
 z2f s_0 ([] : List (Int)) 0
 ) (z4v s_0) :=
 q01 (T := tn) (c := q06 Tryz.f66) (o := ⟨[.lf (.l .i64)],[]⟩) sigOk 100000 (by kernel_rfl) Tryz.func66 (by kernel_rfl) (by kernel_rfl) (by kernel_rfl)
theorem y4d (c_0 : Config) : Le (
 Option.bind (z1z c_0) fun x0 =>
 bif (neB x0 0) then
 some (false, x0)
 else
 Option.bind (z45 c_0) fun x1 =>
 some ((eqB x1.1 0), 0)
 ) (z4r c_0) :=
 q01 (T := tn) (c := q06 Tryz.f73) (o := ⟨[.lf .b, .lf (.i .i64)],[]⟩) sigOk 100000 (by kernel_rfl) Tryz.func73 (by kernel_rfl) (by kernel_rfl) (by kernel_rfl)
theorem y5b (c_0 : Config) : Le (
 z1k ((List.length c_0.Members : Nat) : Int) 0 true c_0.Members
 ) (z45 c_0) :=
 q01 (T := tn) (c := q06 Tryz.f74) (o := ⟨[.lf (.i .i64), .lf (.i .i64)],[]⟩) sigOk 100000 (by kernel_rfl) Tryz.func74 (by kernel_rfl) (by kernel_rfl) (by kernel_rfl)
end Go.Proofs.YtfjcndlhpfbcgaaGreat
