/- What the functions come to, printed by a program and checked by the kernel. -/
import Derived.Test.YtfjcndlhpfbcgaaP16Df
namespace Go.Proofs.Ytfjcndlhpfbcgaa
open Go Go.Ab
set_option maxRecDepth 100000
theorem law16_DangerUniform_le (a_0 b_1 : Int) : Le (
 chk ((addI .i64 1 (remI .i64 (IntKind.wrap .i64 a_0) 7)) ≠ 0) <|
 Option.bind (law16_same (addI .i64 1 (remI .i64 (IntKind.wrap .i64 a_0) 7)) (addI .i64 1 (remI .i64 (IntKind.wrap .i64 b_1) (addI .i64 1 (remI .i64 (IntKind.wrap .i64 a_0) 7))))) fun x0 =>
 Option.bind (z2j x0) fun x1 =>
 Option.bind (z36 x0) fun x2 =>
 Option.bind (z2k x0) fun x3 =>
 bif (neB x1.2 0) then
 some false
 else
 bif (neB x2.2 0) then
 some false
 else
 bif (neB x3.2.2 0) then
 some false
 else
 bif (neB x3.2.1 (subI .i64 (addI .i64 1 (remI .i64 (IntKind.wrap .i64 a_0) 7)) (addI .i64 1 (remI .i64 (IntKind.wrap .i64 b_1) (addI .i64 1 (remI .i64 (IntKind.wrap .i64 a_0) 7)))))) then
 some false
 else
 z17 (addI .i64 1 (remI .i64 (IntKind.wrap .i64 a_0) 7)) (addI .i64 1 (remI .i64 (IntKind.wrap .i64 b_1) (addI .i64 1 (remI .i64 (IntKind.wrap .i64 a_0) 7)))) x1.1 x2.1 x3.1 0 0 (if (subI .i64 (mulI .i64 2 (addI .i64 1 (remI .i64 (IntKind.wrap .i64 b_1) (addI .i64 1 (remI .i64 (IntKind.wrap .i64 a_0) 7))))) (addI .i64 1 (remI .i64 (IntKind.wrap .i64 a_0) 7))) > 0 then (subI .i64 (mulI .i64 2 (addI .i64 1 (remI .i64 (IntKind.wrap .i64 b_1) (addI .i64 1 (remI .i64 (IntKind.wrap .i64 a_0) 7))))) (addI .i64 1 (remI .i64 (IntKind.wrap .i64 a_0) 7))) else 0) 0 x0.Members
 ) (law16_DangerUniform a_0 b_1) :=
 callC_le (T := tn) (c := bodyOf Try.f3) (o := ⟨[.lf .b],[]⟩) sigOk 100000 (by kernel_rfl) Try.func3 (by kernel_rfl) (by kernel_rfl) (by kernel_rfl)
theorem z2j_le (c_0 : Config) : Le (
 Option.bind (z2t c_0) fun x0 =>
 bif (neB x0 0) then
 some (([] : List (Int)), x0)
 else
 Option.bind (z1m c_0) fun x1 =>
 some (x1, 0)
 ) (z2j c_0) :=
 callC_le (T := tn) (c := bodyOf Try.f6) (o := ⟨[.lf (.l .i64), .lf (.i .i64)],[]⟩) sigOk 100000 (by kernel_rfl) Try.func6 (by kernel_rfl) (by kernel_rfl) (by kernel_rfl)
theorem law16_same_le (n_0 k_1 : Int) : Le (
 z2z n_0 0 ([] : List (Member)) k_1 ([] : List (Int)) ([] : List (Trust))
 ) (law16_same n_0 k_1) :=
 callC_le (T := tn) (c := bodyOf Try.f5) (o := ⟨[.ag .Config],[]⟩) sigOk 100000 (by kernel_rfl) Try.func5 (by kernel_rfl) (by kernel_rfl) (by kernel_rfl)
theorem z36_le (c_0 : Config) : Le (
 Option.bind (z21 c_0) fun x0 =>
 bif (neB x0 0) then
 some (([] : List (Int)), x0)
 else
 Option.bind (z1n c_0) fun x1 =>
 some (x1, 0)
 ) (z36 c_0) :=
 callC_le (T := tn) (c := bodyOf Try.f7) (o := ⟨[.lf (.l .i64), .lf (.i .i64)],[]⟩) sigOk 100000 (by kernel_rfl) Try.func7 (by kernel_rfl) (by kernel_rfl) (by kernel_rfl)
theorem z2k_le (c_0 : Config) : Le (
 Option.bind (z2t c_0) fun x0 =>
 bif (neB x0 0) then
 some (0, 0, x0)
 else
 Option.bind (z1m c_0) fun x1 =>
 Option.bind (z2l c_0 x1) fun x2 =>
 Option.bind (z1n c_0) fun x3 =>
 Option.bind (z2l c_0 x3) fun x4 =>
 some (x2, x4, 0)
 ) (z2k c_0) :=
 callC_le (T := tn) (c := bodyOf Try.f8) (o := ⟨[.lf (.i .i64), .lf (.i .i64), .lf (.i .i64)],[]⟩) sigOk 100000 (by kernel_rfl) Try.func8 (by kernel_rfl) (by kernel_rfl) (by kernel_rfl)
theorem z2t_le (c_0 : Config) : Le (
 Option.bind (z21 c_0) fun x0 =>
 bif (neB x0 0) then
 some x0
 else
 bif (ltB 7 ((List.length c_0.Members : Nat) : Int)) then
 some 3
 else
 some 0
 ) (z2t c_0) :=
 callC_le (T := tn) (c := bodyOf Try.f15) (o := ⟨[.lf (.i .i64)],[]⟩) sigOk 100000 (by kernel_rfl) Try.func15 (by kernel_rfl) (by kernel_rfl) (by kernel_rfl)
theorem z1m_le (c_0 : Config) : Le (
 Option.bind (z2m c_0) fun x0 =>
 Option.bind (z2w x0) fun x1 =>
 z1b ([] : List (Int)) x1 ((List.length x1 : Nat) : Int) 0 c_0.Members
 ) (z1m c_0) :=
 callC_le (T := tn) (c := bodyOf Try.f16) (o := ⟨[.lf (.l .i64)],[]⟩) sigOk 100000 (by kernel_rfl) Try.func16 (by kernel_rfl) (by kernel_rfl) (by kernel_rfl)
theorem z21_le (c_0 : Config) : Le (
 bif (ltB 10 ((List.length c_0.Members : Nat) : Int)) then
 some 3
 else
 z1o c_0.Members ((List.length c_0.Members : Nat) : Int) 0 c_0.Members
 ) (z21 c_0) :=
 callC_le (T := tn) (c := bodyOf Try.f18) (o := ⟨[.lf (.i .i64)],[]⟩) sigOk 100000 (by kernel_rfl) Try.func18 (by kernel_rfl) (by kernel_rfl) (by kernel_rfl)
theorem z1n_le (c_0 : Config) : Le (
 Option.bind (z2m c_0) fun x0 =>
 Option.bind (z2w x0) fun x1 =>
 z1d ([] : List (Int)) x1 ((List.length x1 : Nat) : Int) 0 c_0.Members
 ) (z1n c_0) :=
 callC_le (T := tn) (c := bodyOf Try.f16) (o := ⟨[.lf (.l .i64)],[]⟩) sigOk 100000 (by kernel_rfl) Try.func16 (by kernel_rfl) (by kernel_rfl) (by kernel_rfl)
theorem z2l_le (c_0 : Config) (l_1 : List Int) : Le (
 bif (eqB ((List.length l_1 : Nat) : Int) 0) then
 some ((List.length c_0.Members : Nat) : Int)
 else
 nth l_1 0 fun y0 =>
 Option.bind (z2u y0) fun x1 =>
 some (subI .i64 x1 1)
 ) (z2l c_0 l_1) :=
 callC_le (T := tn) (c := bodyOf Try.f20) (o := ⟨[.lf (.i .i64)],[]⟩) sigOk 100000 (by kernel_rfl) Try.func20 (by kernel_rfl) (by kernel_rfl) (by kernel_rfl)
theorem z2m_le (c_0 : Config) : Le (
 chk (0 ≤ ((List.length c_0.Members : Nat) : Int)) <|
 some (subI .i64 (shlI .i64 1 ((List.length c_0.Members : Nat) : Int)) 1)
 ) (z2m c_0) :=
 callC_le (T := tn) (c := bodyOf Try.f30) (o := ⟨[.lf (.i .i64)],[]⟩) sigOk 100000 (by kernel_rfl) Try.func30 (by kernel_rfl) (by kernel_rfl) (by kernel_rfl)
theorem z2w_le (s_0 : Int) : Le (
 z1s s_0 ([] : List (Int)) 0
 ) (z2w s_0) :=
 callC_le (T := tn) (c := bodyOf Try.f29) (o := ⟨[.lf (.l .i64)],[]⟩) sigOk 100000 (by kernel_rfl) Try.func29 (by kernel_rfl) (by kernel_rfl) (by kernel_rfl)
theorem z2u_le (s_0 : Int) : Le (
 Option.bind (z1j s_0) fun x0 =>
 bif (!x0) then
 some 0
 else
 Option.bind (z3j (IntKind.wrap .u64 s_0)) fun x1 =>
 some x1
 ) (z2u s_0) :=
 callC_le (T := tn) (c := bodyOf Try.f36) (o := ⟨[.lf (.i .i64)],[]⟩) sigOk 100000 (by kernel_rfl) Try.func36 (by kernel_rfl) (by kernel_rfl) (by kernel_rfl)
theorem z1j_le (s_0 : Int) : Le (
 Option.bind (z1w s_0 10) fun x0 =>
 some x0
 ) (z1j s_0) :=
 callC_le (T := tn) (c := bodyOf Try.f40) (o := ⟨[.lf .b],[]⟩) sigOk 100000 (by kernel_rfl) Try.func40 (by kernel_rfl) (by kernel_rfl) (by kernel_rfl)
theorem z3j_le (x_0 : Int) : Le (
 Option.bind (z3c x_0) fun x0 =>
 some x0
 ) (z3j x_0) :=
 callC_le (T := tn) (c := bodyOf Try.f56) (o := ⟨[.lf (.i .i64)],[]⟩) sigOk 100000 (by kernel_rfl) Try.func56 (by kernel_rfl) (by kernel_rfl) (by kernel_rfl)
theorem z1w_le (s_0 n_1 : Int) : Le (
 bif (leB 0 s_0) then
 chk (0 ≤ n_1) <|
 some (ltB s_0 (shlI .i64 1 n_1))
 else
 some false
 ) (z1w s_0 n_1) :=
 callC_le (T := tn) (c := bodyOf Try.f61) (o := ⟨[.lf .b],[]⟩) sigOk 100000 (by kernel_rfl) Try.func61 (by kernel_rfl) (by kernel_rfl) (by kernel_rfl)
theorem z3c_le (x_0 : Int) : Le (
 some (andI .i64 (IntKind.wrap .i64 (addI .u64 (addI .u64 (addI .u64 (andI .u64 (addI .u64 (shrI .u64 (addI .u64 (andI .u64 (shrI .u64 (addI .u64 (andI .u64 (shrI .u64 x_0 1) 6148914691236517205) (andI .u64 x_0 6148914691236517205)) 2) 3689348814741910323) (andI .u64 (addI .u64 (andI .u64 (shrI .u64 x_0 1) 6148914691236517205) (andI .u64 x_0 6148914691236517205)) 3689348814741910323)) 4) (addI .u64 (andI .u64 (shrI .u64 (addI .u64 (andI .u64 (shrI .u64 x_0 1) 6148914691236517205) (andI .u64 x_0 6148914691236517205)) 2) 3689348814741910323) (andI .u64 (addI .u64 (andI .u64 (shrI .u64 x_0 1) 6148914691236517205) (andI .u64 x_0 6148914691236517205)) 3689348814741910323))) 1085102592571150095) (shrI .u64 (andI .u64 (addI .u64 (shrI .u64 (addI .u64 (andI .u64 (shrI .u64 (addI .u64 (andI .u64 (shrI .u64 x_0 1) 6148914691236517205) (andI .u64 x_0 6148914691236517205)) 2) 3689348814741910323) (andI .u64 (addI .u64 (andI .u64 (shrI .u64 x_0 1) 6148914691236517205) (andI .u64 x_0 6148914691236517205)) 3689348814741910323)) 4) (addI .u64 (andI .u64 (shrI .u64 (addI .u64 (andI .u64 (shrI .u64 x_0 1) 6148914691236517205) (andI .u64 x_0 6148914691236517205)) 2) 3689348814741910323) (andI .u64 (addI .u64 (andI .u64 (shrI .u64 x_0 1) 6148914691236517205) (andI .u64 x_0 6148914691236517205)) 3689348814741910323))) 1085102592571150095) 8)) (shrI .u64 (addI .u64 (andI .u64 (addI .u64 (shrI .u64 (addI .u64 (andI .u64 (shrI .u64 (addI .u64 (andI .u64 (shrI .u64 x_0 1) 6148914691236517205) (andI .u64 x_0 6148914691236517205)) 2) 3689348814741910323) (andI .u64 (addI .u64 (andI .u64 (shrI .u64 x_0 1) 6148914691236517205) (andI .u64 x_0 6148914691236517205)) 3689348814741910323)) 4) (addI .u64 (andI .u64 (shrI .u64 (addI .u64 (andI .u64 (shrI .u64 x_0 1) 6148914691236517205) (andI .u64 x_0 6148914691236517205)) 2) 3689348814741910323) (andI .u64 (addI .u64 (andI .u64 (shrI .u64 x_0 1) 6148914691236517205) (andI .u64 x_0 6148914691236517205)) 3689348814741910323))) 1085102592571150095) (shrI .u64 (andI .u64 (addI .u64 (shrI .u64 (addI .u64 (andI .u64 (shrI .u64 (addI .u64 (andI .u64 (shrI .u64 x_0 1) 6148914691236517205) (andI .u64 x_0 6148914691236517205)) 2) 3689348814741910323) (andI .u64 (addI .u64 (andI .u64 (shrI .u64 x_0 1) 6148914691236517205) (andI .u64 x_0 6148914691236517205)) 3689348814741910323)) 4) (addI .u64 (andI .u64 (shrI .u64 (addI .u64 (andI .u64 (shrI .u64 x_0 1) 6148914691236517205) (andI .u64 x_0 6148914691236517205)) 2) 3689348814741910323) (andI .u64 (addI .u64 (andI .u64 (shrI .u64 x_0 1) 6148914691236517205) (andI .u64 x_0 6148914691236517205)) 3689348814741910323))) 1085102592571150095) 8)) 16)) (shrI .u64 (addI .u64 (addI .u64 (andI .u64 (addI .u64 (shrI .u64 (addI .u64 (andI .u64 (shrI .u64 (addI .u64 (andI .u64 (shrI .u64 x_0 1) 6148914691236517205) (andI .u64 x_0 6148914691236517205)) 2) 3689348814741910323) (andI .u64 (addI .u64 (andI .u64 (shrI .u64 x_0 1) 6148914691236517205) (andI .u64 x_0 6148914691236517205)) 3689348814741910323)) 4) (addI .u64 (andI .u64 (shrI .u64 (addI .u64 (andI .u64 (shrI .u64 x_0 1) 6148914691236517205) (andI .u64 x_0 6148914691236517205)) 2) 3689348814741910323) (andI .u64 (addI .u64 (andI .u64 (shrI .u64 x_0 1) 6148914691236517205) (andI .u64 x_0 6148914691236517205)) 3689348814741910323))) 1085102592571150095) (shrI .u64 (andI .u64 (addI .u64 (shrI .u64 (addI .u64 (andI .u64 (shrI .u64 (addI .u64 (andI .u64 (shrI .u64 x_0 1) 6148914691236517205) (andI .u64 x_0 6148914691236517205)) 2) 3689348814741910323) (andI .u64 (addI .u64 (andI .u64 (shrI .u64 x_0 1) 6148914691236517205) (andI .u64 x_0 6148914691236517205)) 3689348814741910323)) 4) (addI .u64 (andI .u64 (shrI .u64 (addI .u64 (andI .u64 (shrI .u64 x_0 1) 6148914691236517205) (andI .u64 x_0 6148914691236517205)) 2) 3689348814741910323) (andI .u64 (addI .u64 (andI .u64 (shrI .u64 x_0 1) 6148914691236517205) (andI .u64 x_0 6148914691236517205)) 3689348814741910323))) 1085102592571150095) 8)) (shrI .u64 (addI .u64 (andI .u64 (addI .u64 (shrI .u64 (addI .u64 (andI .u64 (shrI .u64 (addI .u64 (andI .u64 (shrI .u64 x_0 1) 6148914691236517205) (andI .u64 x_0 6148914691236517205)) 2) 3689348814741910323) (andI .u64 (addI .u64 (andI .u64 (shrI .u64 x_0 1) 6148914691236517205) (andI .u64 x_0 6148914691236517205)) 3689348814741910323)) 4) (addI .u64 (andI .u64 (shrI .u64 (addI .u64 (andI .u64 (shrI .u64 x_0 1) 6148914691236517205) (andI .u64 x_0 6148914691236517205)) 2) 3689348814741910323) (andI .u64 (addI .u64 (andI .u64 (shrI .u64 x_0 1) 6148914691236517205) (andI .u64 x_0 6148914691236517205)) 3689348814741910323))) 1085102592571150095) (shrI .u64 (andI .u64 (addI .u64 (shrI .u64 (addI .u64 (andI .u64 (shrI .u64 (addI .u64 (andI .u64 (shrI .u64 x_0 1) 6148914691236517205) (andI .u64 x_0 6148914691236517205)) 2) 3689348814741910323) (andI .u64 (addI .u64 (andI .u64 (shrI .u64 x_0 1) 6148914691236517205) (andI .u64 x_0 6148914691236517205)) 3689348814741910323)) 4) (addI .u64 (andI .u64 (shrI .u64 (addI .u64 (andI .u64 (shrI .u64 x_0 1) 6148914691236517205) (andI .u64 x_0 6148914691236517205)) 2) 3689348814741910323) (andI .u64 (addI .u64 (andI .u64 (shrI .u64 x_0 1) 6148914691236517205) (andI .u64 x_0 6148914691236517205)) 3689348814741910323))) 1085102592571150095) 8)) 16)) 32))) 127)
 ) (z3c x_0) :=
 callC_le (T := tn) (c := bodyOf Try.f79) (o := ⟨[.lf (.i .i64)],[]⟩) sigOk 100000 (by kernel_rfl) Try.func79 (by kernel_rfl) (by kernel_rfl) (by kernel_rfl)
theorem law16_awake_le  : Le (
 Option.bind (law16_same 4 3) fun x0 =>
 Option.bind (z2j x0) fun x1 =>
 Option.bind (law16_same 4 3) fun x2 =>
 Option.bind (z36 x2) fun x3 =>
 Option.bind (law16_same 4 3) fun x4 =>
 Option.bind (z2k x4) fun x5 =>
 bif (eqB x1.2 0) then
 bif (eqB x3.2 0) then
 bif (eqB x5.2.2 0) then
 Option.bind (z3v x1.1 ([3, 5, 6, 9, 10, 12] : List (Int))) fun x6 =>
 bif x6 then
 Option.bind (z3v x3.1 x1.1) fun x7 =>
 bif x7 then
 bif (eqB x5.1 1) then
 some (eqB x5.2.1 1)
 else
 some false
 else
 some false
 else
 some false
 else
 some false
 else
 some false
 else
 some false
 ) (law16_awake) :=
 callC_le (T := tn) (c := bodyOf Try.f10) (o := ⟨[.lf .b],[]⟩) sigOk 100000 (by kernel_rfl) Try.func10 (by kernel_rfl) (by kernel_rfl) (by kernel_rfl)
theorem z3p_le (c_0 : Config) (s_1 : Int) : Le (
 Option.bind (z3e c_0 s_1) fun x0 =>
 Option.bind (z2v x0) fun x1 =>
 some (!x1.1)
 ) (z3p c_0 s_1) :=
 callC_le (T := tn) (c := bodyOf Try.f17) (o := ⟨[.lf .b],[]⟩) sigOk 100000 (by kernel_rfl) Try.func17 (by kernel_rfl) (by kernel_rfl) (by kernel_rfl)
theorem z3v_le (a_0 b_1 : List Int) : Le (
 bif (neB ((List.length a_0 : Nat) : Int) ((List.length b_1 : Nat) : Int)) then
 some false
 else
 z3g a_0 b_1 ((List.length a_0 : Nat) : Int) 0
 ) (z3v a_0 b_1) :=
 callC_le (T := tn) (c := bodyOf Try.f22) (o := ⟨[.lf .b],[]⟩) sigOk 100000 (by kernel_rfl) Try.func22 (by kernel_rfl) (by kernel_rfl) (by kernel_rfl)
theorem z3e_le (c_0 : Config) (s_1 : Int) : Le (
 z1k s_1 c_0.Members ((List.length c_0.Members : Nat) : Int) 0 c_0.Members ([] : List (Member)) ([] : List (Member))
 ) (z3e c_0 s_1) :=
 callC_le (T := tn) (c := bodyOf Try.f33) (o := ⟨[.ag .Config],[]⟩) sigOk 100000 (by kernel_rfl) Try.func33 (by kernel_rfl) (by kernel_rfl) (by kernel_rfl)
theorem z2v_le (c_0 : Config) : Le (
 Option.bind (z21 c_0) fun x0 =>
 bif (neB x0 0) then
 some (false, x0)
 else
 Option.bind (z32 c_0) fun x1 =>
 some ((eqB x1.1 0), 0)
 ) (z2v c_0) :=
 callC_le (T := tn) (c := bodyOf Try.f32) (o := ⟨[.lf .b, .lf (.i .i64)],[]⟩) sigOk 100000 (by kernel_rfl) Try.func32 (by kernel_rfl) (by kernel_rfl) (by kernel_rfl)
theorem z32_le (c_0 : Config) : Le (
 z1g ((List.length c_0.Members : Nat) : Int) 0 true c_0.Members
 ) (z32 c_0) :=
 callC_le (T := tn) (c := bodyOf Try.f48) (o := ⟨[.lf (.i .i64), .lf (.i .i64)],[]⟩) sigOk 100000 (by kernel_rfl) Try.func48 (by kernel_rfl) (by kernel_rfl) (by kernel_rfl)
theorem z17_le (a0 a2 : Int) (a4 a6 : List Int) (a8 a10 a12 a14 a16 : Int) (a18 : List Member) : Le (
 chk (0 ≤ a0) <|
 bif (ltB a16 (shlI .i64 1 a0)) then
 Option.bind (z2r a16) fun x0 =>
 bif (eqB x0 a14) then
 bif (ltB a2 a0) then
 Option.bind (z2r a16) fun x1 =>
 bif (eqB x1 (addI .i64 (subI .i64 a0 a2) 1)) then
 z17 a0 a2 a4 a6 a8 (addI .i64 a10 1) (addI .i64 a12 1) a14 (addI .i64 a16 1) a18
 else
 z17 a0 a2 a4 a6 a8 (addI .i64 a10 1) a12 a14 (addI .i64 a16 1) a18
 else
 Option.bind (z2r a16) fun x2 =>
 bif (eqB x2 (addI .i64 (subI .i64 a0 a2) 1)) then
 z17 a0 a2 a4 a6 a8 a10 (addI .i64 a12 1) a14 (addI .i64 a16 1) a18
 else
 z17 a0 a2 a4 a6 a8 a10 a12 a14 (addI .i64 a16 1) a18
 else
 Option.bind (z2r a16) fun x3 =>
 bif (eqB x3 (addI .i64 (subI .i64 a0 a2) 1)) then
 z17 a0 a2 a4 a6 a8 a10 (addI .i64 a12 1) a14 (addI .i64 a16 1) a18
 else
 z17 a0 a2 a4 a6 a8 a10 a12 a14 (addI .i64 a16 1) a18
 else
 z1p a0 a2 a4 a6 a8 a10 a12 a14 a4 ((List.length a4 : Nat) : Int) 0 a18
 ) (z17 a0 a2 a4 a6 a8 a10 a12 a14 a16 a18) :=
 goC_loopAt (T := tn) (o := ⟨[.lf .b],[]⟩) sigOk 100000 (b := codeAt Try.f3 [1,1,1,1,1,1,1,1,1,1,0,1,0,0]) (by kernel_rfl) (by kernel_rfl)
theorem z2r_le (s_0 : Int) : Le (
 z30 s_0 0 0
 ) (z2r s_0) :=
 callC_le (T := tn) (c := bodyOf Try.f9) (o := ⟨[.lf (.i .i64)],[]⟩) sigOk 100000 (by kernel_rfl) Try.func9 (by kernel_rfl) (by kernel_rfl) (by kernel_rfl)
end Go.Proofs.Ytfjcndlhpfbcgaa
