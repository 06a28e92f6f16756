/- What the functions come to, printed by a program and checked by the kernel. -/
import Derived.Test.YtfjcndlhpfbcgaaP16Df
namespace Go.Proofs.Ytfjcndlhpfbcgaa
open Go Go.Ab
set_option maxRecDepth 100000
theorem z3a_le (x_0 : Int) : Le (
 some (neB x_0 x_0)
 ) (z3a x_0) :=
 callC_le (T := tn) (c := bodyOf Try.f91) (o := ⟨[.lf .b],[]⟩) sigOk 100000 (by kernel_rfl) Try.func91 (by kernel_rfl) (by kernel_rfl) (by kernel_rfl)
theorem z1y_le (a1 : Int) (a3 : List Int) (a5 a7 a9 : Int) (a11 : List Int) (a13 : List Trust) : Le (
 bif (ltB a7 a5) then
 nth a3 a7 fun y0 =>
 Option.bind (z3b y0) fun x1 =>
 bif x1 then
 chk (0 ≤ y0) <|
 z1y (orI .i64 a1 (shlI .i64 1 y0)) a3 a5 (addI .i64 a7 1) a9 a11 a13
 else
 z1y a1 a3 a5 (addI .i64 a7 1) a9 a11 a13
 else
 z20 a1 a13 ((List.length a13 : Nat) : Int) 0 a9 a11 a13
 ) (z1y a1 a3 a5 a7 a9 a11 a13) :=
 goC_loopAt (T := tn) (o := ⟨[.lf (.i .i64)],[]⟩) sigOk 100000 (b := codeAt Try.f54 [1,1,0,1,0,0]) (by kernel_rfl) (by kernel_rfl)
theorem z3b_le (k_0 : Int) : Le (
 bif (leB 0 k_0) then
 some (ltB k_0 10)
 else
 some false
 ) (z3b k_0) :=
 callC_le (T := tn) (c := bodyOf Try.f75) (o := ⟨[.lf .b],[]⟩) sigOk 100000 (by kernel_rfl) Try.func75 (by kernel_rfl) (by kernel_rfl) (by kernel_rfl)
theorem z23_le (a0 : Int) (a2 : List Trust) (a4 a6 a8 : Int) (a10 : List Int) (a12 : List Trust) : Le (
 bif (ltB a6 a4) then
 nth a2 a6 fun y0 =>
 Option.bind (z2x y0) fun x1 =>
 z23 (if x1 > a0 then x1 else a0) a2 a4 (addI .i64 a6 1) a8 a10 a12
 else
 some (addI .i64 a0 1)
 ) (z23 a0 a2 a4 a6 a8 a10 a12) :=
 goC_loopAt (T := tn) (o := ⟨[.lf (.i .i64)],[]⟩) sigOk 100000 (b := codeAt Try.f72 [1,1,0,1,0,0]) (by kernel_rfl) (by kernel_rfl)
theorem z28_le (a0 : Int) (a2 : List Trust) (a4 a6 a8 : Int) (a10 : List Int) (a12 : List Trust) : Le (
 bif (ltB a6 a4) then
 nth a2 a6 fun y0 =>
 Option.bind (z38 y0) fun x1 =>
 z28 (addI .i64 a0 x1) a2 a4 (addI .i64 a6 1) a8 a10 a12
 else
 some a0
 ) (z28 a0 a2 a4 a6 a8 a10 a12) :=
 goC_loopAt (T := tn) (o := ⟨[.lf (.i .i64)],[]⟩) sigOk 100000 (b := codeAt Try.f73 [1,1,0,1,0,0]) (by kernel_rfl) (by kernel_rfl)
theorem z24_le (a0 : List Trust) (a2 a4 a6 : Int) (a8 : List Int) (a10 : List Trust) : Le (
 bif (ltB a4 a2) then
 nth a0 a4 fun y0 =>
 Option.bind (z2y y0) fun x1 =>
 bif (neB x1 0) then
 some x1
 else
 z24 a0 a2 (addI .i64 a4 1) a6 a8 a10
 else
 some 0
 ) (z24 a0 a2 a4 a6 a8 a10) :=
 goC_loopAt (T := tn) (o := ⟨[.lf (.i .i64)],[]⟩) sigOk 100000 (b := codeAt Try.f74 [1,1,1,1,0,1,0,0]) (by kernel_rfl) (by kernel_rfl)
theorem z2b_le (a0 : Int) (a2 : List Int) (a4 a6 : Int) : Le (
 bif (ltB a6 a4) then
 nth a2 a6 fun y0 =>
 bif (ltB y0 0) then
 some (0, 5)
 else
 bif (leB 10 y0) then
 some (0, 5)
 else
 Option.bind (z2s a0 y0) fun x1 =>
 bif x1 then
 some (0, 6)
 else
 chk (0 ≤ y0) <|
 z2b (orI .i64 a0 (shlI .i64 1 y0)) a2 a4 (addI .i64 a6 1)
 else
 some (a0, 0)
 ) (z2b a0 a2 a4 a6) :=
 goC_loopAt (T := tn) (o := ⟨[.lf (.i .i64), .lf (.i .i64)],[]⟩) sigOk 100000 (b := codeAt Try.f95 [1,1,0,1,0,0]) (by kernel_rfl) (by kernel_rfl)
theorem z0f_le (a0 : List Int) (a3 a5 : Int) : Le (
 bif (ltB a5 a3) then
 nth a0 a5 fun y0 =>
 Option.bind (z34 y0) fun x1 =>
 bif x1 then
 some a5
 else
 z0f a0 a3 (addI .i64 a5 1)
 else
 some (-1)
 ) (z0f a0 a3 a5) :=
 goC_loopAt (T := tn) (o := ⟨[.lf (.i .i64)],[]⟩) sigOk 100000 (b := codeAt Try.f67 [1,0,1,0,0]) (by kernel_rfl) (by kernel_rfl)
theorem z34_le (k_0 : Int) : Le (
 Option.bind (z3b k_0) fun x0 =>
 some (!x0)
 ) (z34 k_0) :=
 callC_le (T := tn) (c := bodyOf Try.f94) (o := ⟨[.lf .b],[]⟩) sigOk 100000 (by kernel_rfl) Try.func94 (by kernel_rfl) (by kernel_rfl) (by kernel_rfl)
theorem z1u_le (a0 : Int) (a3 : List Int) (a5 : List Member) : Le (
 Option.bind (z29 (Config.mk a5) a0) fun x0 =>
 bif (!x0.2) then
 some (a0, a3)
 else
 capOk (List.length a3 + List.length ([x0.1] : List (Int))) <|
 chk (0 ≤ x0.1) <|
 z1u (andNotI .i64 a0 (shlI .i64 1 x0.1)) (a3 ++ ([x0.1] : List (Int))) a5
 ) (z1u a0 a3 a5) :=
 goC_loopAt (T := tn) (o := ⟨[.lf (.i .i64), .lf (.l .i64)],[]⟩) sigOk 100000 (b := codeAt Try.f55 [1,1,1,1,0,0]) (by kernel_rfl) (by kernel_rfl)
theorem z1e_le (a0 : Int) (a2 : List Member) (a4 a6 : Int) (a8 : List Member) : Le (
 bif (ltB a6 a4) then
 nth a2 a6 fun y0 =>
 bif y0.Declared then
 bif (ltB a6 10) then
 chk (0 ≤ a6) <|
 z1e (orI .i64 a0 (shlI .i64 1 a6)) a2 a4 (addI .i64 a6 1) a8
 else
 z1e a0 a2 a4 (addI .i64 a6 1) a8
 else
 z1e a0 a2 a4 (addI .i64 a6 1) a8
 else
 some a0
 ) (z1e a0 a2 a4 a6 a8) :=
 goC_loopAt (T := tn) (o := ⟨[.lf (.i .i64)],[]⟩) sigOk 100000 (b := codeAt Try.f76 [1,1,0,1,0,0]) (by kernel_rfl) (by kernel_rfl)
theorem z25_le (a2 : List Trust) (a4 a6 a8 : Int) (a10 : List Int) (a12 : List Trust) (a14 : Int) (a16 : List Int) (a18 : List Trust) (a20 : Int) (a22 : List Int) (a24 : List Trust) : Le (
 bif (ltB a6 a4) then
 nth a2 a6 fun y0 =>
 Option.bind (z2e y0) fun x1 =>
 capOk (List.length a24 + List.length ([(Trust.mk x1.Threshold x1.Nodes x1.Inner)] : List (Trust))) <|
 z25 a2 a4 (addI .i64 a6 1) a8 a10 a12 a14 a16 a18 a20 a22 (a24 ++ ([(Trust.mk x1.Threshold x1.Nodes x1.Inner)] : List (Trust)))
 else
 some (Trust.mk a20 a22 a24)
 ) (z25 a2 a4 a6 a8 a10 a12 a14 a16 a18 a20 a22 a24) :=
 goC_loopAt (T := tn) (o := ⟨[.ag .Trust],[]⟩) sigOk 100000 (b := codeAt Try.f51 [1,1,0,1,0,0]) (by kernel_rfl) (by kernel_rfl)
theorem z1z_le (a0 : Int) (a5 : List Int) (a7 a9 a11 : Int) (a13 : List Int) (a15 : List Trust) (a17 : Int) (a19 : List Int) (a21 : List Trust) (a23 : Int) (a25 : List Int) (a27 : List Trust) : Le (
 bif (ltB a9 a7) then
 nth a5 a9 fun y0 =>
 Option.bind (z2s a0 y0) fun x1 =>
 bif x1 then
 Option.bind (z2p a23 1) fun x2 =>
 z1z a0 a5 a7 (addI .i64 a9 1) a11 a13 a15 a17 a19 a21 x2 a25 a27
 else
 capOk (List.length a25 + List.length ([y0] : List (Int))) <|
 z1z a0 a5 a7 (addI .i64 a9 1) a11 a13 a15 a17 a19 a21 a23 (a25 ++ ([y0] : List (Int))) a27
 else
 z1r a0 a15 ((List.length a15 : Nat) : Int) 0 a11 a13 a15 a17 a19 a21 a23 a25 a27
 ) (z1z a0 a5 a7 a9 a11 a13 a15 a17 a19 a21 a23 a25 a27) :=
 goC_loopAt (T := tn) (o := ⟨[.ag .Trust],[]⟩) sigOk 100000 (b := codeAt Try.f71 [1,1,0,1,0,0]) (by kernel_rfl) (by kernel_rfl)
theorem z2p_le (threshold_0 by_1 : Int) : Le (
 some (subI .i64 (if by_1 > threshold_0 then by_1 else threshold_0) by_1)
 ) (z2p threshold_0 by_1) :=
 callC_le (T := tn) (c := bodyOf Try.f93) (o := ⟨[.lf (.i .i64)],[]⟩) sigOk 100000 (by kernel_rfl) Try.func93 (by kernel_rfl) (by kernel_rfl) (by kernel_rfl)
theorem z22_le (a0 a2 a4 : Int) : Le (
 Option.bind (z1w a4 a0) fun x0 =>
 bif x0 then
 Option.bind (z2u a4) fun x1 =>
 bif (eqB x1 a2) then
 some (a4, true)
 else
 z22 a0 a2 (addI .i64 a4 1)
 else
 bif (eqB a2 a0) then
 some (0, false)
 else
 chk (0 ≤ (addI .i64 a2 1)) <|
 some ((subI .i64 (shlI .i64 1 (addI .i64 a2 1)) 1), true)
 ) (z22 a0 a2 a4) :=
 goC_loopAt (T := tn) (o := ⟨[.lf (.i .i64), .lf .b],[]⟩) sigOk 100000 (b := codeAt Try.f68 [1,1,1,0,1,0,0]) (by kernel_rfl) (by kernel_rfl)
theorem z1i_le (a0 : Int) (a3 : List Int) (a5 a7 : Int) (a9 : List Member) : Le (
 bif (ltB a7 a5) then
 nth a3 a7 fun y0 =>
 Option.bind (z2f (Config.mk a9) y0 a0) fun x1 =>
 bif (!x1) then
 some (y0, true)
 else
 z1i a0 a3 a5 (addI .i64 a7 1) a9
 else
 some (0, false)
 ) (z1i a0 a3 a5 a7 a9) :=
 goC_loopAt (T := tn) (o := ⟨[.lf (.i .i64), .lf .b],[]⟩) sigOk 100000 (b := codeAt Try.f77 [1,0,1,0,0]) (by kernel_rfl) (by kernel_rfl)
theorem z2f_le (c_0 : Config) (k_1 s_2 : Int) : Le (
 nth c_0.Members k_1 fun y0 =>
 Option.bind (z2a y0.Trust s_2) fun x1 =>
 some x1
 ) (z2f c_0 k_1 s_2) :=
 callC_le (T := tn) (c := bodyOf Try.f97) (o := ⟨[.lf .b],[]⟩) sigOk 100000 (by kernel_rfl) Try.func97 (by kernel_rfl) (by kernel_rfl) (by kernel_rfl)
theorem z2a_le (t_0 : Trust) (s_1 : Int) : Le (
 Option.bind (z1j s_1) fun x0 =>
 bif (!x0) then
 some false
 else
 z1l s_1 0 t_0.Nodes ((List.length t_0.Nodes : Nat) : Int) 0 t_0.Threshold t_0.Nodes t_0.Inner
 ) (z2a t_0 s_1) :=
 callC_le (T := tn) (c := bodyOf Try.f104) (o := ⟨[.lf .b],[]⟩) sigOk 100000 (by kernel_rfl) Try.func104 (by kernel_rfl) (by kernel_rfl) (by kernel_rfl)
theorem z26_le (a0 : Int) (a2 : List Int) (a4 : Int) : Le (
 bif (ltB a4 10) then
 Option.bind (z2s a0 a4) fun x0 =>
 bif x0 then
 capOk (List.length a2 + List.length ([a4] : List (Int))) <|
 z26 a0 (a2 ++ ([a4] : List (Int))) (addI .i64 a4 1)
 else
 z26 a0 a2 (addI .i64 a4 1)
 else
 some a2
 ) (z26 a0 a2 a4) :=
 goC_loopAt (T := tn) (o := ⟨[.lf (.l .i64)],[]⟩) sigOk 100000 (b := codeAt Try.f96 [1,1,0,1,0,0]) (by kernel_rfl) (by kernel_rfl)
theorem z1q_le (a0 a2 : Int) (a4 a6 : List Int) (a8 a10 a12 a14 : Int) (a16 : List Int) (a18 a20 : Int) (a22 : List Member) : Le (
 bif (ltB a20 a18) then
 nth a16 a20 fun y0 =>
 Option.bind (z2r y0) fun x1 =>
 bif (neB x1 (addI .i64 (subI .i64 a0 a2) 1)) then
 some false
 else
 z1q a0 a2 a4 a6 a8 a10 a12 a14 a16 a18 (addI .i64 a20 1) a22
 else
 bif (eqB a2 a0) then
 bif (eqB ((List.length a4 : Nat) : Int) 0) then
 bif (eqB a8 a0) then
 bif (eqB ((List.length a6 : Nat) : Int) a12) then
 Option.bind (law16_awake) fun x2 =>
 some x2
 else
 some false
 else
 some false
 else
 some false
 else
 bif (eqB ((List.length a4 : Nat) : Int) a10) then
 bif (eqB ((List.length a6 : Nat) : Int) a12) then
 bif (eqB a8 (subI .i64 a14 1)) then
 Option.bind (law16_awake) fun x3 =>
 some x3
 else
 some false
 else
 some false
 else
 some false
 ) (z1q a0 a2 a4 a6 a8 a10 a12 a14 a16 a18 a20 a22) :=
 goC_loopAt (T := tn) (o := ⟨[.lf .b],[]⟩) sigOk 100000 (b := codeAt Try.f3 [1,1,1,1,1,1,1,1,1,1,1,1,0,1,0,0]) (by kernel_rfl) (by kernel_rfl)
theorem z31_le (a0 a5 : Int) (a7 : List Member) (a9 : Int) (a11 : List Int) (a13 : List Trust) (a15 : List Member) : Le (
 bif (ltB a5 a0) then
 capOk (List.length a15 + List.length ([(Member.mk true (Trust.mk a9 a11 a13))] : List (Member))) <|
 z31 a0 (addI .i64 a5 1) a7 a9 a11 a13 (a15 ++ ([(Member.mk true (Trust.mk a9 a11 a13))] : List (Member)))
 else
 some (Config.mk a15)
 ) (z31 a0 a5 a7 a9 a11 a13 a15) :=
 goC_loopAt (T := tn) (o := ⟨[.ag .Config],[]⟩) sigOk 100000 (b := codeAt Try.f5 [1,1,1,1,0,1,0,0]) (by kernel_rfl) (by kernel_rfl)
theorem z1v_le (a0 a2 : List Int) (a4 a6 : Int) : Le (
 bif (ltB a6 a4) then
 nth a2 a6 fun y0 =>
 Option.bind (z12 a0 y0) fun x1 =>
 bif (!x1.1) then
 capOk (List.length a0 + List.length ([x1.2] : List (Int))) <|
 z1v (a0 ++ ([x1.2] : List (Int))) a2 a4 (addI .i64 a6 1)
 else
 z1v a0 a2 a4 (addI .i64 a6 1)
 else
 some a0
 ) (z1v a0 a2 a4 a6) :=
 goC_loopAt (T := tn) (o := ⟨[.lf (.l .i64)],[]⟩) sigOk 100000 (b := codeAt Try.f31 [1,1,1,1,0,1,0,0]) (by kernel_rfl) (by kernel_rfl)
theorem z0j_le (a0 : List Int) (a3 a5 a7 : Int) : Le (
 bif (ltB a5 a3) then
 nth a0 a5 fun y0 =>
 Option.bind (z3i y0 a7) fun x1 =>
 bif x1.1 then
 some (a5, x1.2)
 else
 z0j a0 a3 (addI .i64 a5 1) x1.2
 else
 some ((-1), a7)
 ) (z0j a0 a3 a5 a7) :=
 goC_loopAt (T := tn) (o := ⟨[.lf (.i .i64)],[[.lf (.i .i64)]]⟩) sigOk 100000 (b := codeAt Try.f67 [1,0,1,0,0]) (by kernel_rfl) (by kernel_rfl)
theorem z3i_le (t_0 h0 : Int) : Le (
 some ((eqB (andNotI .i64 t_0 h0) 0), h0)
 ) (z3i t_0 h0) :=
 callC_le (T := tn) (c := bodyOf Try.f47) (o := ⟨[.lf .b],[[.lf (.i .i64)]]⟩) sigOk 100000 (by kernel_rfl) Try.func47 (by kernel_rfl) (by kernel_rfl) (by kernel_rfl)
theorem z0d_le (a1 a3 a6 : Int) (a8 : List Int) : Le (
 bif (ltB a6 a3) then
 z0h a1 a3 a6 a6 a8
 else
 some a8
 ) (z0d a1 a3 a6 a8) :=
 goC_loopAt (T := tn) (o := ⟨[],[[.own .i64 false]]⟩) sigOk 100000 (b := codeAt Try.f81 [1,0,0]) (by kernel_rfl) (by kernel_rfl)
theorem z0q_le (a2 a4 a6 a8 : Int) (a10 : List Int) : Le (
 bif (leB 0 a8) then
 Option.bind (z13 a8 a6 a2 a10) fun x0 =>
 z0q a2 a4 a6 (subI .i64 a8 1) x0
 else
 z0r a2 a4 (subI .i64 a6 1) a10
 ) (z0q a2 a4 a6 a8 a10) :=
 goC_loopAt (T := tn) (o := ⟨[],[[.own .i64 false]]⟩) sigOk 100000 (b := codeAt Try.f82 [1,1,1,0,1,0,0]) (by kernel_rfl) (by kernel_rfl)
theorem z13_le (lo_1 hi_2 first_3 : Int) (h0 : List Int) : Le (
 z0c hi_2 first_3 lo_1 h0
 ) (z13 lo_1 hi_2 first_3 h0) :=
 callC_le (T := tn) (c := bodyOf Try.f99) (o := ⟨[],[[.own .i64 false]]⟩) sigOk 100000 (by kernel_rfl) Try.func99 (by kernel_rfl) (by kernel_rfl) (by kernel_rfl)
theorem z0b_le (a1 a3 a6 a8 : Int) (a10 : List Int) (a12 : Int) : Le (
 bif (leB a8 (addI .i64 (addI .i64 a1 (mulI .i64 (quoI .i64 a3 4) 2)) 1)) then
 Option.bind (z2g a12) fun x0 =>
 bif (leB a3 (IntKind.wrap .i64 (andI .u64 x0.1 (subI .u64 a6 1)))) then
 nth a10 (addI .i64 a1 (subI .i64 (IntKind.wrap .i64 (andI .u64 x0.1 (subI .u64 a6 1))) a3)) fun _ =>
 nth a10 a8 fun _ =>
 nthN a10 (Int.toNat (addI .i64 a1 (subI .i64 (IntKind.wrap .i64 (andI .u64 x0.1 (subI .u64 a6 1))) a3))) fun y1 =>
 nthN a10 (Int.toNat a8) fun y2 =>
 nth a10 a8 fun _ =>
 nthN a10 (Int.toNat a8) fun _y3 =>
 nth (List.set a10 (Int.toNat a8) y1) (addI .i64 a1 (subI .i64 (IntKind.wrap .i64 (andI .u64 x0.1 (subI .u64 a6 1))) a3)) fun _ =>
 nthN (List.set a10 (Int.toNat a8) y1) (Int.toNat (addI .i64 a1 (subI .i64 (IntKind.wrap .i64 (andI .u64 x0.1 (subI .u64 a6 1))) a3))) fun _y4 =>
 z0b a1 a3 a6 (addI .i64 a8 1) (List.set (List.set a10 (Int.toNat a8) y1) (Int.toNat (addI .i64 a1 (subI .i64 (IntKind.wrap .i64 (andI .u64 x0.1 (subI .u64 a6 1))) a3))) y2) x0.2
 else
 nth a10 (addI .i64 a1 (IntKind.wrap .i64 (andI .u64 x0.1 (subI .u64 a6 1)))) fun _ =>
 nth a10 a8 fun _ =>
 nthN a10 (Int.toNat (addI .i64 a1 (IntKind.wrap .i64 (andI .u64 x0.1 (subI .u64 a6 1))))) fun y5 =>
 nthN a10 (Int.toNat a8) fun y6 =>
 nth a10 a8 fun _ =>
 nthN a10 (Int.toNat a8) fun _y7 =>
 nth (List.set a10 (Int.toNat a8) y5) (addI .i64 a1 (IntKind.wrap .i64 (andI .u64 x0.1 (subI .u64 a6 1)))) fun _ =>
 nthN (List.set a10 (Int.toNat a8) y5) (Int.toNat (addI .i64 a1 (IntKind.wrap .i64 (andI .u64 x0.1 (subI .u64 a6 1))))) fun _y8 =>
 z0b a1 a3 a6 (addI .i64 a8 1) (List.set (List.set a10 (Int.toNat a8) y5) (Int.toNat (addI .i64 a1 (IntKind.wrap .i64 (andI .u64 x0.1 (subI .u64 a6 1))))) y6) x0.2
 else
 some a10
 ) (z0b a1 a3 a6 a8 a10 a12) :=
 goC_loopAt (T := tn) (o := ⟨[],[[.own .i64 false]]⟩) sigOk 100000 (b := codeAt Try.f83 [1,1,0,1,1,1,0,0]) (by kernel_rfl) (by kernel_rfl)
theorem z2g_le (h0 : Int) : Le (
 some ((xorI .u64 (xorI .u64 (xorI .u64 h0 (shlI .u64 h0 13)) (shrI .u64 (xorI .u64 h0 (shlI .u64 h0 13)) 7)) (shlI .u64 (xorI .u64 (xorI .u64 h0 (shlI .u64 h0 13)) (shrI .u64 (xorI .u64 h0 (shlI .u64 h0 13)) 7)) 17)), (xorI .u64 (xorI .u64 (xorI .u64 h0 (shlI .u64 h0 13)) (shrI .u64 (xorI .u64 h0 (shlI .u64 h0 13)) 7)) (shlI .u64 (xorI .u64 (xorI .u64 h0 (shlI .u64 h0 13)) (shrI .u64 (xorI .u64 h0 (shlI .u64 h0 13)) 7)) 17)))
 ) (z2g h0) :=
 callC_le (T := tn) (c := bodyOf Try.f101) (o := ⟨[.lf (.i .u64)],[[.lf (.i .u64)]]⟩) sigOk 100000 (by kernel_rfl) Try.func101 (by kernel_rfl) (by kernel_rfl) (by kernel_rfl)
theorem z0u_le (a1 a3 : Int) (a5 : List Int) : Le (
 bif (ltB a1 a3) then
 nth a5 a3 fun _ =>
 nth a5 a1 fun _ =>
 nthN a5 (Int.toNat a3) fun y0 =>
 nthN a5 (Int.toNat a1) fun y1 =>
 nth a5 a1 fun _ =>
 nthN a5 (Int.toNat a1) fun _y2 =>
 nth (List.set a5 (Int.toNat a1) y0) a3 fun _ =>
 nthN (List.set a5 (Int.toNat a1) y0) (Int.toNat a3) fun _y3 =>
 z0u (addI .i64 a1 1) (subI .i64 a3 1) (List.set (List.set a5 (Int.toNat a1) y0) (Int.toNat a3) y1)
 else
 some a5
 ) (z0u a1 a3 a5) :=
 goC_loopAt (T := tn) (o := ⟨[],[[.own .i64 false]]⟩) sigOk 100000 (b := codeAt Try.f85 [1,1,0,0]) (by kernel_rfl) (by kernel_rfl)
theorem z03_le (a1 a3 a6 a8 : Int) (a10 : List Int) : Le (
 bif (ltB a8 5) then
 z0v a1 a3 a6 a8 true a10
 else
 some (false, a10)
 ) (z03 a1 a3 a6 a8 a10) :=
 goC_loopAt (T := tn) (o := ⟨[.lf .b],[[.own .i64 false]]⟩) sigOk 100000 (b := codeAt Try.f86 [1,1,0,1,0,0]) (by kernel_rfl) (by kernel_rfl)
theorem z0a_le (a1 a4 a6 : Int) (a8 : List Int) : Le (
 z0s a1 a4 a6 a8
 ) (z0a a1 a4 a6 a8) :=
 goC_loopAt (T := tn) (o := ⟨[.lf (.i .i64)],[[.own .i64 false]]⟩) sigOk 100000 (b := codeAt Try.f87 [1,1,1,0,0,0]) (by kernel_rfl) (by kernel_rfl)
theorem z0y_le (a1 a4 a6 : Int) (a8 : List Int) : Le (
 bif (leB a4 a6) then
 nth a8 a4 fun _ =>
 nth a8 a1 fun _ =>
 nthN a8 (Int.toNat a4) fun y0 =>
 nthN a8 (Int.toNat a1) fun y1 =>
 Option.bind (z08 y0 y1) fun x2 =>
 bif (ltB x2 0) then
 z0y a1 (addI .i64 a4 1) a6 a8
 else
 z0m a1 a4 a6 false a8
 else
 z0m a1 a4 a6 false a8
 ) (z0y a1 a4 a6 a8) :=
 goC_loopAt (T := tn) (o := ⟨[.lf (.i .i64), .lf .b],[[.own .i64 false]]⟩) sigOk 100000 (b := codeAt Try.f88 [1,1,1,0,0,0]) (by kernel_rfl) (by kernel_rfl)
end Go.Proofs.Ytfjcndlhpfbcgaa
