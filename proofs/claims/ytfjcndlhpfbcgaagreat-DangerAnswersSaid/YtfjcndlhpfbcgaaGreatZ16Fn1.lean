/- What the functions come to, printed by a program and checked by the kernel. -/
import Derived.Test.YtfjcndlhpfbcgaaGreatZ16Df
namespace Go.Proofs.YtfjcndlhpfbcgaaGreat
open Go Go.Ab
set_option maxRecDepth 100000
theorem y62 (s_0 : Int) : Le (
 Option.bind (z1o s_0) fun x0 =>
 bif (!x0) then
 some 0
 else
 Option.bind (z5x (IntKind.wrap .u64 s_0)) fun x1 =>
 some x1
 ) (z4s s_0) :=
 q01 (T := tn) (c := q06 Tryz.f80) (o := ⟨[.lf (.i .i64)],[]⟩) sigOk 100000 (by kernel_rfl) Tryz.func80 (by kernel_rfl) (by kernel_rfl) (by kernel_rfl)
theorem qyz (s_0 : Int) : Le (
 Option.bind (z2n s_0 10) fun x0 =>
 some x0
 ) (z1o s_0) :=
 q01 (T := tn) (c := q06 Tryz.f89) (o := ⟨[.lf .b],[]⟩) sigOk 100000 (by kernel_rfl) Tryz.func89 (by kernel_rfl) (by kernel_rfl) (by kernel_rfl)
theorem y5n (x_0 : Int) : Le (
 Option.bind (z5k x_0) fun x0 =>
 some x0
 ) (z5x x_0) :=
 q01 (T := tn) (c := q06 Tryz.f106) (o := ⟨[.lf (.i .i64)],[]⟩) sigOk 100000 (by kernel_rfl) Tryz.func106 (by kernel_rfl) (by kernel_rfl) (by kernel_rfl)
theorem qua (s_0 n_1 : Int) : Le (
 bif (leB 0 s_0) then
 chk (0 ≤ n_1) <|
 some (ltB s_0 (shlI .i64 1 n_1))
 else
 some false
 ) (z2n s_0 n_1) :=
 q01 (T := tn) (c := q06 Tryz.f112) (o := ⟨[.lf .b],[]⟩) sigOk 100000 (by kernel_rfl) Tryz.func112 (by kernel_rfl) (by kernel_rfl) (by kernel_rfl)
theorem qx6 (x_0 : Int) : Le (
 some (andI .i64 (IntKind.wrap .i64 (addI .u64 (addI .u64 (addI .u64 (andI .u64 (addI .u64 (shrI .u64 (addI .u64 (andI .u64 (shrI .u64 (addI .u64 (andI .u64 (shrI .u64 x_0 1) 6148914691236517205) (andI .u64 x_0 6148914691236517205)) 2) 3689348814741910323) (andI .u64 (addI .u64 (andI .u64 (shrI .u64 x_0 1) 6148914691236517205) (andI .u64 x_0 6148914691236517205)) 3689348814741910323)) 4) (addI .u64 (andI .u64 (shrI .u64 (addI .u64 (andI .u64 (shrI .u64 x_0 1) 6148914691236517205) (andI .u64 x_0 6148914691236517205)) 2) 3689348814741910323) (andI .u64 (addI .u64 (andI .u64 (shrI .u64 x_0 1) 6148914691236517205) (andI .u64 x_0 6148914691236517205)) 3689348814741910323))) 1085102592571150095) (shrI .u64 (andI .u64 (addI .u64 (shrI .u64 (addI .u64 (andI .u64 (shrI .u64 (addI .u64 (andI .u64 (shrI .u64 x_0 1) 6148914691236517205) (andI .u64 x_0 6148914691236517205)) 2) 3689348814741910323) (andI .u64 (addI .u64 (andI .u64 (shrI .u64 x_0 1) 6148914691236517205) (andI .u64 x_0 6148914691236517205)) 3689348814741910323)) 4) (addI .u64 (andI .u64 (shrI .u64 (addI .u64 (andI .u64 (shrI .u64 x_0 1) 6148914691236517205) (andI .u64 x_0 6148914691236517205)) 2) 3689348814741910323) (andI .u64 (addI .u64 (andI .u64 (shrI .u64 x_0 1) 6148914691236517205) (andI .u64 x_0 6148914691236517205)) 3689348814741910323))) 1085102592571150095) 8)) (shrI .u64 (addI .u64 (andI .u64 (addI .u64 (shrI .u64 (addI .u64 (andI .u64 (shrI .u64 (addI .u64 (andI .u64 (shrI .u64 x_0 1) 6148914691236517205) (andI .u64 x_0 6148914691236517205)) 2) 3689348814741910323) (andI .u64 (addI .u64 (andI .u64 (shrI .u64 x_0 1) 6148914691236517205) (andI .u64 x_0 6148914691236517205)) 3689348814741910323)) 4) (addI .u64 (andI .u64 (shrI .u64 (addI .u64 (andI .u64 (shrI .u64 x_0 1) 6148914691236517205) (andI .u64 x_0 6148914691236517205)) 2) 3689348814741910323) (andI .u64 (addI .u64 (andI .u64 (shrI .u64 x_0 1) 6148914691236517205) (andI .u64 x_0 6148914691236517205)) 3689348814741910323))) 1085102592571150095) (shrI .u64 (andI .u64 (addI .u64 (shrI .u64 (addI .u64 (andI .u64 (shrI .u64 (addI .u64 (andI .u64 (shrI .u64 x_0 1) 6148914691236517205) (andI .u64 x_0 6148914691236517205)) 2) 3689348814741910323) (andI .u64 (addI .u64 (andI .u64 (shrI .u64 x_0 1) 6148914691236517205) (andI .u64 x_0 6148914691236517205)) 3689348814741910323)) 4) (addI .u64 (andI .u64 (shrI .u64 (addI .u64 (andI .u64 (shrI .u64 x_0 1) 6148914691236517205) (andI .u64 x_0 6148914691236517205)) 2) 3689348814741910323) (andI .u64 (addI .u64 (andI .u64 (shrI .u64 x_0 1) 6148914691236517205) (andI .u64 x_0 6148914691236517205)) 3689348814741910323))) 1085102592571150095) 8)) 16)) (shrI .u64 (addI .u64 (addI .u64 (andI .u64 (addI .u64 (shrI .u64 (addI .u64 (andI .u64 (shrI .u64 (addI .u64 (andI .u64 (shrI .u64 x_0 1) 6148914691236517205) (andI .u64 x_0 6148914691236517205)) 2) 3689348814741910323) (andI .u64 (addI .u64 (andI .u64 (shrI .u64 x_0 1) 6148914691236517205) (andI .u64 x_0 6148914691236517205)) 3689348814741910323)) 4) (addI .u64 (andI .u64 (shrI .u64 (addI .u64 (andI .u64 (shrI .u64 x_0 1) 6148914691236517205) (andI .u64 x_0 6148914691236517205)) 2) 3689348814741910323) (andI .u64 (addI .u64 (andI .u64 (shrI .u64 x_0 1) 6148914691236517205) (andI .u64 x_0 6148914691236517205)) 3689348814741910323))) 1085102592571150095) (shrI .u64 (andI .u64 (addI .u64 (shrI .u64 (addI .u64 (andI .u64 (shrI .u64 (addI .u64 (andI .u64 (shrI .u64 x_0 1) 6148914691236517205) (andI .u64 x_0 6148914691236517205)) 2) 3689348814741910323) (andI .u64 (addI .u64 (andI .u64 (shrI .u64 x_0 1) 6148914691236517205) (andI .u64 x_0 6148914691236517205)) 3689348814741910323)) 4) (addI .u64 (andI .u64 (shrI .u64 (addI .u64 (andI .u64 (shrI .u64 x_0 1) 6148914691236517205) (andI .u64 x_0 6148914691236517205)) 2) 3689348814741910323) (andI .u64 (addI .u64 (andI .u64 (shrI .u64 x_0 1) 6148914691236517205) (andI .u64 x_0 6148914691236517205)) 3689348814741910323))) 1085102592571150095) 8)) (shrI .u64 (addI .u64 (andI .u64 (addI .u64 (shrI .u64 (addI .u64 (andI .u64 (shrI .u64 (addI .u64 (andI .u64 (shrI .u64 x_0 1) 6148914691236517205) (andI .u64 x_0 6148914691236517205)) 2) 3689348814741910323) (andI .u64 (addI .u64 (andI .u64 (shrI .u64 x_0 1) 6148914691236517205) (andI .u64 x_0 6148914691236517205)) 3689348814741910323)) 4) (addI .u64 (andI .u64 (shrI .u64 (addI .u64 (andI .u64 (shrI .u64 x_0 1) 6148914691236517205) (andI .u64 x_0 6148914691236517205)) 2) 3689348814741910323) (andI .u64 (addI .u64 (andI .u64 (shrI .u64 x_0 1) 6148914691236517205) (andI .u64 x_0 6148914691236517205)) 3689348814741910323))) 1085102592571150095) (shrI .u64 (andI .u64 (addI .u64 (shrI .u64 (addI .u64 (andI .u64 (shrI .u64 (addI .u64 (andI .u64 (shrI .u64 x_0 1) 6148914691236517205) (andI .u64 x_0 6148914691236517205)) 2) 3689348814741910323) (andI .u64 (addI .u64 (andI .u64 (shrI .u64 x_0 1) 6148914691236517205) (andI .u64 x_0 6148914691236517205)) 3689348814741910323)) 4) (addI .u64 (andI .u64 (shrI .u64 (addI .u64 (andI .u64 (shrI .u64 x_0 1) 6148914691236517205) (andI .u64 x_0 6148914691236517205)) 2) 3689348814741910323) (andI .u64 (addI .u64 (andI .u64 (shrI .u64 x_0 1) 6148914691236517205) (andI .u64 x_0 6148914691236517205)) 3689348814741910323))) 1085102592571150095) 8)) 16)) 32))) 127)
 ) (z5k x_0) :=
 q01 (T := tn) (c := q06 Tryz.f124) (o := ⟨[.lf (.i .i64)],[]⟩) sigOk 100000 (by kernel_rfl) Tryz.func124 (by kernel_rfl) (by kernel_rfl) (by kernel_rfl)
theorem qxf (a0 : Int) (a4 : List Config) (a6 a8 : Int) (a10 : List Member) (a12 : List Int) (a14 : Int) (a16 : List Member) : Le (
 bif (ltB a8 a6) then
 nth a4 a8 fun y0 =>
 Option.bind (z72 (Config.mk a16) a12 a14) fun x1 =>
 Option.bind (z1a 64 x1.2.1 x1.2.2) fun x2 =>
 z27 a0 a4 a6 a8 ([a0, x1.1, x2.1] : List (Int)) ((List.length ([a0, x1.1, x2.1] : List (Int)) : Nat) : Int) 0 a10 x2.2.1 x2.2.2 a16 y0.Members
 else
 Option.bind (law16_awake) fun x3 =>
 some x3
 ) (z1p a0 a4 a6 a8 a10 a12 a14 a16) :=
 q00 (T := tn) (o := ⟨[.lf .b],[]⟩) sigOk 100000 (b := q03 Tryz.f5 [1,1,1,1,0,1,0,0]) (by kernel_rfl) (by kernel_rfl)
theorem qyw (a2 : List Int) (a4 : Int) (a6 : List Int) (a8 : Int) (a10 : List Member) : Le (
 bif (ltB a4 20) then
 chk (0 ≤ ((List.length a10 : Nat) : Int)) <|
 Option.bind (z1a (shlI .i64 1 ((List.length a10 : Nat) : Int)) a6 a8) fun x0 =>
 z1s a2 a4 x0.1 false a2 ((List.length a2 : Nat) : Int) 0 x0.2.1 x0.2.2 a10
 else
 Option.bind (law16_awake) fun x1 =>
 some x1
 ) (z1q a2 a4 a6 a8 a10) :=
 q00 (T := tn) (o := ⟨[.lf .b],[]⟩) sigOk 100000 (b := q03 Tryz.f3 [1,1,1,1,1,1,1,0,1,0,0]) (by kernel_rfl) (by kernel_rfl)
theorem qyi (a0 : Int) (a2 : Bool) (a4 a6 a8 a10 a13 : Int) (a15 : Bool) (a17 : Int) (a19 : List Int) (a21 : Int) (a23 a25 : List Member) : Le (
 bif (leB a17 a13) then
 bif a15 then
 z1g a0 a2 a4 a6 a8 a10 a13 true (addI .i64 a17 1) a19 a21 a23 a25
 else
 Option.bind (z23 (Config.mk a25) a17) fun x0 =>
 bif x0 then
 Option.bind (z4g (Config.mk a25) (subI .i64 a13 a17)) fun x1 =>
 z1g a0 a2 a4 a6 a8 a10 a13 (neB x1 0) (addI .i64 a17 1) a19 a21 a23 a25
 else
 z1g a0 a2 a4 a6 a8 a10 a13 false (addI .i64 a17 1) a19 a21 a23 a25
 else
 bif (neB a4 0) then
 some false
 else
 bif (!(a2 == a15)) then
 some false
 else
 bif (!(a2 == (eqB a10 0))) then
 some false
 else
 bif (!a2) then
 bif (neB a10 11) then
 some false
 else
 bif (!a2) then
 Option.bind (law16_awake) fun x2 =>
 some x2
 else
 bif (eqB (andI .i64 a6 a8) 0) then
 bif (eqB (andI .i64 (orI .i64 a6 a8) a0) 0) then
 Option.bind (z23 (Config.mk a25) a6) fun x3 =>
 bif x3 then
 Option.bind (z23 (Config.mk a25) a8) fun x4 =>
 bif x4 then
 Option.bind (law16_awake) fun x5 =>
 some x5
 else
 some false
 else
 some false
 else
 some false
 else
 some false
 else
 bif (!a2) then
 Option.bind (law16_awake) fun x6 =>
 some x6
 else
 bif (eqB (andI .i64 a6 a8) 0) then
 bif (eqB (andI .i64 (orI .i64 a6 a8) a0) 0) then
 Option.bind (z23 (Config.mk a25) a6) fun x7 =>
 bif x7 then
 Option.bind (z23 (Config.mk a25) a8) fun x8 =>
 bif x8 then
 Option.bind (law16_awake) fun x9 =>
 some x9
 else
 some false
 else
 some false
 else
 some false
 else
 some false
 ) (z1g a0 a2 a4 a6 a8 a10 a13 a15 a17 a19 a21 a23 a25) :=
 q00 (T := tn) (o := ⟨[.lf .b],[]⟩) sigOk 100000 (b := q03 Tryz.f4 [1,1,1,1,1,1,1,1,1,0,1,0,0]) (by kernel_rfl) (by kernel_rfl)
theorem qur (c_0 : Config) (s_1 : Int) : Le (
 Option.bind (z1h s_1) fun x0 =>
 bif (!x0) then
 some false
 else
 bif (eqB s_1 0) then
 some false
 else
 Option.bind (z3p c_0) fun x1 =>
 bif (neB (andI .i64 s_1 x1) s_1) then
 some false
 else
 Option.bind (z5a s_1) fun x2 =>
 z2w s_1 x2 ((List.length x2 : Nat) : Int) 0 c_0.Members
 ) (z23 c_0 s_1) :=
 q01 (T := tn) (c := q06 Tryz.f19) (o := ⟨[.lf .b],[]⟩) sigOk 100000 (by kernel_rfl) Tryz.func19 (by kernel_rfl) (by kernel_rfl) (by kernel_rfl)
theorem y4l (c_0 : Config) (s_1 : Int) : Le (
 Option.bind (z1h s_1) fun x0 =>
 bif (!x0) then
 some 0
 else
 Option.bind (z3p c_0) fun x1 =>
 Option.bind (z55 c_0 s_1) fun x2 =>
 z46 (andI .i64 s_1 x1) x2 ((List.length x2 : Nat) : Int) 0 c_0.Members
 ) (z4g c_0 s_1) :=
 q01 (T := tn) (c := q06 Tryz.f20) (o := ⟨[.lf (.i .i64)],[]⟩) sigOk 100000 (by kernel_rfl) Tryz.func20 (by kernel_rfl) (by kernel_rfl) (by kernel_rfl)
theorem y2i (c_0 : Config) : Le (
 z29 0 c_0.Members ((List.length c_0.Members : Nat) : Int) 0 c_0.Members
 ) (z3p c_0) :=
 q01 (T := tn) (c := q06 Tryz.f44) (o := ⟨[.lf (.i .i64)],[]⟩) sigOk 100000 (by kernel_rfl) Tryz.func44 (by kernel_rfl) (by kernel_rfl) (by kernel_rfl)
theorem y65 (s_0 : Int) : Le (
 z3r s_0 ([] : List (Int)) 0
 ) (z5a s_0) :=
 q01 (T := tn) (c := q06 Tryz.f51) (o := ⟨[.lf (.l .i64)],[]⟩) sigOk 100000 (by kernel_rfl) Tryz.func51 (by kernel_rfl) (by kernel_rfl) (by kernel_rfl)
theorem y4s (c_0 : Config) (s_1 : Int) : Le (
 Option.bind (z1h s_1) fun x0 =>
 bif (!x0) then
 some ([] : List (Int))
 else
 Option.bind (z3p c_0) fun x1 =>
 z2j (andI .i64 s_1 x1) ([] : List (Int)) true c_0.Members
 ) (z55 c_0 s_1) :=
 q01 (T := tn) (c := q06 Tryz.f53) (o := ⟨[.lf (.l .i64)],[]⟩) sigOk 100000 (by kernel_rfl) Tryz.func53 (by kernel_rfl) (by kernel_rfl) (by kernel_rfl)
theorem qsm (a1 a3 : Int) (a5 : List Member) : Le (
 bif (ltB a3 ((List.length a5 : Nat) : Int)) then
 bif (leB a1 400) then
 nth a5 a3 fun y0 =>
 Option.bind (z6k y0.Trust a1) fun x1 =>
 z2r x1 (addI .i64 a3 1) a5
 else
 some (leB a1 400)
 else
 some (leB a1 400)
 ) (z2r a1 a3 a5) :=
 q00 (T := tn) (o := ⟨[.lf .b],[]⟩) sigOk 100000 (b := q03 Tryz.f21 [1,1,1,0,1,0,0]) (by kernel_rfl) (by kernel_rfl)
theorem y2w (x_0 : Trust) (n_1 : Int) : Le (
 z4a (addI .i64 n_1 (addI .i64 1 ((List.length x_0.Nodes : Nat) : Int))) 0 x_0.Threshold x_0.Nodes x_0.Inner
 ) (z6k x_0 n_1) :=
 q01 (T := tn) (c := q06 Tryz.f54) (o := ⟨[.lf (.i .i64)],[]⟩) sigOk 100000 (by kernel_rfl) Tryz.func54 (by kernel_rfl) (by kernel_rfl) (by kernel_rfl)
theorem qod (a2 a4 a7 : Int) (a9 : List Int) (a11 : Int) (a13 a15 : List Member) : Le (
 bif (ltB a7 a2) then
 bif (eqB a4 0) then
 Option.bind (z6x a2 2 a9 a11) fun x0 =>
 Option.bind (z1a 12 x0.2.1 x0.2.2) fun x1 =>
 bif (eqB x1.1 11) then
 capOk (List.length a15 + List.length ([(Member.mk false (Trust.mk 0 ([] : List (Int)) ([] : List (Trust))))] : List (Member))) <|
 z1m a2 a4 (addI .i64 a7 1) x1.2.1 x1.2.2 a13 (a15 ++ ([(Member.mk false (Trust.mk 0 ([] : List (Int)) ([] : List (Trust))))] : List (Member)))
 else
 capOk (List.length a15 + List.length ([(Member.mk true (Trust.mk x0.1.Threshold x0.1.Nodes x0.1.Inner))] : List (Member))) <|
 z1m a2 a4 (addI .i64 a7 1) x1.2.1 x1.2.2 a13 (a15 ++ ([(Member.mk true (Trust.mk x0.1.Threshold x0.1.Nodes x0.1.Inner))] : List (Member)))
 else
 bif (eqB a4 1) then
 Option.bind (z73 a2 a9 a11) fun x2 =>
 Option.bind (z1a 12 x2.2.1 x2.2.2) fun x3 =>
 bif (eqB x3.1 11) then
 capOk (List.length a15 + List.length ([(Member.mk false (Trust.mk 0 ([] : List (Int)) ([] : List (Trust))))] : List (Member))) <|
 z1m a2 a4 (addI .i64 a7 1) x3.2.1 x3.2.2 a13 (a15 ++ ([(Member.mk false (Trust.mk 0 ([] : List (Int)) ([] : List (Trust))))] : List (Member)))
 else
 capOk (List.length a15 + List.length ([(Member.mk true (Trust.mk x2.1.Threshold x2.1.Nodes x2.1.Inner))] : List (Member))) <|
 z1m a2 a4 (addI .i64 a7 1) x3.2.1 x3.2.2 a13 (a15 ++ ([(Member.mk true (Trust.mk x2.1.Threshold x2.1.Nodes x2.1.Inner))] : List (Member)))
 else
 Option.bind (z71 a2 a7 a9 a11) fun x4 =>
 Option.bind (z1a 12 x4.2.1 x4.2.2) fun x5 =>
 bif (eqB x5.1 11) then
 capOk (List.length a15 + List.length ([(Member.mk false (Trust.mk 0 ([] : List (Int)) ([] : List (Trust))))] : List (Member))) <|
 z1m a2 a4 (addI .i64 a7 1) x5.2.1 x5.2.2 a13 (a15 ++ ([(Member.mk false (Trust.mk 0 ([] : List (Int)) ([] : List (Trust))))] : List (Member)))
 else
 capOk (List.length a15 + List.length ([(Member.mk true (Trust.mk x4.1.Threshold x4.1.Nodes x4.1.Inner))] : List (Member))) <|
 z1m a2 a4 (addI .i64 a7 1) x5.2.1 x5.2.2 a13 (a15 ++ ([(Member.mk true (Trust.mk x4.1.Threshold x4.1.Nodes x4.1.Inner))] : List (Member)))
 else
 some ((Config.mk a15), a9, a11)
 ) (z1m a2 a4 a7 a9 a11 a13 a15) :=
 q00 (T := tn) (o := ⟨[.ag .Config],[[.lf (.l .i64), .lf (.i .i64)]]⟩) sigOk 100000 (b := q03 Tryz.f7 [1,1,1,1,0,1,0,0]) (by kernel_rfl) (by kernel_rfl)
theorem qxs (n_1 deep_2 : Int) (h0 : List Int) (h1 : Int) : Le (
 Option.bind (z6j n_1 deep_2 h0 h1) fun x0 =>
 Option.bind (z3v x0.1) fun x1 =>
 bif (neB x1 0) then
 Option.bind (z1a n_1 x0.2.1 x0.2.2) fun x2 =>
 some ((Trust.mk 1 ([x2.1] : List (Int)) ([] : List (Trust))), x2.2.1, x2.2.2)
 else
 some ((Trust.mk x0.1.Threshold x0.1.Nodes x0.1.Inner), x0.2.1, x0.2.2)
 ) (z6x n_1 deep_2 h0 h1) :=
 q01 (T := tn) (c := q06 Tryz.f32) (o := ⟨[.ag .Trust],[[.lf (.l .i64), .lf (.i .i64)]]⟩) sigOk 100000 (by kernel_rfl) Tryz.func32 (by kernel_rfl) (by kernel_rfl) (by kernel_rfl)
theorem y4m (m_1 : Int) (h0 : List Int) (h1 : Int) : Le (
 z4n m_1 0 h0 h1 0 ([] : List (Int)) ([] : List (Trust)) 0 ([] : List (Int)) ([] : List (Trust))
 ) (z73 m_1 h0 h1) :=
 q01 (T := tn) (c := q06 Tryz.f33) (o := ⟨[.ag .Trust],[[.lf (.l .i64), .lf (.i .i64)]]⟩) sigOk 100000 (by kernel_rfl) Tryz.func33 (by kernel_rfl) (by kernel_rfl) (by kernel_rfl)
theorem y2c (m_1 k_2 : Int) (h0 : List Int) (h1 : Int) : Le (
 z2q m_1 k_2 ([] : List (Trust)) 0 h0 h1 0 ([] : List (Int)) ([] : List (Trust))
 ) (z71 m_1 k_2 h0 h1) :=
 q01 (T := tn) (c := q06 Tryz.f34) (o := ⟨[.ag .Trust],[[.lf (.l .i64), .lf (.i .i64)]]⟩) sigOk 100000 (by kernel_rfl) Tryz.func34 (by kernel_rfl) (by kernel_rfl) (by kernel_rfl)
theorem qyf (n_1 deep_2 : Int) (h0 : List Int) (h1 : Int) : Le (
 Option.bind (z6a n_1 h0 h1) fun x0 =>
 Option.bind (z1f 1 (if 5 < n_1 then 5 else n_1) x0.2.1 x0.2.2) fun x1 =>
 hiK (List.length x0.1) x1.1 fun b2 =>
 z4o n_1 deep_2 (List.drop 0 (List.take b2 x0.1)) ((List.length (List.drop 0 (List.take b2 x0.1)) : Nat) : Int) 0 x1.2.1 x1.2.2 0 ([] : List (Int)) ([] : List (Trust)) 0 ([] : List (Int)) ([] : List (Trust))
 ) (z6j n_1 deep_2 h0 h1) :=
 q01 (T := tn) (c := q06 Tryz.f63) (o := ⟨[.ag .Trust],[[.lf (.l .i64), .lf (.i .i64)]]⟩) sigOk 100000 (by kernel_rfl) Tryz.func63 (by kernel_rfl) (by kernel_rfl) (by kernel_rfl)
theorem qo4 (t_0 : Trust) : Le (
 Option.bind (z6e t_0) fun x0 =>
 bif (ltB 4 x0) then
 some 3
 else
 Option.bind (z6l t_0) fun x1 =>
 bif (ltB 200 x1) then
 some 3
 else
 Option.bind (z3w t_0) fun x2 =>
 some x2
 ) (z3v t_0) :=
 q01 (T := tn) (c := q06 Tryz.f64) (o := ⟨[.lf (.i .i64)],[]⟩) sigOk 100000 (by kernel_rfl) Tryz.func64 (by kernel_rfl) (by kernel_rfl) (by kernel_rfl)
theorem y43 (n_1 : Int) (h0 : List Int) (h1 : Int) : Le (
 z3k n_1 ([] : List (Int)) 0 h0 h1
 ) (z6a n_1 h0 h1) :=
 q01 (T := tn) (c := q06 Tryz.f82) (o := ⟨[.lf (.l .i64)],[[.lf (.l .i64), .lf (.i .i64)]]⟩) sigOk 100000 (by kernel_rfl) Tryz.func82 (by kernel_rfl) (by kernel_rfl) (by kernel_rfl)
theorem y2n (t_0 : Trust) : Le (
 z4i 0 t_0.Inner ((List.length t_0.Inner : Nat) : Int) 0 t_0.Threshold t_0.Nodes t_0.Inner
 ) (z6e t_0) :=
 q01 (T := tn) (c := q06 Tryz.f83) (o := ⟨[.lf (.i .i64)],[]⟩) sigOk 100000 (by kernel_rfl) Tryz.func83 (by kernel_rfl) (by kernel_rfl) (by kernel_rfl)
theorem y3s (t_0 : Trust) : Le (
 z52 (addI .i64 ((List.length t_0.Nodes : Nat) : Int) ((List.length t_0.Inner : Nat) : Int)) t_0.Inner ((List.length t_0.Inner : Nat) : Int) 0 t_0.Threshold t_0.Nodes t_0.Inner
 ) (z6l t_0) :=
 q01 (T := tn) (c := q06 Tryz.f84) (o := ⟨[.lf (.i .i64)],[]⟩) sigOk 100000 (by kernel_rfl) Tryz.func84 (by kernel_rfl) (by kernel_rfl) (by kernel_rfl)
theorem qou (t_0 : Trust) : Le (
 bif (ltB t_0.Threshold 1) then
 some 4
 else
 bif (ltB (addI .i64 ((List.length t_0.Nodes : Nat) : Int) ((List.length t_0.Inner : Nat) : Int)) t_0.Threshold) then
 some 4
 else
 z1v t_0.Nodes ((List.length t_0.Nodes : Nat) : Int) 0 t_0.Threshold t_0.Nodes t_0.Inner
 ) (z3w t_0) :=
 q01 (T := tn) (c := q06 Tryz.f85) (o := ⟨[.lf (.i .i64)],[]⟩) sigOk 100000 (by kernel_rfl) Tryz.func85 (by kernel_rfl) (by kernel_rfl) (by kernel_rfl)
theorem qx5 (a2 : Bool) (a4 : List Int) (a6 : Int) (a8 a10 a12 : List Member) : Le (
 bif (leB ((List.length a12 : Nat) : Int) 10) then
 capOk (List.length a12 + List.length ([(Member.mk false (Trust.mk 0 ([] : List (Int)) ([] : List (Trust))))] : List (Member))) <|
 z3l a4 a6 a8 a10 (a12 ++ ([(Member.mk false (Trust.mk 0 ([] : List (Int)) ([] : List (Trust))))] : List (Member)))
 else
 some ((Config.mk a12), a4, a6)
 ) (z3i a2 a4 a6 a8 a10 a12) :=
 q00 (T := tn) (o := ⟨[.ag .Config],[[.lf (.l .i64), .lf (.i .i64)]]⟩) sigOk 100000 (b := q03 Tryz.f22 [1,1,1,1,0,1,0,1,1,1,1,1,1,1,1,0,0]) (by kernel_rfl) (by kernel_rfl)
theorem qxi (a0 : List Int) (a2 : Int) (a4 : List Int) (a6 a8 : Int) : Le (
 bif (ltB a8 a6) then
 nth a4 a8 fun y0 =>
 bif (ltB y0 0) then
 some (([] : List (Int)), 1)
 else
 chk (0 ≤ a2) <|
 bif (leB (shlI .i64 1 a2) y0) then
 some (([] : List (Int)), 1)
 else
 z3j a0 a2 a4 a6 (addI .i64 a8 1)
 else
 bif (ltB 1024 ((List.length a0 : Nat) : Int)) then
 some (([] : List (Int)), 3)
 else
 z1y a0 a2 ([] : List (Int)) 0
 ) (z3j a0 a2 a4 a6 a8) :=
 q00 (T := tn) (o := ⟨[.lf (.l .i64), .lf (.i .i64)],[]⟩) sigOk 100000 (b := q03 Tryz.f10 [1,1,0,1,0,0]) (by kernel_rfl) (by kernel_rfl)
theorem qtl (a0 a2 : List Int) (a4 a6 : Int) : Le (
 bif (ltB a6 a4) then
 nth a0 a6 fun y0 =>
 nth a2 a6 fun y1 =>
 bif (neB y0 y1) then
 some false
 else
 z5p a0 a2 a4 (addI .i64 a6 1)
 else
 some true
 ) (z5p a0 a2 a4 a6) :=
 q00 (T := tn) (o := ⟨[.lf .b],[]⟩) sigOk 100000 (b := q03 Tryz.f11 [1,1,0,1,0,0]) (by kernel_rfl) (by kernel_rfl)
theorem qzy (a2 a4 a6 : Int) (a8 : List Int) (a10 : Int) (a12 : List Member) : Le (
 bif (ltB 0 a6) then
 Option.bind (z1a a2 a8 a10) fun x0 =>
 chk (0 ≤ x0.1) <|
 z67 a2 (orI .i64 a4 (shlI .i64 1 x0.1)) (subI .i64 a6 1) x0.2.1 x0.2.2 a12
 else
 chk (0 ≤ a2) <|
 Option.bind (z3p (Config.mk a12)) fun x1 =>
 Option.bind (z1a 2 a8 a10) fun x2 =>
 some ((orI .i64 a4 (mulI .i64 (q7i .i64 (subI .i64 (shlI .i64 1 a2) 1) x1) x2.1)), x2.2.1, x2.2.2)
 ) (z67 a2 a4 a6 a8 a10 a12) :=
 q00 (T := tn) (o := ⟨[.lf (.i .i64)],[[.lf (.l .i64), .lf (.i .i64)]]⟩) sigOk 100000 (b := q03 Tryz.f15 [1,1,1,0,1,0,0]) (by kernel_rfl) (by kernel_rfl)
theorem qzj (a0 : Int) (a4 : List Member) (a6 a8 : Int) (a10 a12 a14 : List Member) : Le (
 bif (ltB a8 a6) then
 nth a4 a8 fun y0 =>
 Option.bind (z5q a0 a8) fun x1 =>
 bif x1 then
 capOk (List.length a14 + List.length ([(Member.mk false (Trust.mk 0 ([] : List (Int)) ([] : List (Trust))))] : List (Member))) <|
 z2d a0 a4 a6 (addI .i64 a8 1) a10 a12 (a14 ++ ([(Member.mk false (Trust.mk 0 ([] : List (Int)) ([] : List (Trust))))] : List (Member)))
 else
 bif y0.Declared then
 Option.bind (z6p y0.Trust a8 a0) fun x2 =>
 capOk (List.length a14 + List.length ([(Member.mk y0.Declared (Trust.mk x2.Threshold x2.Nodes x2.Inner))] : List (Member))) <|
 z2d a0 a4 a6 (addI .i64 a8 1) a10 a12 (a14 ++ ([(Member.mk y0.Declared (Trust.mk x2.Threshold x2.Nodes x2.Inner))] : List (Member)))
 else
 capOk (List.length a14 + List.length ([(Member.mk y0.Declared (Trust.mk y0.Trust.Threshold y0.Trust.Nodes y0.Trust.Inner))] : List (Member))) <|
 z2d a0 a4 a6 (addI .i64 a8 1) a10 a12 (a14 ++ ([(Member.mk y0.Declared (Trust.mk y0.Trust.Threshold y0.Trust.Nodes y0.Trust.Inner))] : List (Member)))
 else
 some (Config.mk a14)
 ) (z2d a0 a4 a6 a8 a10 a12 a14) :=
 q00 (T := tn) (o := ⟨[.ag .Config],[]⟩) sigOk 100000 (b := q03 Tryz.f18 [1,1,1,0,1,0,0]) (by kernel_rfl) (by kernel_rfl)
theorem y56 (s_0 node_1 : Int) : Le (
 Option.bind (z1h s_0) fun x0 =>
 bif x0 then
 bif (leB 0 node_1) then
 bif (ltB node_1 10) then
 chk (0 ≤ node_1) <|
 some (eqB (andI .i64 (shrI .i64 s_0 node_1) 1) 1)
 else
 some false
 else
 some false
 else
 some false
 ) (z5q s_0 node_1) :=
 q01 (T := tn) (c := q06 Tryz.f49) (o := ⟨[.lf .b],[]⟩) sigOk 100000 (by kernel_rfl) Tryz.func49 (by kernel_rfl) (by kernel_rfl) (by kernel_rfl)
theorem y3r (t_0 : Trust) (node_1 s_2 : Int) : Le (
 Option.bind (z1h s_2) fun x0 =>
 bif (!x0) then
 some (Trust.mk t_0.Threshold t_0.Nodes t_0.Inner)
 else
 Option.bind (z6m t_0 s_2) fun x1 =>
 bif (leB x1.Threshold 0) then
 some (Trust.mk 1 ([node_1] : List (Int)) ([] : List (Trust)))
 else
 some (Trust.mk x1.Threshold x1.Nodes x1.Inner)
 ) (z6p t_0 node_1 s_2) :=
 q01 (T := tn) (c := q06 Tryz.f50) (o := ⟨[.ag .Trust],[]⟩) sigOk 100000 (by kernel_rfl) Tryz.func50 (by kernel_rfl) (by kernel_rfl) (by kernel_rfl)
theorem y1o (t_0 : Trust) (s_1 : Int) : Le (
 z4b s_1 t_0.Nodes ((List.length t_0.Nodes : Nat) : Int) 0 t_0.Threshold t_0.Nodes t_0.Inner 0 ([] : List (Int)) ([] : List (Trust)) t_0.Threshold ([] : List (Int)) ([] : List (Trust))
 ) (z6m t_0 s_1) :=
 q01 (T := tn) (c := q06 Tryz.f78) (o := ⟨[.ag .Trust],[]⟩) sigOk 100000 (by kernel_rfl) Tryz.func78 (by kernel_rfl) (by kernel_rfl) (by kernel_rfl)
theorem qzs (a0 a4 : Int) (a6 : List Member) (a8 : Int) (a10 : List Int) (a12 : List Trust) : Le (
 bif (ltB a4 a0) then
 capOk (List.length a10 + List.length ([a4] : List (Int))) <|
 z50 a0 (addI .i64 a4 1) a6 a8 (a10 ++ ([a4] : List (Int))) a12
 else
 z6s a0 0 a6 a8 a10 a12 ([] : List (Member))
 ) (z50 a0 a4 a6 a8 a10 a12) :=
 q00 (T := tn) (o := ⟨[.ag .Config],[]⟩) sigOk 100000 (b := q03 Tryz.f42 [1,1,0,1,0,0]) (by kernel_rfl) (by kernel_rfl)
theorem qyg (a2 : Int) (a4 : List Int) (a6 a8 : Int) (a10 : List Int) (a12 : List Trust) (a14 : Int) (a16 : List Int) (a18 : List Trust) (a20 : Int) (a22 : List Int) (a24 : List Trust) : Le (
 bif (ltB 0 a2) then
 z41 (subI .i64 a2 1) a4 a6 a8 a10 a12 a14 a16 a18 1 ([] : List (Int)) ([(Trust.mk a20 a22 a24)] : List (Trust))
 else
 some ((Trust.mk a20 a22 a24), a4, a6)
 ) (z3a a2 a4 a6 a8 a10 a12 a14 a16 a18 a20 a22 a24) :=
 q00 (T := tn) (o := ⟨[.ag .Trust],[[.lf (.l .i64), .lf (.i .i64)]]⟩) sigOk 100000 (b := q03 Tryz.f55 [1,1,0,1,0,1,1,1,1,1,1,1,1,1,0,1,0,1,0,0]) (by kernel_rfl) (by kernel_rfl)
theorem qz2 (a2 : List Trust) (a4 : Int) (a6 : List Int) (a8 a10 : Int) (a12 : List Int) (a14 : List Trust) (a16 : Int) (a18 : List Int) (a20 : List Trust) : Le (
 bif (ltB 0 a4) then
 capOk (List.length a2 + List.length ([(Trust.mk 1 ([(remI .i64 a4 10)] : List (Int)) ([] : List (Trust)))] : List (Trust))) <|
 z2v (a2 ++ ([(Trust.mk 1 ([(remI .i64 a4 10)] : List (Int)) ([] : List (Trust)))] : List (Trust))) (subI .i64 a4 1) a6 a8 a10 a12 a14 a16 a18 a20
 else
 capOk (List.length a2 + List.length a14) <|
 some ((Trust.mk a10 a12 (a2 ++ a14)), a6, a8)
 ) (z2v a2 a4 a6 a8 a10 a12 a14 a16 a18 a20) :=
 q00 (T := tn) (o := ⟨[.ag .Trust],[[.lf (.l .i64), .lf (.i .i64)]]⟩) sigOk 100000 (b := q03 Tryz.f55 [1,1,0,1,0,1,1,1,1,1,1,1,1,1,1,1,0,1,0,0]) (by kernel_rfl) (by kernel_rfl)
theorem qxd (a1 : List Member) (a3 a5 : Int) (a7 : List Member) : Le (
 bif (ltB a5 a3) then
 nth a1 a5 fun y0 =>
 Option.bind (z3y y0 ((List.length a7 : Nat) : Int)) fun x1 =>
 bif (neB x1 0) then
 some x1
 else
 z26 a1 a3 (addI .i64 a5 1) a7
 else
 some 0
 ) (z26 a1 a3 a5 a7) :=
 q00 (T := tn) (o := ⟨[.lf (.i .i64)],[]⟩) sigOk 100000 (b := q03 Tryz.f35 [1,1,0,1,0,0]) (by kernel_rfl) (by kernel_rfl)
theorem y2b (m_0 : Member) (members_1 : Int) : Le (
 bif (!m_0.Declared) then
 Option.bind (z4e m_0.Trust) fun x0 =>
 bif (!x0) then
 some 1
 else
 some 0
 else
 Option.bind (z5r m_0.Trust) fun x1 =>
 bif (neB x1 0) then
 some x1
 else
 chk (0 ≤ members_1) <|
 Option.bind (z5d m_0.Trust) fun x2 =>
 bif (leB (shlI .i64 1 members_1) x2) then
 some 5
 else
 some 0
 ) (z3y m_0 members_1) :=
 q01 (T := tn) (c := q06 Tryz.f65) (o := ⟨[.lf (.i .i64)],[]⟩) sigOk 100000 (by kernel_rfl) Tryz.func65 (by kernel_rfl) (by kernel_rfl) (by kernel_rfl)
theorem y5o (t_0 : Trust) : Le (
 bif (eqB t_0.Threshold 0) then
 bif (eqB ((List.length t_0.Nodes : Nat) : Int) 0) then
 some (eqB ((List.length t_0.Inner : Nat) : Int) 0)
 else
 some false
 else
 some false
 ) (z4e t_0) :=
 q01 (T := tn) (c := q06 Tryz.f86) (o := ⟨[.lf .b],[]⟩) sigOk 100000 (by kernel_rfl) Tryz.func86 (by kernel_rfl) (by kernel_rfl) (by kernel_rfl)
theorem y4f (t_0 : Trust) : Le (
 Option.bind (z4w t_0) fun x0 =>
 bif (ltB 4 x0) then
 some 3
 else
 Option.bind (z5e t_0) fun x1 =>
 bif (ltB 200 x1) then
 some 3
 else
 Option.bind (z4x t_0) fun x2 =>
 some x2
 ) (z5r t_0) :=
 q01 (T := tn) (c := q06 Tryz.f87) (o := ⟨[.lf (.i .i64)],[]⟩) sigOk 100000 (by kernel_rfl) Tryz.func87 (by kernel_rfl) (by kernel_rfl) (by kernel_rfl)
end Go.Proofs.YtfjcndlhpfbcgaaGreat
