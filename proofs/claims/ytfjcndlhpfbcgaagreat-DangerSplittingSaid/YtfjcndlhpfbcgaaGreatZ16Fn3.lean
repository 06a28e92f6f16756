/- What the functions come to, printed by a program and checked by the kernel. -/
import Derived.Test.YtfjcndlhpfbcgaaGreatZ16Df
namespace Go.Proofs.YtfjcndlhpfbcgaaGreat
open Go Go.Ab
set_option maxRecDepth 100000
theorem qzp (a0 : Int) (a5 : List Config) (a7 a9 : Int) (a11 : List Int) (a13 a15 : Int) (a17 : List Member) (a19 : List Int) (a21 : Int) (a23 a25 : List Member) : Le (
 bif (ltB a15 a13) then
 nth a11 a15 fun y0 =>
 Option.bind (z5m (Config.mk a25) y0) fun x1 =>
 Option.bind (z63 (Config.mk a25) y0) fun x2 =>
 Option.bind (z64 (Config.mk a25) y0) fun x3 =>
 Option.bind (z5u (Config.mk a25) y0) fun x4 =>
 Option.bind (z6d (Config.mk a25) y0) fun x5 =>
 Option.bind (z6w (Config.mk a25) y0) fun x6 =>
 bif (!(x1.1 == x2.1)) then
 some false
 else
 bif (neB x1.2 x2.2) then
 some false
 else
 bif (!(x3.1 == x4.1)) then
 some false
 else
 bif (neB x3.2 x4.2) then
 some false
 else
 bif (neB x5.1 x6.1) then
 some false
 else
 bif (neB x5.2.1 x6.2.1) then
 some false
 else
 bif (neB x5.2.2 x6.2.2) then
 some false
 else
 z27 a0 a5 a7 a9 a11 a13 (addI .i64 a15 1) a17 a19 a21 a23 a25
 else
 Option.bind (z1x (Config.mk a25)) fun x7 =>
 Option.bind (z3c (Config.mk a25)) fun x8 =>
 Option.bind (z2o (Config.mk a25)) fun x9 =>
 Option.bind (z51 (Config.mk a25)) fun x10 =>
 Option.bind (z2y (Config.mk a25)) fun x11 =>
 Option.bind (z4y (Config.mk a25)) fun x12 =>
 bif (neB x7.2 x8.2) then
 some false
 else
 bif (neB x9.2 x10.2) then
 some false
 else
 bif (neB x11.2.2 x12.2.2) then
 some false
 else
 bif (neB x11.1 x12.1) then
 some false
 else
 bif (neB x11.2.1 x12.2.1) then
 some false
 else
 Option.bind (z5w x7.1 x8.1) fun x13 =>
 bif (!x13) then
 some false
 else
 Option.bind (z5w x9.1 x10.1) fun x14 =>
 bif (!x14) then
 some false
 else
 z1p a0 a5 a7 (addI .i64 a9 1) a17 a19 a21 a23
 ) (z27 a0 a5 a7 a9 a11 a13 a15 a17 a19 a21 a23 a25) :=
 q00 (T := tn) (o := ⟨[.lf .b],[]⟩) sigOk 100000 (b := q03 Tryz.f5 [1,1,1,1,0,1,0,0,1,1,0,0,1,0,1,0,0]) (by kernel_rfl) (by kernel_rfl)
theorem y4p (c_0 : Config) (s_1 : Int) : Le (
 Option.bind (z5v c_0 s_1) fun x0 =>
 bif (neB x0 0) then
 some (false, x0)
 else
 Option.bind (z5i c_0 s_1) fun x1 =>
 Option.bind (z6q x1) fun x2 =>
 some ((!x2.1), 0)
 ) (z63 c_0 s_1) :=
 q01 (T := tn) (c := q06 Tryz.f23) (o := ⟨[.lf .b, .lf (.i .i64)],[]⟩) sigOk 100000 (by kernel_rfl) Tryz.func23 (by kernel_rfl) (by kernel_rfl) (by kernel_rfl)
theorem y3e (c_0 : Config) (s_1 : Int) : Le (
 Option.bind (z5j c_0 s_1) fun x0 =>
 bif (neB x0 0) then
 some (false, x0)
 else
 Option.bind (z5y c_0 s_1) fun x1 =>
 some (x1, 0)
 ) (z64 c_0 s_1) :=
 q01 (T := tn) (c := q06 Tryz.f13) (o := ⟨[.lf .b, .lf (.i .i64)],[]⟩) sigOk 100000 (by kernel_rfl) Tryz.func13 (by kernel_rfl) (by kernel_rfl) (by kernel_rfl)
theorem y5h (c_0 : Config) (s_1 : Int) : Le (
 Option.bind (z5v c_0 s_1) fun x0 =>
 bif (neB x0 0) then
 some (false, x0)
 else
 Option.bind (z48 c_0) fun x1 =>
 Option.bind (z4g c_0 (subI .i64 x1 s_1)) fun x2 =>
 some ((eqB x2 0), 0)
 ) (z5u c_0 s_1) :=
 q01 (T := tn) (c := q06 Tryz.f24) (o := ⟨[.lf .b, .lf (.i .i64)],[]⟩) sigOk 100000 (by kernel_rfl) Tryz.func24 (by kernel_rfl) (by kernel_rfl) (by kernel_rfl)
theorem y3m (c_0 : Config) (s_1 : Int) : Le (
 Option.bind (z5v c_0 s_1) fun x0 =>
 bif (neB x0 0) then
 some (0, 0, x0)
 else
 Option.bind (z5i c_0 s_1) fun x1 =>
 Option.bind (z65 x1) fun x2 =>
 some (x2.1, x2.2.1, x2.2.2)
 ) (z6w c_0 s_1) :=
 q01 (T := tn) (c := q06 Tryz.f25) (o := ⟨[.lf (.i .i64), .lf (.i .i64), .lf (.i .i64)],[]⟩) sigOk 100000 (by kernel_rfl) Tryz.func25 (by kernel_rfl) (by kernel_rfl) (by kernel_rfl)
theorem qv3 (c_0 : Config) : Le (
 Option.bind (z3u c_0) fun x0 =>
 bif (neB x0 0) then
 some (([] : List (Int)), x0)
 else
 bif (ltB 7 ((List.length c_0.Members : Nat) : Int)) then
 some (([] : List (Int)), 3)
 else
 z2g ([] : List (Int)) 0 c_0.Members
 ) (z3c c_0) :=
 q01 (T := tn) (c := q06 Tryz.f27) (o := ⟨[.lf (.l .i64), .lf (.i .i64)],[]⟩) sigOk 100000 (by kernel_rfl) Tryz.func27 (by kernel_rfl) (by kernel_rfl) (by kernel_rfl)
theorem qzt (c_0 : Config) : Le (
 Option.bind (z3u c_0) fun x0 =>
 bif (neB x0 0) then
 some (([] : List (Int)), x0)
 else
 z28 ([] : List (Int)) 0 c_0.Members
 ) (z51 c_0) :=
 q01 (T := tn) (c := q06 Tryz.f28) (o := ⟨[.lf (.l .i64), .lf (.i .i64)],[]⟩) sigOk 100000 (by kernel_rfl) Tryz.func28 (by kernel_rfl) (by kernel_rfl) (by kernel_rfl)
theorem qx3 (c_0 : Config) : Le (
 Option.bind (z3c c_0) fun x0 =>
 bif (neB x0.2 0) then
 some (0, 0, x0.2)
 else
 Option.bind (z51 c_0) fun x1 =>
 Option.bind (z6f x0.1 ((List.length c_0.Members : Nat) : Int)) fun x2 =>
 Option.bind (z6f x1.1 ((List.length c_0.Members : Nat) : Int)) fun x3 =>
 some (x2, x3, 0)
 ) (z4y c_0) :=
 q01 (T := tn) (c := q06 Tryz.f30) (o := ⟨[.lf (.i .i64), .lf (.i .i64), .lf (.i .i64)],[]⟩) sigOk 100000 (by kernel_rfl) Tryz.func30 (by kernel_rfl) (by kernel_rfl) (by kernel_rfl)
theorem y5z (c_0 : Config) (s_1 : Int) : Le (
 Option.bind (z3u c_0) fun x0 =>
 bif (neB x0 0) then
 some x0
 else
 bif (ltB s_1 0) then
 some 1
 else
 Option.bind (z48 c_0) fun x1 =>
 bif (ltB x1 s_1) then
 some 1
 else
 some 0
 ) (z5v c_0 s_1) :=
 q01 (T := tn) (c := q06 Tryz.f56) (o := ⟨[.lf (.i .i64)],[]⟩) sigOk 100000 (by kernel_rfl) Tryz.func56 (by kernel_rfl) (by kernel_rfl) (by kernel_rfl)
theorem y66 (c_0 : Config) : Le (
 Option.bind (z3u c_0) fun x0 =>
 bif (neB x0 0) then
 some (false, x0)
 else
 Option.bind (z6g c_0) fun x1 =>
 some ((eqB x1.1 0), 0)
 ) (z6q c_0) :=
 q01 (T := tn) (c := q06 Tryz.f57) (o := ⟨[.lf .b, .lf (.i .i64)],[]⟩) sigOk 100000 (by kernel_rfl) Tryz.func57 (by kernel_rfl) (by kernel_rfl) (by kernel_rfl)
theorem y53 (c_0 : Config) : Le (
 chk (0 ≤ ((List.length c_0.Members : Nat) : Int)) <|
 some (subI .i64 (shlI .i64 1 ((List.length c_0.Members : Nat) : Int)) 1)
 ) (z48 c_0) :=
 q01 (T := tn) (c := q06 Tryz.f58) (o := ⟨[.lf (.i .i64)],[]⟩) sigOk 100000 (by kernel_rfl) Tryz.func58 (by kernel_rfl) (by kernel_rfl) (by kernel_rfl)
theorem y5q (c_0 : Config) : Le (
 Option.bind (z3u c_0) fun x0 =>
 bif (neB x0 0) then
 some (0, 0, x0)
 else
 Option.bind (z6g c_0) fun x1 =>
 bif (eqB x1.1 0) then
 some (0, 0, 11)
 else
 some (x1.1, x1.2, 0)
 ) (z65 c_0) :=
 q01 (T := tn) (c := q06 Tryz.f59) (o := ⟨[.lf (.i .i64), .lf (.i .i64), .lf (.i .i64)],[]⟩) sigOk 100000 (by kernel_rfl) Tryz.func59 (by kernel_rfl) (by kernel_rfl) (by kernel_rfl)
theorem y1z (l_0 : List Int) (n_1 : Int) : Le (
 z37 n_1 l_0 ((List.length l_0 : Nat) : Int) 0
 ) (z6f l_0 n_1) :=
 q01 (T := tn) (c := q06 Tryz.f62) (o := ⟨[.lf (.i .i64)],[]⟩) sigOk 100000 (by kernel_rfl) Tryz.func62 (by kernel_rfl) (by kernel_rfl) (by kernel_rfl)
theorem y2q (c_0 : Config) : Le (
 Option.bind (z49 c_0) fun x0 =>
 Option.bind (z6c x0) fun x1 =>
 z3t x1 ((List.length x1 : Nat) : Int) 0 c_0.Members
 ) (z6g c_0) :=
 q01 (T := tn) (c := q06 Tryz.f79) (o := ⟨[.lf (.i .i64), .lf (.i .i64)],[]⟩) sigOk 100000 (by kernel_rfl) Tryz.func79 (by kernel_rfl) (by kernel_rfl) (by kernel_rfl)
theorem qz3 (c_0 : Config) : Le (
 chk (0 ≤ ((List.length c_0.Members : Nat) : Int)) <|
 some (subI .i64 (shlI .i64 1 ((List.length c_0.Members : Nat) : Int)) 1)
 ) (z49 c_0) :=
 q01 (T := tn) (c := q06 Tryz.f105) (o := ⟨[.lf (.i .i64)],[]⟩) sigOk 100000 (by kernel_rfl) Tryz.func105 (by kernel_rfl) (by kernel_rfl) (by kernel_rfl)
theorem y5p (s_0 : Int) : Le (
 z33 s_0 ([] : List (Int)) 0
 ) (z6c s_0) :=
 q01 (T := tn) (c := q06 Tryz.f104) (o := ⟨[.lf (.l .i64)],[]⟩) sigOk 100000 (by kernel_rfl) Tryz.func104 (by kernel_rfl) (by kernel_rfl) (by kernel_rfl)
theorem qxz (a2 : List Int) (a4 a6 : Int) (a8 : Bool) (a10 : List Int) (a12 a14 : Int) (a16 : List Int) (a18 : Int) (a20 : List Member) : Le (
 bif (ltB a14 a12) then
 nth a10 a14 fun y0 =>
 bif a8 then
 z1s a2 a4 a6 true a10 a12 (addI .i64 a14 1) a16 a18 a20
 else
 z1s a2 a4 a6 (eqB (andI .i64 a6 y0) y0) a10 a12 (addI .i64 a14 1) a16 a18 a20
 else
 Option.bind (z64 (Config.mk a20) a6) fun x1 =>
 bif (neB x1.2 0) then
 some false
 else
 bif (!(x1.1 == a8)) then
 some false
 else
 z1q a2 (addI .i64 a4 1) a16 a18 a20
 ) (z1s a2 a4 a6 a8 a10 a12 a14 a16 a18 a20) :=
 q00 (T := tn) (o := ⟨[.lf .b],[]⟩) sigOk 100000 (b := q03 Tryz.f3 [1,1,1,1,1,1,1,0,1,0,0,1,0,0,1,1,0,1,0,0]) (by kernel_rfl) (by kernel_rfl)
theorem qx2 (a0 : Int) (a3 : List Int) (a5 a7 : Int) (a9 : List Member) : Le (
 bif (ltB a7 a5) then
 nth a3 a7 fun y0 =>
 nth a9 y0 fun y1 =>
 Option.bind (z40 y1.Trust a0) fun x2 =>
 bif (!x2) then
 some false
 else
 z2w a0 a3 a5 (addI .i64 a7 1) a9
 else
 some true
 ) (z2w a0 a3 a5 a7 a9) :=
 q00 (T := tn) (o := ⟨[.lf .b],[]⟩) sigOk 100000 (b := q03 Tryz.f19 [1,1,0,1,0,0]) (by kernel_rfl) (by kernel_rfl)
theorem y5c (t_0 : Trust) (s_1 : Int) : Le (
 Option.bind (z1h s_1) fun x0 =>
 bif (!x0) then
 some false
 else
 z2h s_1 0 t_0.Nodes ((List.length t_0.Nodes : Nat) : Int) 0 t_0.Threshold t_0.Nodes t_0.Inner
 ) (z40 t_0 s_1) :=
 q01 (T := tn) (c := q06 Tryz.f52) (o := ⟨[.lf .b],[]⟩) sigOk 100000 (by kernel_rfl) Tryz.func52 (by kernel_rfl) (by kernel_rfl) (by kernel_rfl)
theorem y2m (a0 : Int) (a2 : List Int) (a4 a6 : Int) (a8 : List Member) : Le (
 bif (ltB a6 a4) then
 nth a2 a6 fun y0 =>
 chk (0 ≤ y0) <|
 z46 (subI .i64 a0 (shlI .i64 1 y0)) a2 a4 (addI .i64 a6 1) a8
 else
 some a0
 ) (z46 a0 a2 a4 a6 a8) :=
 q00 (T := tn) (o := ⟨[.lf (.i .i64)],[]⟩) sigOk 100000 (b := q03 Tryz.f20 [1,1,1,0,1,0,0]) (by kernel_rfl) (by kernel_rfl)
theorem qxl (a0 : Int) (a2 : List Member) (a4 a6 : Int) (a8 : List Member) : Le (
 bif (ltB a6 a4) then
 nth a2 a6 fun y0 =>
 bif (ltB a6 10) then
 bif y0.Declared then
 chk (0 ≤ a6) <|
 z29 (orI .i64 a0 (shlI .i64 1 a6)) a2 a4 (addI .i64 a6 1) a8
 else
 z29 a0 a2 a4 (addI .i64 a6 1) a8
 else
 z29 a0 a2 a4 (addI .i64 a6 1) a8
 else
 some a0
 ) (z29 a0 a2 a4 a6 a8) :=
 q00 (T := tn) (o := ⟨[.lf (.i .i64)],[]⟩) sigOk 100000 (b := q03 Tryz.f44 [1,1,0,1,0,0]) (by kernel_rfl) (by kernel_rfl)
theorem qy7 (a0 : Int) (a2 : List Int) (a4 : Int) : Le (
 bif (ltB a4 10) then
 Option.bind (z5q a0 a4) fun x0 =>
 bif x0 then
 capOk (List.length a2 + List.length ([a4] : List (Int))) <|
 z3r a0 (a2 ++ ([a4] : List (Int))) (addI .i64 a4 1)
 else
 z3r a0 a2 (addI .i64 a4 1)
 else
 some a2
 ) (z3r a0 a2 a4) :=
 q00 (T := tn) (o := ⟨[.lf (.l .i64)],[]⟩) sigOk 100000 (b := q03 Tryz.f51 [1,1,0,1,0,0]) (by kernel_rfl) (by kernel_rfl)
theorem y4r (a1 : Int) (a3 : List Int) (a5 : Bool) (a7 : List Member) : Le (
 bif a5 then
 Option.bind (z5a a1) fun x0 =>
 z24 a1 a3 false x0 ((List.length x0 : Nat) : Int) 0 a7
 else
 some a3
 ) (z2j a1 a3 a5 a7) :=
 q00 (T := tn) (o := ⟨[.lf (.l .i64)],[]⟩) sigOk 100000 (b := q03 Tryz.f53 [1,1,1,1,0,1,0,0]) (by kernel_rfl) (by kernel_rfl)
theorem qv8 (a0 a3 a5 : Int) (a7 : List Int) (a9 : List Trust) : Le (
 bif (ltB a3 ((List.length a9 : Nat) : Int)) then
 bif (leB a0 400) then
 nth a9 a3 fun y0 =>
 Option.bind (z6k y0 a0) fun x1 =>
 z4a x1 (addI .i64 a3 1) a5 a7 a9
 else
 some a0
 else
 some a0
 ) (z4a a0 a3 a5 a7 a9) :=
 q00 (T := tn) (o := ⟨[.lf (.i .i64)],[]⟩) sigOk 100000 (b := q03 Tryz.f54 [1,1,0,1,0,0]) (by kernel_rfl) (by kernel_rfl)
theorem qoo (a1 a5 : Int) (a7 : List Int) (a9 a11 : Int) (a13 : List Int) (a15 : List Trust) (a17 : Int) (a19 : List Int) (a21 : List Trust) : Le (
 bif (ltB a5 a1) then
 Option.bind (z1a 10 a7 a9) fun x0 =>
 bif (ltB x0.1 9) then
 capOk (List.length a19 + List.length ([a5] : List (Int))) <|
 z4n a1 (addI .i64 a5 1) x0.2.1 x0.2.2 a11 a13 a15 a17 (a19 ++ ([a5] : List (Int))) a21
 else
 z4n a1 (addI .i64 a5 1) x0.2.1 x0.2.2 a11 a13 a15 a17 a19 a21
 else
 bif (eqB ((List.length a19 : Nat) : Int) 0) then
 Option.bind (z1j ([0, 0, 0, 1, (-1)] : List (Int)) a7 a9) fun x1 =>
 some ((Trust.mk (if (if (addI .i64 (quoI .i64 (addI .i64 (mulI .i64 2 ((List.length ([0] : List (Int)) : Nat) : Int)) 2) 3) x1.1) > 1 then (addI .i64 (quoI .i64 (addI .i64 (mulI .i64 2 ((List.length ([0] : List (Int)) : Nat) : Int)) 2) 3) x1.1) else 1) < ((List.length ([0] : List (Int)) : Nat) : Int) then (if (addI .i64 (quoI .i64 (addI .i64 (mulI .i64 2 ((List.length ([0] : List (Int)) : Nat) : Int)) 2) 3) x1.1) > 1 then (addI .i64 (quoI .i64 (addI .i64 (mulI .i64 2 ((List.length ([0] : List (Int)) : Nat) : Int)) 2) 3) x1.1) else 1) else ((List.length ([0] : List (Int)) : Nat) : Int)) ([0] : List (Int)) a21), x1.2.1, x1.2.2)
 else
 Option.bind (z1j ([0, 0, 0, 1, (-1)] : List (Int)) a7 a9) fun x2 =>
 some ((Trust.mk (if (if (addI .i64 (quoI .i64 (addI .i64 (mulI .i64 2 ((List.length a19 : Nat) : Int)) 2) 3) x2.1) > 1 then (addI .i64 (quoI .i64 (addI .i64 (mulI .i64 2 ((List.length a19 : Nat) : Int)) 2) 3) x2.1) else 1) < ((List.length a19 : Nat) : Int) then (if (addI .i64 (quoI .i64 (addI .i64 (mulI .i64 2 ((List.length a19 : Nat) : Int)) 2) 3) x2.1) > 1 then (addI .i64 (quoI .i64 (addI .i64 (mulI .i64 2 ((List.length a19 : Nat) : Int)) 2) 3) x2.1) else 1) else ((List.length a19 : Nat) : Int)) a19 a21), x2.2.1, x2.2.2)
 ) (z4n a1 a5 a7 a9 a11 a13 a15 a17 a19 a21) :=
 q00 (T := tn) (o := ⟨[.ag .Trust],[[.lf (.l .i64), .lf (.i .i64)]]⟩) sigOk 100000 (b := q03 Tryz.f33 [1,1,0,1,0,0]) (by kernel_rfl) (by kernel_rfl)
theorem quy (a1 a3 : Int) (a6 : List Trust) (a8 : Int) (a10 : List Int) (a12 a14 : Int) (a16 : List Int) (a18 : List Trust) : Le (
 bif (ltB a8 3) then
 z5b a1 a3 a6 a8 a8 a10 a12 a14 a16 a18 1 ([] : List (Int)) ([] : List (Trust))
 else
 Option.bind (z1a 4 a10 a12) fun x0 =>
 bif (eqB x0.1 0) then
 chk (((List.length a6 : Nat) : Int) ≠ 0) <|
 nth a6 (remI .i64 a3 ((List.length a6 : Nat) : Int)) fun _ =>
 nthN a6 (Int.toNat (remI .i64 a3 ((List.length a6 : Nat) : Int))) fun y1 =>
 some ((Trust.mk y1.Threshold y1.Nodes y1.Inner), x0.2.1, x0.2.2)
 else
 Option.bind (z1f (if (subI .i64 ((List.length a6 : Nat) : Int) 1) > 1 then (subI .i64 ((List.length a6 : Nat) : Int) 1) else 1) ((List.length a6 : Nat) : Int) x0.2.1 x0.2.2) fun x2 =>
 some ((Trust.mk x2.1 ([] : List (Int)) a6), x2.2.1, x2.2.2)
 ) (z2q a1 a3 a6 a8 a10 a12 a14 a16 a18) :=
 q00 (T := tn) (o := ⟨[.ag .Trust],[[.lf (.l .i64), .lf (.i .i64)]]⟩) sigOk 100000 (b := q03 Tryz.f34 [1,1,0,1,0,0]) (by kernel_rfl) (by kernel_rfl)
theorem qt1 (a1 a3 : Int) (a7 : List Int) (a9 a11 : Int) (a13 : List Int) (a15 a17 : Int) (a19 : List Int) (a21 : List Trust) (a23 : Int) (a25 : List Int) (a27 : List Trust) : Le (
 bif (ltB a11 a9) then
 nth a7 a11 fun y0 =>
 capOk (List.length a25 + List.length ([y0] : List (Int))) <|
 z4o a1 a3 a7 a9 (addI .i64 a11 1) a13 a15 a17 a19 a21 a23 (a25 ++ ([y0] : List (Int))) a27
 else
 bif (ltB 1 a3) then
 Option.bind (z1j ([0, 0, 1, 1, 2, 3] : List (Int)) a13 a15) fun x1 =>
 z4q a1 a3 x1.1 x1.2.1 x1.2.2 a17 a19 a21 a23 a25 a27
 else
 Option.bind (z1f 1 (addI .i64 ((List.length a25 : Nat) : Int) ((List.length a27 : Nat) : Int)) a13 a15) fun x2 =>
 some ((Trust.mk x2.1 a25 a27), x2.2.1, x2.2.2)
 ) (z4o a1 a3 a7 a9 a11 a13 a15 a17 a19 a21 a23 a25 a27) :=
 q00 (T := tn) (o := ⟨[.ag .Trust],[[.lf (.l .i64), .lf (.i .i64)]]⟩) sigOk 100000 (b := q03 Tryz.f63 [1,1,1,0,1,0,0]) (by kernel_rfl) (by kernel_rfl)
theorem qx7 (a1 : Int) (a3 : List Int) (a5 : Int) (a7 : List Int) (a9 : Int) : Le (
 bif (ltB a5 a1) then
 capOk (List.length a3 + List.length ([a5] : List (Int))) <|
 z3k a1 (a3 ++ ([a5] : List (Int))) (addI .i64 a5 1) a7 a9
 else
 z3m a3 (subI .i64 a1 1) a7 a9
 ) (z3k a1 a3 a5 a7 a9) :=
 q00 (T := tn) (o := ⟨[.lf (.l .i64)],[[.lf (.l .i64), .lf (.i .i64)]]⟩) sigOk 100000 (b := q03 Tryz.f82 [1,1,0,1,0,0]) (by kernel_rfl) (by kernel_rfl)
theorem qzf (a0 : Int) (a2 : List Trust) (a4 a6 a8 : Int) (a10 : List Int) (a12 : List Trust) : Le (
 bif (ltB a6 a4) then
 nth a2 a6 fun y0 =>
 Option.bind (z6e y0) fun x1 =>
 z4i (if x1 > a0 then x1 else a0) a2 a4 (addI .i64 a6 1) a8 a10 a12
 else
 some (addI .i64 a0 1)
 ) (z4i a0 a2 a4 a6 a8 a10 a12) :=
 q00 (T := tn) (o := ⟨[.lf (.i .i64)],[]⟩) sigOk 100000 (b := q03 Tryz.f83 [1,1,0,1,0,0]) (by kernel_rfl) (by kernel_rfl)
theorem qxc (a0 : Int) (a2 : List Trust) (a4 a6 a8 : Int) (a10 : List Int) (a12 : List Trust) : Le (
 bif (ltB a6 a4) then
 nth a2 a6 fun y0 =>
 Option.bind (z6l y0) fun x1 =>
 z52 (addI .i64 a0 x1) a2 a4 (addI .i64 a6 1) a8 a10 a12
 else
 some a0
 ) (z52 a0 a2 a4 a6 a8 a10 a12) :=
 q00 (T := tn) (o := ⟨[.lf (.i .i64)],[]⟩) sigOk 100000 (b := q03 Tryz.f84 [1,1,0,1,0,0]) (by kernel_rfl) (by kernel_rfl)
theorem qfl (a1 : List Int) (a3 a5 a7 : Int) (a9 : List Int) (a11 : List Trust) : Le (
 bif (ltB a5 a3) then
 nth a1 a5 fun y0 =>
 bif (ltB y0 0) then
 some 5
 else
 bif (leB 10 y0) then
 some 5
 else
 z1v a1 a3 (addI .i64 a5 1) a7 a9 a11
 else
 Option.bind (z6t a9) fun x1 =>
 bif (neB x1.2 0) then
 some x1.2
 else
 z1w a11 ((List.length a11 : Nat) : Int) 0 a7 a9 a11
 ) (z1v a1 a3 a5 a7 a9 a11) :=
 q00 (T := tn) (o := ⟨[.lf (.i .i64)],[]⟩) sigOk 100000 (b := q03 Tryz.f85 [1,1,0,1,0,0]) (by kernel_rfl) (by kernel_rfl)
theorem qye (nodes_0 : List Int) : Le (
 z2e 0 nodes_0 ((List.length nodes_0 : Nat) : Int) 0
 ) (z6t nodes_0) :=
 q01 (T := tn) (c := q06 Tryz.f107) (o := ⟨[.lf (.i .i64), .lf (.i .i64)],[]⟩) sigOk 100000 (by kernel_rfl) Tryz.func107 (by kernel_rfl) (by kernel_rfl) (by kernel_rfl)
theorem qze (a2 : List Int) (a4 : Int) (a6 a8 a10 : List Member) : Le (
 bif (leB ((List.length a10 : Nat) : Int) 10) then
 capOk (List.length a10 + List.length ([(Member.mk false (Trust.mk 0 ([] : List (Int)) ([] : List (Trust))))] : List (Member))) <|
 z3l a2 a4 a6 a8 (a10 ++ ([(Member.mk false (Trust.mk 0 ([] : List (Int)) ([] : List (Trust))))] : List (Member)))
 else
 some ((Config.mk a10), a2, a4)
 ) (z3l a2 a4 a6 a8 a10) :=
 q00 (T := tn) (o := ⟨[.ag .Config],[[.lf (.l .i64), .lf (.i .i64)]]⟩) sigOk 100000 (b := q03 Tryz.f22 [1,1,1,1,0,1,0,1,1,1,1,1,1,1,1,0,0]) (by kernel_rfl) (by kernel_rfl)
theorem qzw (a0 : List Int) (a2 : Int) (a4 : List Int) (a6 : Int) : Le (
 chk (0 ≤ a2) <|
 bif (ltB a6 (shlI .i64 1 a2)) then
 z34 a0 a2 a4 a6 true a0 ((List.length a0 : Nat) : Int) 0
 else
 Option.bind (z3e a4) fun x0 =>
 some (x0, 0)
 ) (z1y a0 a2 a4 a6) :=
 q00 (T := tn) (o := ⟨[.lf (.l .i64), .lf (.i .i64)],[]⟩) sigOk 100000 (b := q03 Tryz.f10 [1,1,1,1,1,0,1,0,0]) (by kernel_rfl) (by kernel_rfl)
theorem qyc (a0 : Int) (a5 : List Int) (a7 a9 a11 : Int) (a13 : List Int) (a15 : List Trust) (a17 : Int) (a19 : List Int) (a21 : List Trust) (a23 : Int) (a25 : List Int) (a27 : List Trust) : Le (
 bif (ltB a9 a7) then
 nth a5 a9 fun y0 =>
 Option.bind (z5q a0 y0) fun x1 =>
 bif x1 then
 Option.bind (z6h a23) fun x2 =>
 z4b a0 a5 a7 (addI .i64 a9 1) a11 a13 a15 a17 a19 a21 x2 a25 a27
 else
 capOk (List.length a25 + List.length ([y0] : List (Int))) <|
 z4b a0 a5 a7 (addI .i64 a9 1) a11 a13 a15 a17 a19 a21 a23 (a25 ++ ([y0] : List (Int))) a27
 else
 z3h a0 a15 ((List.length a15 : Nat) : Int) 0 a11 a13 a15 a17 a19 a21 a23 a25 a27
 ) (z4b a0 a5 a7 a9 a11 a13 a15 a17 a19 a21 a23 a25 a27) :=
 q00 (T := tn) (o := ⟨[.ag .Trust],[]⟩) sigOk 100000 (b := q03 Tryz.f78 [1,1,0,1,0,0]) (by kernel_rfl) (by kernel_rfl)
theorem y3n (n_0 : Int) : Le (
 bif (leB n_0 0) then
 some n_0
 else
 some (subI .i64 n_0 1)
 ) (z6h n_0) :=
 q01 (T := tn) (c := q06 Tryz.f103) (o := ⟨[.lf (.i .i64)],[]⟩) sigOk 100000 (by kernel_rfl) Tryz.func103 (by kernel_rfl) (by kernel_rfl) (by kernel_rfl)
theorem y6b (a0 a5 : Int) (a7 : List Member) (a9 : Int) (a11 : List Int) (a13 : List Trust) (a15 : List Member) : Le (
 bif (ltB a5 a0) then
 capOk (List.length a15 + List.length ([(Member.mk true (Trust.mk a9 a11 a13))] : List (Member))) <|
 z53 a0 (addI .i64 a5 1) a7 a9 a11 a13 (a15 ++ ([(Member.mk true (Trust.mk a9 a11 a13))] : List (Member)))
 else
 some (Config.mk a15)
 ) (z6s a0 a5 a7 a9 a11 a13 a15) :=
 q00 (T := tn) (o := ⟨[.ag .Config],[]⟩) sigOk 100000 (b := q03 Tryz.f42 [1,1,1,1,0,1,0,0]) (by kernel_rfl) (by kernel_rfl)
theorem qxr (a2 : Int) (a4 : List Int) (a6 a8 : Int) (a10 : List Int) (a12 : List Trust) (a14 : Int) (a16 : List Int) (a18 : List Trust) (a20 : Int) (a22 : List Int) (a24 : List Trust) : Le (
 bif (ltB 0 a2) then
 z41 (subI .i64 a2 1) a4 a6 a8 a10 a12 a14 a16 a18 1 ([] : List (Int)) ([(Trust.mk a20 a22 a24)] : List (Trust))
 else
 some ((Trust.mk a20 a22 a24), a4, a6)
 ) (z41 a2 a4 a6 a8 a10 a12 a14 a16 a18 a20 a22 a24) :=
 q00 (T := tn) (o := ⟨[.ag .Trust],[[.lf (.l .i64), .lf (.i .i64)]]⟩) sigOk 100000 (b := q03 Tryz.f55 [1,1,0,1,0,1,1,1,1,1,1,1,1,1,0,1,0,1,0,0]) (by kernel_rfl) (by kernel_rfl)
theorem qy0 (a1 : Int) (a3 : List Int) (a5 a7 a9 : Int) (a11 : List Int) (a13 : List Trust) : Le (
 bif (ltB a7 a5) then
 nth a3 a7 fun y0 =>
 Option.bind (z5g y0) fun x1 =>
 bif x1 then
 chk (0 ≤ y0) <|
 z2s (orI .i64 a1 (shlI .i64 1 y0)) a3 a5 (addI .i64 a7 1) a9 a11 a13
 else
 z2s a1 a3 a5 (addI .i64 a7 1) a9 a11 a13
 else
 z2u a1 a13 ((List.length a13 : Nat) : Int) 0 a9 a11 a13
 ) (z2s a1 a3 a5 a7 a9 a11 a13) :=
 q00 (T := tn) (o := ⟨[.lf (.i .i64)],[]⟩) sigOk 100000 (b := q03 Tryz.f88 [1,1,0,1,0,0]) (by kernel_rfl) (by kernel_rfl)
theorem y49 (k_0 : Int) : Le (
 bif (leB 0 k_0) then
 some (ltB k_0 10)
 else
 some false
 ) (z5g k_0) :=
 q01 (T := tn) (c := q06 Tryz.f111) (o := ⟨[.lf .b],[]⟩) sigOk 100000 (by kernel_rfl) Tryz.func111 (by kernel_rfl) (by kernel_rfl) (by kernel_rfl)
end Go.Proofs.YtfjcndlhpfbcgaaGreat
