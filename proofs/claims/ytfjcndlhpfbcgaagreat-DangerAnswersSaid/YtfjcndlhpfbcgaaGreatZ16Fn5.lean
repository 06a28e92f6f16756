/- What the functions come to, printed by a program and checked by the kernel. -/
import Derived.Test.YtfjcndlhpfbcgaaGreatZ16Df
namespace Go.Proofs.YtfjcndlhpfbcgaaGreat
open Go Go.Ab
set_option maxRecDepth 100000
theorem qys (c_0 : Config) (k_1 s_2 : Int) : Le (
 nth c_0.Members k_1 fun y0 =>
 Option.bind (z3d y0.Trust s_2) fun x1 =>
 some x1
 ) (z42 c_0 k_1 s_2) :=
 q01 (T := tn) (c := q06 Tryz.f139) (o := ⟨[.lf .b],[]⟩) sigOk 100000 (by kernel_rfl) Tryz.func139 (by kernel_rfl) (by kernel_rfl) (by kernel_rfl)
theorem y3u (t_0 : Trust) (s_1 : Int) : Le (
 Option.bind (z1o s_1) fun x0 =>
 bif (!x0) then
 some false
 else
 z1t s_1 0 t_0.Nodes ((List.length t_0.Nodes : Nat) : Int) 0 t_0.Threshold t_0.Nodes t_0.Inner
 ) (z3d t_0 s_1) :=
 q01 (T := tn) (c := q06 Tryz.f145) (o := ⟨[.lf .b],[]⟩) sigOk 100000 (by kernel_rfl) Tryz.func145 (by kernel_rfl) (by kernel_rfl) (by kernel_rfl)
theorem qx1 (a0 : Int) (a2 : List Int) (a4 : Int) : Le (
 bif (ltB a4 10) then
 Option.bind (z4m a0 a4) fun x0 =>
 bif x0 then
 capOk (List.length a2 + List.length ([a4] : List (Int))) <|
 z32 a0 (a2 ++ ([a4] : List (Int))) (addI .i64 a4 1)
 else
 z32 a0 a2 (addI .i64 a4 1)
 else
 some a2
 ) (z32 a0 a2 a4) :=
 q00 (T := tn) (o := ⟨[.lf (.l .i64)],[]⟩) sigOk 100000 (b := q03 Tryz.f138 [1,1,0,1,0,0]) (by kernel_rfl) (by kernel_rfl)
theorem qz7 (a1 : List Int) (a3 : Int) (a5 : List Member) : Le (
 Option.bind (z48 (Config.mk a5)) fun x0 =>
 bif (leB a3 x0) then
 Option.bind (z63 (Config.mk a5) a3) fun x1 =>
 bif x1.1 then
 capOk (List.length a1 + List.length ([a3] : List (Int))) <|
 z2g (a1 ++ ([a3] : List (Int))) (addI .i64 a3 1) a5
 else
 z2g a1 (addI .i64 a3 1) a5
 else
 Option.bind (z3e a1) fun x2 =>
 some (x2, 0)
 ) (z2g a1 a3 a5) :=
 q00 (T := tn) (o := ⟨[.lf (.l .i64), .lf (.i .i64)],[]⟩) sigOk 100000 (b := q03 Tryz.f27 [1,1,1,1,0,1,0,0]) (by kernel_rfl) (by kernel_rfl)
theorem qz9 (a1 : List Int) (a3 : Int) (a5 : List Member) : Le (
 Option.bind (z48 (Config.mk a5)) fun x0 =>
 bif (leB a3 x0) then
 Option.bind (z5u (Config.mk a5) a3) fun x1 =>
 bif (!x1.1) then
 z28 a1 (addI .i64 a3 1) a5
 else
 Option.bind (z5a a3) fun x2 =>
 z35 a1 a3 true x2 ((List.length x2 : Nat) : Int) 0 a5
 else
 Option.bind (z3e a1) fun x3 =>
 some (x3, 0)
 ) (z28 a1 a3 a5) :=
 q00 (T := tn) (o := ⟨[.lf (.l .i64), .lf (.i .i64)],[]⟩) sigOk 100000 (b := q03 Tryz.f28 [1,1,1,0,1,0,0]) (by kernel_rfl) (by kernel_rfl)
theorem qos (a0 : Int) (a2 : List Int) (a4 a6 : Int) : Le (
 bif (ltB a6 a4) then
 nth a2 a6 fun y0 =>
 Option.bind (z4p y0) fun x1 =>
 z37 (if (subI .i64 x1 1) < a0 then (subI .i64 x1 1) else a0) a2 a4 (addI .i64 a6 1)
 else
 some a0
 ) (z37 a0 a2 a4 a6) :=
 q00 (T := tn) (o := ⟨[.lf (.i .i64)],[]⟩) sigOk 100000 (b := q03 Tryz.f62 [1,0,1,0,0]) (by kernel_rfl) (by kernel_rfl)
theorem y3f (s_0 : Int) : Le (
 z54 s_0 0 0
 ) (z4p s_0) :=
 q01 (T := tn) (c := q06 Tryz.f81) (o := ⟨[.lf (.i .i64)],[]⟩) sigOk 100000 (by kernel_rfl) Tryz.func81 (by kernel_rfl) (by kernel_rfl) (by kernel_rfl)
theorem qyj (a1 : List Int) (a3 a5 : Int) (a7 : List Member) : Le (
 bif (ltB a5 a3) then
 nth a1 a5 fun y0 =>
 Option.bind (z23 (Config.mk a7) y0) fun x1 =>
 bif (!x1) then
 z3t a1 a3 (addI .i64 a5 1) a7
 else
 Option.bind (z49 (Config.mk a7)) fun x2 =>
 Option.bind (z4g (Config.mk a7) (subI .i64 x2 y0)) fun x3 =>
 bif (neB x3 0) then
 some (y0, x3)
 else
 z3t a1 a3 (addI .i64 a5 1) a7
 else
 some (0, 0)
 ) (z3t a1 a3 a5 a7) :=
 q00 (T := tn) (o := ⟨[.lf (.i .i64), .lf (.i .i64)],[]⟩) sigOk 100000 (b := q03 Tryz.f79 [1,0,1,0,0]) (by kernel_rfl) (by kernel_rfl)
theorem qyh (a0 : Int) (a2 : List Int) (a4 : Int) : Le (
 Option.bind (z4p a0) fun x0 =>
 bif (leB a4 x0) then
 Option.bind (z1h a0) fun x1 =>
 bif x1 then
 z2m a0 a2 a4 0
 else
 some a2
 else
 some a2
 ) (z33 a0 a2 a4) :=
 q00 (T := tn) (o := ⟨[.lf (.l .i64)],[]⟩) sigOk 100000 (b := q03 Tryz.f104 [1,1,0,1,0,0]) (by kernel_rfl) (by kernel_rfl)
theorem qz6 (a0 a3 : Int) (a5 : List Int) (a7 a9 a11 : Int) (a13 : List Int) (a15 : List Trust) : Le (
 bif (ltB a9 a7) then
 nth a5 a9 fun y0 =>
 Option.bind (z5q a0 y0) fun x1 =>
 bif x1 then
 z2h a0 (addI .i64 a3 1) a5 a7 (addI .i64 a9 1) a11 a13 a15
 else
 z2h a0 a3 a5 a7 (addI .i64 a9 1) a11 a13 a15
 else
 z25 a0 a3 a15 ((List.length a15 : Nat) : Int) 0 a11 a13 a15
 ) (z2h a0 a3 a5 a7 a9 a11 a13 a15) :=
 q00 (T := tn) (o := ⟨[.lf .b],[]⟩) sigOk 100000 (b := q03 Tryz.f52 [1,1,1,0,1,0,0]) (by kernel_rfl) (by kernel_rfl)
theorem qwz (a1 : Int) (a3 : List Int) (a5 : Bool) (a7 : List Int) (a9 a11 : Int) (a13 : List Member) : Le (
 bif (ltB a11 a9) then
 nth a7 a11 fun y0 =>
 nth a13 y0 fun y1 =>
 Option.bind (z40 y1.Trust a1) fun x2 =>
 bif (!x2) then
 chk (0 ≤ y0) <|
 capOk (List.length a3 + List.length ([y0] : List (Int))) <|
 z2j (subI .i64 a1 (shlI .i64 1 y0)) (a3 ++ ([y0] : List (Int))) true a13
 else
 z24 a1 a3 a5 a7 a9 (addI .i64 a11 1) a13
 else
 z44 a1 a3 a5 a7 a9 a11 false a13
 ) (z24 a1 a3 a5 a7 a9 a11 a13) :=
 q00 (T := tn) (o := ⟨[.lf (.l .i64)],[]⟩) sigOk 100000 (b := q03 Tryz.f53 [1,1,1,1,0,1,0,0,1,0,1,1,0,0]) (by kernel_rfl) (by kernel_rfl)
theorem qt6 (a1 a3 : Int) (a6 : List Trust) (a8 a11 : Int) (a13 : List Int) (a15 a17 : Int) (a19 : List Int) (a21 : List Trust) (a23 : Int) (a25 : List Int) (a27 : List Trust) : Le (
 bif (ltB a11 a1) then
 capOk (List.length a25 + List.length ([a11] : List (Int))) <|
 z5b a1 a3 a6 a8 (addI .i64 a11 3) a13 a15 a17 a19 a21 a23 (a25 ++ ([a11] : List (Int))) a27
 else
 bif (ltB 0 ((List.length a25 : Nat) : Int)) then
 Option.bind (z1f 1 ((List.length a25 : Nat) : Int) a13 a15) fun x0 =>
 capOk (List.length a6 + List.length ([(Trust.mk x0.1 a25 a27)] : List (Trust))) <|
 z2q a1 a3 (a6 ++ ([(Trust.mk x0.1 a25 a27)] : List (Trust))) (addI .i64 a8 1) x0.2.1 x0.2.2 a17 a19 a21
 else
 z2q a1 a3 a6 (addI .i64 a8 1) a13 a15 a17 a19 a21
 ) (z5b a1 a3 a6 a8 a11 a13 a15 a17 a19 a21 a23 a25 a27) :=
 q00 (T := tn) (o := ⟨[.ag .Trust],[[.lf (.l .i64), .lf (.i .i64)]]⟩) sigOk 100000 (b := q03 Tryz.f34 [1,1,0,1,0,0,1,0,0,1,0,1,0,0]) (by kernel_rfl) (by kernel_rfl)
theorem qps (a1 a3 a7 : Int) (a9 : List Int) (a11 a13 : Int) (a15 : List Int) (a17 : List Trust) (a19 : Int) (a21 : List Int) (a23 : List Trust) : Le (
 bif (ltB 0 a7) then
 Option.bind (z6j a1 (subI .i64 a3 1) a9 a11) fun x0 =>
 capOk (List.length a23 + List.length ([(Trust.mk x0.1.Threshold x0.1.Nodes x0.1.Inner)] : List (Trust))) <|
 z4q a1 a3 (subI .i64 a7 1) x0.2.1 x0.2.2 a13 a15 a17 a19 a21 (a23 ++ ([(Trust.mk x0.1.Threshold x0.1.Nodes x0.1.Inner)] : List (Trust)))
 else
 bif (ltB 0 ((List.length a23 : Nat) : Int)) then
 Option.bind (z1a 3 a9 a11) fun x1 =>
 bif (eqB x1.1 0) then
 Option.bind (z1f 1 (addI .i64 ((List.length ([] : List (Int)) : Nat) : Int) ((List.length a23 : Nat) : Int)) x1.2.1 x1.2.2) fun x2 =>
 some ((Trust.mk x2.1 ([] : List (Int)) a23), x2.2.1, x2.2.2)
 else
 Option.bind (z1f 1 (addI .i64 ((List.length a21 : Nat) : Int) ((List.length a23 : Nat) : Int)) x1.2.1 x1.2.2) fun x3 =>
 some ((Trust.mk x3.1 a21 a23), x3.2.1, x3.2.2)
 else
 Option.bind (z1f 1 (addI .i64 ((List.length a21 : Nat) : Int) ((List.length a23 : Nat) : Int)) a9 a11) fun x4 =>
 some ((Trust.mk x4.1 a21 a23), x4.2.1, x4.2.2)
 ) (z4q a1 a3 a7 a9 a11 a13 a15 a17 a19 a21 a23) :=
 q00 (T := tn) (o := ⟨[.ag .Trust],[[.lf (.l .i64), .lf (.i .i64)]]⟩) sigOk 100000 (b := q03 Tryz.f63 [1,1,1,1,0,1,0,0,1,0,0]) (by kernel_rfl) (by kernel_rfl)
theorem qza (a1 : List Int) (a3 : Int) (a5 : List Int) (a7 : Int) : Le (
 bif (ltB 0 a3) then
 Option.bind (z1a (addI .i64 a3 1) a5 a7) fun x0 =>
 nth a1 x0.1 fun _ =>
 nth a1 a3 fun _ =>
 nthN a1 (Int.toNat x0.1) fun y1 =>
 nthN a1 (Int.toNat a3) fun y2 =>
 nth a1 a3 fun _ =>
 nthN a1 (Int.toNat a3) fun _y3 =>
 nth (List.set a1 (Int.toNat a3) y1) x0.1 fun _ =>
 nthN (List.set a1 (Int.toNat a3) y1) (Int.toNat x0.1) fun _y4 =>
 z3m (List.set (List.set a1 (Int.toNat a3) y1) (Int.toNat x0.1) y2) (subI .i64 a3 1) x0.2.1 x0.2.2
 else
 some (a1, a5, a7)
 ) (z3m a1 a3 a5 a7) :=
 q00 (T := tn) (o := ⟨[.lf (.l .i64)],[[.lf (.l .i64), .lf (.i .i64)]]⟩) sigOk 100000 (b := q03 Tryz.f82 [1,1,1,0,1,0,0]) (by kernel_rfl) (by kernel_rfl)
theorem qk5 (a0 : List Trust) (a2 a4 a6 : Int) (a8 : List Int) (a10 : List Trust) : Le (
 bif (ltB a4 a2) then
 nth a0 a4 fun y0 =>
 Option.bind (z3w y0) fun x1 =>
 bif (neB x1 0) then
 some x1
 else
 z1w a0 a2 (addI .i64 a4 1) a6 a8 a10
 else
 some 0
 ) (z1w a0 a2 a4 a6 a8 a10) :=
 q00 (T := tn) (o := ⟨[.lf (.i .i64)],[]⟩) sigOk 100000 (b := q03 Tryz.f85 [1,1,1,1,0,1,0,0]) (by kernel_rfl) (by kernel_rfl)
theorem qdw (a0 : Int) (a2 : List Int) (a4 a6 : Int) : Le (
 bif (ltB a6 a4) then
 nth a2 a6 fun y0 =>
 bif (ltB y0 0) then
 some (0, 5)
 else
 bif (leB 10 y0) then
 some (0, 5)
 else
 Option.bind (z5q a0 y0) fun x1 =>
 bif x1 then
 some (0, 6)
 else
 chk (0 ≤ y0) <|
 z2e (orI .i64 a0 (shlI .i64 1 y0)) a2 a4 (addI .i64 a6 1)
 else
 some (a0, 0)
 ) (z2e a0 a2 a4 a6) :=
 q00 (T := tn) (o := ⟨[.lf (.i .i64), .lf (.i .i64)],[]⟩) sigOk 100000 (b := q03 Tryz.f107 [1,1,0,1,0,0]) (by kernel_rfl) (by kernel_rfl)
theorem qxu (a0 : List Int) (a2 : Int) (a4 : List Int) (a6 : Int) (a8 : Bool) (a10 : List Int) (a12 a14 : Int) : Le (
 bif (ltB a14 a12) then
 nth a10 a14 fun y0 =>
 bif a8 then
 z34 a0 a2 a4 a6 (neB (andI .i64 y0 a6) 0) a10 a12 (addI .i64 a14 1)
 else
 z34 a0 a2 a4 a6 false a10 a12 (addI .i64 a14 1)
 else
 bif a8 then
 capOk (List.length a4 + List.length ([a6] : List (Int))) <|
 z1y a0 a2 (a4 ++ ([a6] : List (Int))) (addI .i64 a6 1)
 else
 z1y a0 a2 a4 (addI .i64 a6 1)
 ) (z34 a0 a2 a4 a6 a8 a10 a12 a14) :=
 q00 (T := tn) (o := ⟨[.lf (.l .i64), .lf (.i .i64)],[]⟩) sigOk 100000 (b := q03 Tryz.f10 [1,1,1,1,1,0,1,0,0,1,0,0,1,0,1,0,0]) (by kernel_rfl) (by kernel_rfl)
theorem qz0 (a0 : Int) (a4 : List Trust) (a6 a8 a10 : Int) (a12 : List Int) (a14 : List Trust) (a16 : Int) (a18 : List Int) (a20 : List Trust) (a22 : Int) (a24 : List Int) (a26 : List Trust) : Le (
 bif (ltB a8 a6) then
 nth a4 a8 fun y0 =>
 Option.bind (z6m y0 a0) fun x1 =>
 bif (leB x1.Threshold 0) then
 Option.bind (z6h a22) fun x2 =>
 z3h a0 a4 a6 (addI .i64 a8 1) a10 a12 a14 a16 a18 a20 x2 a24 a26
 else
 capOk (List.length a26 + List.length ([(Trust.mk x1.Threshold x1.Nodes x1.Inner)] : List (Trust))) <|
 z3h a0 a4 a6 (addI .i64 a8 1) a10 a12 a14 a16 a18 a20 a22 a24 (a26 ++ ([(Trust.mk x1.Threshold x1.Nodes x1.Inner)] : List (Trust)))
 else
 some (Trust.mk a22 a24 a26)
 ) (z3h a0 a4 a6 a8 a10 a12 a14 a16 a18 a20 a22 a24 a26) :=
 q00 (T := tn) (o := ⟨[.ag .Trust],[]⟩) sigOk 100000 (b := q03 Tryz.f78 [1,1,1,0,1,0,0]) (by kernel_rfl) (by kernel_rfl)
theorem qyr (a0 a5 : Int) (a7 : List Member) (a9 : Int) (a11 : List Int) (a13 : List Trust) (a15 : List Member) : Le (
 bif (ltB a5 a0) then
 capOk (List.length a15 + List.length ([(Member.mk true (Trust.mk a9 a11 a13))] : List (Member))) <|
 z53 a0 (addI .i64 a5 1) a7 a9 a11 a13 (a15 ++ ([(Member.mk true (Trust.mk a9 a11 a13))] : List (Member)))
 else
 some (Config.mk a15)
 ) (z53 a0 a5 a7 a9 a11 a13 a15) :=
 q00 (T := tn) (o := ⟨[.ag .Config],[]⟩) sigOk 100000 (b := q03 Tryz.f42 [1,1,1,1,0,1,0,0]) (by kernel_rfl) (by kernel_rfl)
theorem qyt (a0 : Int) (a2 : List Trust) (a4 a6 a8 : Int) (a10 : List Int) (a12 : List Trust) : Le (
 bif (ltB a6 a4) then
 nth a2 a6 fun y0 =>
 Option.bind (z5d y0) fun x1 =>
 z2u (orI .i64 a0 x1) a2 a4 (addI .i64 a6 1) a8 a10 a12
 else
 some a0
 ) (z2u a0 a2 a4 a6 a8 a10 a12) :=
 q00 (T := tn) (o := ⟨[.lf (.i .i64)],[]⟩) sigOk 100000 (b := q03 Tryz.f88 [1,1,1,0,1,0,0]) (by kernel_rfl) (by kernel_rfl)
theorem qxq (a0 a2 : List Int) (a4 a6 : Int) : Le (
 bif (ltB a6 a4) then
 nth a2 a6 fun y0 =>
 Option.bind (z12 a0 y0) fun x1 =>
 bif (!x1.1) then
 capOk (List.length a0 + List.length ([x1.2] : List (Int))) <|
 z2l (a0 ++ ([x1.2] : List (Int))) a2 a4 (addI .i64 a6 1)
 else
 z2l a0 a2 a4 (addI .i64 a6 1)
 else
 some a0
 ) (z2l a0 a2 a4 a6) :=
 q00 (T := tn) (o := ⟨[.lf (.l .i64)],[]⟩) sigOk 100000 (b := q03 Tryz.f68 [1,1,1,1,0,1,0,0]) (by kernel_rfl) (by kernel_rfl)
theorem qro (a0 : List Int) (a3 a5 a7 : Int) : Le (
 bif (ltB a5 a3) then
 nth a0 a5 fun y0 =>
 Option.bind (z5t y0 a7) fun x1 =>
 bif x1.1 then
 some (a5, x1.2)
 else
 z0j a0 a3 (addI .i64 a5 1) x1.2
 else
 some ((-1), a7)
 ) (z0j a0 a3 a5 a7) :=
 q00 (T := tn) (o := ⟨[.lf (.i .i64)],[[.lf (.i .i64)]]⟩) sigOk 100000 (b := q03 Tryz.f118 [1,0,1,0,0]) (by kernel_rfl) (by kernel_rfl)
theorem y69 (t_0 h0 : Int) : Le (
 some ((eqB (q7i .i64 t_0 h0) 0), h0)
 ) (z5t t_0 h0) :=
 q01 (T := tn) (c := q06 Tryz.f96) (o := ⟨[.lf .b],[[.lf (.i .i64)]]⟩) sigOk 100000 (by kernel_rfl) Tryz.func96 (by kernel_rfl) (by kernel_rfl) (by kernel_rfl)
theorem y3d (a1 a3 a6 : Int) (a8 : List Int) : Le (
 bif (ltB a6 a3) then
 z0h a1 a3 a6 a6 a8
 else
 some a8
 ) (z0d a1 a3 a6 a8) :=
 q00 (T := tn) (o := ⟨[],[[.own .i64 false]]⟩) sigOk 100000 (b := q03 Tryz.f127 [1,0,0]) (by kernel_rfl) (by kernel_rfl)
theorem qxb (a2 a4 a6 a8 : Int) (a10 : List Int) : Le (
 bif (leB 0 a8) then
 Option.bind (z13 a8 a6 a2 a10) fun x0 =>
 z0q a2 a4 a6 (subI .i64 a8 1) x0
 else
 z0r a2 a4 (subI .i64 a6 1) a10
 ) (z0q a2 a4 a6 a8 a10) :=
 q00 (T := tn) (o := ⟨[],[[.own .i64 false]]⟩) sigOk 100000 (b := q03 Tryz.f128 [1,1,1,0,1,0,0]) (by kernel_rfl) (by kernel_rfl)
theorem y3b (lo_1 hi_2 first_3 : Int) (h0 : List Int) : Le (
 z0c hi_2 first_3 lo_1 h0
 ) (z13 lo_1 hi_2 first_3 h0) :=
 q01 (T := tn) (c := q06 Tryz.f140) (o := ⟨[],[[.own .i64 false]]⟩) sigOk 100000 (by kernel_rfl) Tryz.func140 (by kernel_rfl) (by kernel_rfl) (by kernel_rfl)
theorem qy6 (a1 a3 a6 a8 : Int) (a10 : List Int) (a12 : Int) : Le (
 bif (leB a8 (addI .i64 (addI .i64 a1 (mulI .i64 (quoI .i64 a3 4) 2)) 1)) then
 Option.bind (z43 a12) fun x0 =>
 bif (leB a3 (IntKind.wrap .i64 (andI .u64 x0.1 (subI .u64 a6 1)))) then
 nth a10 (addI .i64 a1 (subI .i64 (IntKind.wrap .i64 (andI .u64 x0.1 (subI .u64 a6 1))) a3)) fun _ =>
 nth a10 a8 fun _ =>
 nthN a10 (Int.toNat (addI .i64 a1 (subI .i64 (IntKind.wrap .i64 (andI .u64 x0.1 (subI .u64 a6 1))) a3))) fun y1 =>
 nthN a10 (Int.toNat a8) fun y2 =>
 nth a10 a8 fun _ =>
 nthN a10 (Int.toNat a8) fun _y3 =>
 nth (List.set a10 (Int.toNat a8) y1) (addI .i64 a1 (subI .i64 (IntKind.wrap .i64 (andI .u64 x0.1 (subI .u64 a6 1))) a3)) fun _ =>
 nthN (List.set a10 (Int.toNat a8) y1) (Int.toNat (addI .i64 a1 (subI .i64 (IntKind.wrap .i64 (andI .u64 x0.1 (subI .u64 a6 1))) a3))) fun _y4 =>
 z0b a1 a3 a6 (addI .i64 a8 1) (List.set (List.set a10 (Int.toNat a8) y1) (Int.toNat (addI .i64 a1 (subI .i64 (IntKind.wrap .i64 (andI .u64 x0.1 (subI .u64 a6 1))) a3))) y2) x0.2
 else
 nth a10 (addI .i64 a1 (IntKind.wrap .i64 (andI .u64 x0.1 (subI .u64 a6 1)))) fun _ =>
 nth a10 a8 fun _ =>
 nthN a10 (Int.toNat (addI .i64 a1 (IntKind.wrap .i64 (andI .u64 x0.1 (subI .u64 a6 1))))) fun y5 =>
 nthN a10 (Int.toNat a8) fun y6 =>
 nth a10 a8 fun _ =>
 nthN a10 (Int.toNat a8) fun _y7 =>
 nth (List.set a10 (Int.toNat a8) y5) (addI .i64 a1 (IntKind.wrap .i64 (andI .u64 x0.1 (subI .u64 a6 1)))) fun _ =>
 nthN (List.set a10 (Int.toNat a8) y5) (Int.toNat (addI .i64 a1 (IntKind.wrap .i64 (andI .u64 x0.1 (subI .u64 a6 1))))) fun _y8 =>
 z0b a1 a3 a6 (addI .i64 a8 1) (List.set (List.set a10 (Int.toNat a8) y5) (Int.toNat (addI .i64 a1 (IntKind.wrap .i64 (andI .u64 x0.1 (subI .u64 a6 1))))) y6) x0.2
 else
 some a10
 ) (z0b a1 a3 a6 a8 a10 a12) :=
 q00 (T := tn) (o := ⟨[],[[.own .i64 false]]⟩) sigOk 100000 (b := q03 Tryz.f129 [1,1,0,1,1,1,0,0]) (by kernel_rfl) (by kernel_rfl)
theorem y1s (h0 : Int) : Le (
 some ((xorI .u64 (xorI .u64 (xorI .u64 h0 (shlI .u64 h0 13)) (shrI .u64 (xorI .u64 h0 (shlI .u64 h0 13)) 7)) (shlI .u64 (xorI .u64 (xorI .u64 h0 (shlI .u64 h0 13)) (shrI .u64 (xorI .u64 h0 (shlI .u64 h0 13)) 7)) 17)), (xorI .u64 (xorI .u64 (xorI .u64 h0 (shlI .u64 h0 13)) (shrI .u64 (xorI .u64 h0 (shlI .u64 h0 13)) 7)) (shlI .u64 (xorI .u64 (xorI .u64 h0 (shlI .u64 h0 13)) (shrI .u64 (xorI .u64 h0 (shlI .u64 h0 13)) 7)) 17)))
 ) (z43 h0) :=
 q01 (T := tn) (c := q06 Tryz.f142) (o := ⟨[.lf (.i .u64)],[[.lf (.i .u64)]]⟩) sigOk 100000 (by kernel_rfl) Tryz.func142 (by kernel_rfl) (by kernel_rfl) (by kernel_rfl)
theorem y6a (a1 a3 : Int) (a5 : List Int) : Le (
 bif (ltB a1 a3) then
 nth a5 a3 fun _ =>
 nth a5 a1 fun _ =>
 nthN a5 (Int.toNat a3) fun y0 =>
 nthN a5 (Int.toNat a1) fun y1 =>
 nth a5 a1 fun _ =>
 nthN a5 (Int.toNat a1) fun _y2 =>
 nth (List.set a5 (Int.toNat a1) y0) a3 fun _ =>
 nthN (List.set a5 (Int.toNat a1) y0) (Int.toNat a3) fun _y3 =>
 z0u (addI .i64 a1 1) (subI .i64 a3 1) (List.set (List.set a5 (Int.toNat a1) y0) (Int.toNat a3) y1)
 else
 some a5
 ) (z0u a1 a3 a5) :=
 q00 (T := tn) (o := ⟨[],[[.own .i64 false]]⟩) sigOk 100000 (b := q03 Tryz.f131 [1,1,0,0]) (by kernel_rfl) (by kernel_rfl)
theorem qyl (a1 a3 a6 a8 : Int) (a10 : List Int) : Le (
 bif (ltB a8 5) then
 z0v a1 a3 a6 a8 true a10
 else
 some (false, a10)
 ) (z03 a1 a3 a6 a8 a10) :=
 q00 (T := tn) (o := ⟨[.lf .b],[[.own .i64 false]]⟩) sigOk 100000 (b := q03 Tryz.f132 [1,1,0,1,0,0]) (by kernel_rfl) (by kernel_rfl)
theorem y2t (a1 a4 a6 : Int) (a8 : List Int) : Le (
 z0s a1 a4 a6 a8
 ) (z0a a1 a4 a6 a8) :=
 q00 (T := tn) (o := ⟨[.lf (.i .i64)],[[.own .i64 false]]⟩) sigOk 100000 (b := q03 Tryz.f133 [1,1,1,0,0,0]) (by kernel_rfl) (by kernel_rfl)
theorem y2f (a1 a4 a6 : Int) (a8 : List Int) : Le (
 bif (leB a4 a6) then
 nth a8 a4 fun _ =>
 nth a8 a1 fun _ =>
 nthN a8 (Int.toNat a4) fun y0 =>
 nthN a8 (Int.toNat a1) fun y1 =>
 Option.bind (z08 y0 y1) fun x2 =>
 bif (ltB x2 0) then
 z0y a1 (addI .i64 a4 1) a6 a8
 else
 z0m a1 a4 a6 false a8
 else
 z0m a1 a4 a6 false a8
 ) (z0y a1 a4 a6 a8) :=
 q00 (T := tn) (o := ⟨[.lf (.i .i64), .lf .b],[[.own .i64 false]]⟩) sigOk 100000 (b := q03 Tryz.f134 [1,1,1,0,0,0]) (by kernel_rfl) (by kernel_rfl)
theorem qrv (a0 : Int) (a2 : List Int) (a4 a6 : Int) : Le (
 bif (ltB a6 a4) then
 nth a2 a6 fun y0 =>
 bif (neB y0 a0) then
 some y0
 else
 z4l a0 a2 a4 (addI .i64 a6 1)
 else
 some a0
 ) (z4l a0 a2 a4 a6) :=
 q00 (T := tn) (o := ⟨[.lf (.i .i64)],[]⟩) sigOk 100000 (b := q03 Tryz.f115 [1,1,0,1,0,0]) (by kernel_rfl) (by kernel_rfl)
theorem qxh (a0 : Int) (a2 : List Trust) (a4 a6 a8 : Int) (a10 : List Int) (a12 : List Trust) : Le (
 bif (ltB a6 a4) then
 nth a2 a6 fun y0 =>
 Option.bind (z6n y0) fun x1 =>
 z4d (orI .i64 a0 x1) a2 a4 (addI .i64 a6 1) a8 a10 a12
 else
 some a0
 ) (z4d a0 a2 a4 a6 a8 a10 a12) :=
 q00 (T := tn) (o := ⟨[.lf (.i .i64)],[]⟩) sigOk 100000 (b := q03 Tryz.f71 [1,1,1,0,1,0,0]) (by kernel_rfl) (by kernel_rfl)
theorem qxk (a0 a2 : List Int) (a4 a6 : Int) (a8 : Bool) (a10 : List Int) (a12 a14 a17 a19 : Int) : Le (
 bif (ltB a19 a17) then
 nth a2 a19 fun _ =>
 nthN a2 (Int.toNat a19) fun y0 =>
 bif a8 then
 Option.bind (z5o y0 a4) fun x1 =>
 bif (ltB x1 0) then
 z2c a0 a2 a4 (addI .i64 a19 1) true a10 a12 a14 a17 (addI .i64 a19 1)
 else
 z2c a0 a2 a4 a6 true a10 a12 a14 a17 (addI .i64 a19 1)
 else
 Option.bind (z5o y0 a4) fun x2 =>
 bif (ltB x2 0) then
 z2c a0 a2 a4 (addI .i64 a19 1) (eqB a4 y0) a10 a12 a14 a17 (addI .i64 a19 1)
 else
 z2c a0 a2 a4 a6 (eqB a4 y0) a10 a12 a14 a17 (addI .i64 a19 1)
 else
 bif (!a8) then
 capOk (List.length a2 + List.length ([0] : List (Int))) <|
 hiK (List.length (a2 ++ ([0] : List (Int)))) (addI .i64 a6 1) fun b3 =>
 hiK (List.length (a2 ++ ([0] : List (Int)))) a6 fun b4 =>
 chk ((List.length (a2 ++ ([0] : List (Int)))) ≤ List.length (a2 ++ ([0] : List (Int)))) <|
 chk ((List.length (a2 ++ ([0] : List (Int)))) ≤ List.length (a2 ++ ([0] : List (Int)))) <|
 nth (List.take b3 (a2 ++ ([0] : List (Int))) ++ List.take ((List.length (a2 ++ ([0] : List (Int)))) - b3) (List.drop b4 (List.take (List.length (a2 ++ ([0] : List (Int)))) (a2 ++ ([0] : List (Int))))) ++ List.drop (b3 + (min ((List.length (a2 ++ ([0] : List (Int)))) - b3) (List.length (List.drop b4 (List.take (List.length (a2 ++ ([0] : List (Int)))) (a2 ++ ([0] : List (Int)))))))) (a2 ++ ([0] : List (Int)))) a6 fun _ =>
 nthN (List.take b3 (a2 ++ ([0] : List (Int))) ++ List.take ((List.length (a2 ++ ([0] : List (Int)))) - b3) (List.drop b4 (List.take (List.length (a2 ++ ([0] : List (Int)))) (a2 ++ ([0] : List (Int))))) ++ List.drop (b3 + (min ((List.length (a2 ++ ([0] : List (Int)))) - b3) (List.length (List.drop b4 (List.take (List.length (a2 ++ ([0] : List (Int)))) (a2 ++ ([0] : List (Int)))))))) (a2 ++ ([0] : List (Int)))) (Int.toNat a6) fun _y5 =>
 z1u a0 (List.set (List.take b3 (a2 ++ ([0] : List (Int))) ++ List.take ((List.length (a2 ++ ([0] : List (Int)))) - b3) (List.drop b4 (List.take (List.length (a2 ++ ([0] : List (Int)))) (a2 ++ ([0] : List (Int))))) ++ List.drop (b3 + (min ((List.length (a2 ++ ([0] : List (Int)))) - b3) (List.length (List.drop b4 (List.take (List.length (a2 ++ ([0] : List (Int)))) (a2 ++ ([0] : List (Int)))))))) (a2 ++ ([0] : List (Int)))) (Int.toNat a6) a4) a10 a12 (addI .i64 a14 1)
 else
 z1u a0 a2 a10 a12 (addI .i64 a14 1)
 ) (z2c a0 a2 a4 a6 a8 a10 a12 a14 a17 a19) :=
 q00 (T := tn) (o := ⟨[.lf (.l .i64)],[]⟩) sigOk 100000 (b := q03 Tryz.f39 [1,1,0,1,0,0,1,1,0,0,1,1,1,1,1,0,1,0,0]) (by kernel_rfl) (by kernel_rfl)
theorem y2d (a_0 b_1 : Int) : Le (
 Option.bind (z1h a_0) fun x0 =>
 bif x0 then
 Option.bind (z4p a_0) fun x1 =>
 Option.bind (z1h b_1) fun x2 =>
 bif x2 then
 Option.bind (z4p b_1) fun x3 =>
 bif (ltB x1 x3) then
 some (-1)
 else
 bif (eqB x1 x3) then
 bif (ltB a_0 b_1) then
 some (-1)
 else
 bif (eqB x1 x3) then
 bif (eqB a_0 b_1) then
 some 0
 else
 some 1
 else
 some 1
 else
 bif (eqB x1 x3) then
 bif (eqB a_0 b_1) then
 some 0
 else
 some 1
 else
 some 1
 else
 bif (ltB x1 (-1)) then
 some (-1)
 else
 bif (eqB x1 (-1)) then
 bif (ltB a_0 b_1) then
 some (-1)
 else
 bif (eqB x1 (-1)) then
 bif (eqB a_0 b_1) then
 some 0
 else
 some 1
 else
 some 1
 else
 bif (eqB x1 (-1)) then
 bif (eqB a_0 b_1) then
 some 0
 else
 some 1
 else
 some 1
 else
 Option.bind (z1h b_1) fun x4 =>
 bif x4 then
 Option.bind (z4p b_1) fun x5 =>
 bif (ltB (-1) x5) then
 some (-1)
 else
 bif (eqB (-1) x5) then
 bif (ltB a_0 b_1) then
 some (-1)
 else
 bif (eqB (-1) x5) then
 bif (eqB a_0 b_1) then
 some 0
 else
 some 1
 else
 some 1
 else
 bif (eqB (-1) x5) then
 bif (eqB a_0 b_1) then
 some 0
 else
 some 1
 else
 some 1
 else
 bif (ltB a_0 b_1) then
 some (-1)
 else
 bif (eqB a_0 b_1) then
 some 0
 else
 some 1
 ) (z5o a_0 b_1) :=
 q01 (T := tn) (c := q06 Tryz.f72) (o := ⟨[.lf (.i .i64)],[]⟩) sigOk 100000 (by kernel_rfl) Tryz.func72 (by kernel_rfl) (by kernel_rfl) (by kernel_rfl)
theorem qyn (a0 : Int) (a4 : List Trust) (a6 a8 a10 : Int) (a12 : List Int) (a14 : List Trust) (a16 : Int) (a18 : List Int) (a20 : List Trust) (a22 : Int) (a24 : List Int) (a26 : List Trust) : Le (
 bif (ltB a8 a6) then
 nth a4 a8 fun y0 =>
 Option.bind (z5f y0 a0) fun x1 =>
 bif (eqB x1.Threshold 0) then
 Option.bind (z4k a22 1) fun x2 =>
 z2a a0 a4 a6 (addI .i64 a8 1) a10 a12 a14 a16 a18 a20 x2 a24 a26
 else
 capOk (List.length a26 + List.length ([(Trust.mk x1.Threshold x1.Nodes x1.Inner)] : List (Trust))) <|
 z2a a0 a4 a6 (addI .i64 a8 1) a10 a12 a14 a16 a18 a20 a22 a24 (a26 ++ ([(Trust.mk x1.Threshold x1.Nodes x1.Inner)] : List (Trust)))
 else
 some (Trust.mk a22 a24 a26)
 ) (z2a a0 a4 a6 a8 a10 a12 a14 a16 a18 a20 a22 a24 a26) :=
 q00 (T := tn) (o := ⟨[.ag .Trust],[]⟩) sigOk 100000 (b := q03 Tryz.f102 [1,1,1,0,1,0,0]) (by kernel_rfl) (by kernel_rfl)
theorem qzr (a0 a3 : Int) (a5 : List Int) (a7 a9 a11 : Int) (a13 : List Int) (a15 : List Trust) : Le (
 bif (ltB a9 a7) then
 nth a5 a9 fun y0 =>
 Option.bind (z4m a0 y0) fun x1 =>
 bif x1 then
 z1t a0 (addI .i64 a3 1) a5 a7 (addI .i64 a9 1) a11 a13 a15
 else
 z1t a0 a3 a5 a7 (addI .i64 a9 1) a11 a13 a15
 else
 z1l a0 a3 a15 ((List.length a15 : Nat) : Int) 0 a11 a13 a15
 ) (z1t a0 a3 a5 a7 a9 a11 a13 a15) :=
 q00 (T := tn) (o := ⟨[.lf .b],[]⟩) sigOk 100000 (b := q03 Tryz.f145 [1,1,1,0,1,0,0]) (by kernel_rfl) (by kernel_rfl)
theorem qya (a1 : List Int) (a3 : Int) (a5 : Bool) (a7 : List Int) (a9 a11 : Int) (a13 : List Member) : Le (
 bif (ltB a11 a9) then
 nth a7 a11 fun y0 =>
 chk (0 ≤ y0) <|
 Option.bind (z5u (Config.mk a13) (subI .i64 a3 (shlI .i64 1 y0))) fun x1 =>
 bif x1.1 then
 z35 a1 a3 false a7 a9 (addI .i64 a11 1) a13
 else
 z35 a1 a3 a5 a7 a9 (addI .i64 a11 1) a13
 else
 bif a5 then
 capOk (List.length a1 + List.length ([a3] : List (Int))) <|
 z28 (a1 ++ ([a3] : List (Int))) (addI .i64 a3 1) a13
 else
 z28 a1 (addI .i64 a3 1) a13
 ) (z35 a1 a3 a5 a7 a9 a11 a13) :=
 q00 (T := tn) (o := ⟨[.lf (.l .i64), .lf (.i .i64)],[]⟩) sigOk 100000 (b := q03 Tryz.f28 [1,1,1,0,1,0,0,1,0,0,1,1,0,1,0,0]) (by kernel_rfl) (by kernel_rfl)
theorem qzz (a0 a2 a4 : Int) : Le (
 bif (ltB a4 10) then
 Option.bind (z1h a0) fun x0 =>
 bif x0 then
 chk (0 ≤ a4) <|
 z54 a0 (addI .i64 a2 (andI .i64 (shrI .i64 a0 a4) 1)) (addI .i64 a4 1)
 else
 some a2
 else
 some a2
 ) (z54 a0 a2 a4) :=
 q00 (T := tn) (o := ⟨[.lf (.i .i64)],[]⟩) sigOk 100000 (b := q03 Tryz.f81 [1,1,0,1,0,0]) (by kernel_rfl) (by kernel_rfl)
end Go.Proofs.YtfjcndlhpfbcgaaGreat
