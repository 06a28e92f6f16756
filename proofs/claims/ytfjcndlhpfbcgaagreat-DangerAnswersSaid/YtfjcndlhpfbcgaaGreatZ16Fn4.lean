/- What the functions come to, printed by a program and checked by the kernel. -/
import Derived.Test.YtfjcndlhpfbcgaaGreatZ16Df
namespace Go.Proofs.YtfjcndlhpfbcgaaGreat
open Go Go.Ab
set_option maxRecDepth 100000
theorem qx9 (a0 : Int) (a2 : List Trust) (a4 a6 a8 : Int) (a10 : List Int) (a12 : List Trust) : Le (
 bif (ltB a6 a4) then
 nth a2 a6 fun y0 =>
 Option.bind (z4w y0) fun x1 =>
 z2z (if x1 > a0 then x1 else a0) a2 a4 (addI .i64 a6 1) a8 a10 a12
 else
 some (addI .i64 a0 1)
 ) (z2z a0 a2 a4 a6 a8 a10 a12) :=
 q00 (T := tn) (o := ⟨[.lf (.i .i64)],[]⟩) sigOk 100000 (b := q03 Tryz.f108 [1,1,0,1,0,0]) (by kernel_rfl) (by kernel_rfl)
theorem qz1 (a0 : Int) (a2 : List Trust) (a4 a6 a8 : Int) (a10 : List Int) (a12 : List Trust) : Le (
 bif (ltB a6 a4) then
 nth a2 a6 fun y0 =>
 Option.bind (z5e y0) fun x1 =>
 z39 (addI .i64 a0 x1) a2 a4 (addI .i64 a6 1) a8 a10 a12
 else
 some a0
 ) (z39 a0 a2 a4 a6 a8 a10 a12) :=
 q00 (T := tn) (o := ⟨[.lf (.i .i64)],[]⟩) sigOk 100000 (b := q03 Tryz.f109 [1,1,0,1,0,0]) (by kernel_rfl) (by kernel_rfl)
theorem qy9 (a0 : List Trust) (a2 a4 a6 : Int) (a8 : List Int) (a10 : List Trust) : Le (
 bif (ltB a4 a2) then
 nth a0 a4 fun y0 =>
 Option.bind (z4x y0) fun x1 =>
 bif (neB x1 0) then
 some x1
 else
 z30 a0 a2 (addI .i64 a4 1) a6 a8 a10
 else
 some 0
 ) (z30 a0 a2 a4 a6 a8 a10) :=
 q00 (T := tn) (o := ⟨[.lf (.i .i64)],[]⟩) sigOk 100000 (b := q03 Tryz.f110 [1,1,1,1,0,1,0,0]) (by kernel_rfl) (by kernel_rfl)
theorem qor (a0 : Int) (a2 : List Int) (a4 a6 : Int) : Le (
 bif (ltB a6 a4) then
 nth a2 a6 fun y0 =>
 bif (ltB y0 0) then
 some (0, 5)
 else
 bif (leB 10 y0) then
 some (0, 5)
 else
 Option.bind (z4m a0 y0) fun x1 =>
 bif x1 then
 some (0, 6)
 else
 chk (0 ≤ y0) <|
 z3f (orI .i64 a0 (shlI .i64 1 y0)) a2 a4 (addI .i64 a6 1)
 else
 some (a0, 0)
 ) (z3f a0 a2 a4 a6) :=
 q00 (T := tn) (o := ⟨[.lf (.i .i64), .lf (.i .i64)],[]⟩) sigOk 100000 (b := q03 Tryz.f126 [1,1,0,1,0,0]) (by kernel_rfl) (by kernel_rfl)
theorem qt8 (a0 : List Int) (a3 a5 : Int) : Le (
 bif (ltB a5 a3) then
 nth a0 a5 fun y0 =>
 Option.bind (z57 y0) fun x1 =>
 bif x1 then
 some a5
 else
 z0f a0 a3 (addI .i64 a5 1)
 else
 some (-1)
 ) (z0f a0 a3 a5) :=
 q00 (T := tn) (o := ⟨[.lf (.i .i64)],[]⟩) sigOk 100000 (b := q03 Tryz.f118 [1,0,1,0,0]) (by kernel_rfl) (by kernel_rfl)
theorem y22 (k_0 : Int) : Le (
 Option.bind (z5g k_0) fun x0 =>
 some (!x0)
 ) (z57 k_0) :=
 q01 (T := tn) (c := q06 Tryz.f125) (o := ⟨[.lf .b],[]⟩) sigOk 100000 (by kernel_rfl) Tryz.func125 (by kernel_rfl) (by kernel_rfl) (by kernel_rfl)
theorem y3k (a0 a2 : List Int) (a4 a6 : Int) : Le (
 bif (ltB a6 a4) then
 nth a2 a6 fun y0 =>
 Option.bind (z12 a0 y0) fun x1 =>
 bif (!x1.1) then
 capOk (List.length a0 + List.length ([x1.2] : List (Int))) <|
 z2l (a0 ++ ([x1.2] : List (Int))) a2 a4 (addI .i64 a6 1)
 else
 z2l a0 a2 a4 (addI .i64 a6 1)
 else
 some a0
 ) (z5l a0 a2 a4 a6) :=
 q00 (T := tn) (o := ⟨[.lf (.l .i64)],[]⟩) sigOk 100000 (b := q03 Tryz.f68 [1,1,1,1,0,1,0,0]) (by kernel_rfl) (by kernel_rfl)
theorem y5g (s_0 : List Int) (h0 : Int) : Le (
 Option.bind (z1c s_0 h0) fun x0 =>
 some ((leB 0 x0.1), x0.2)
 ) (z12 s_0 h0) :=
 q01 (T := tn) (c := q06 Tryz.f95) (o := ⟨[.lf .b],[[.lf (.i .i64)]]⟩) sigOk 100000 (by kernel_rfl) Tryz.func95 (by kernel_rfl) (by kernel_rfl) (by kernel_rfl)
theorem y1r (s_0 : List Int) (h0 : Int) : Le (
 z0j s_0 ((List.length s_0 : Nat) : Int) 0 h0
 ) (z1c s_0 h0) :=
 q01 (T := tn) (c := q06 Tryz.f118) (o := ⟨[.lf (.i .i64)],[[.lf (.i .i64)]]⟩) sigOk 100000 (by kernel_rfl) Tryz.func118 (by kernel_rfl) (by kernel_rfl) (by kernel_rfl)
theorem qy5 (a0 : Int) (a3 : List Int) (a5 : List Member) : Le (
 Option.bind (z3b (Config.mk a5) a0) fun x0 =>
 bif (!x0.2) then
 some (a0, a3)
 else
 capOk (List.length a3 + List.length ([x0.1] : List (Int))) <|
 chk (0 ≤ x0.1) <|
 z2k (q7i .i64 a0 (shlI .i64 1 x0.1)) (a3 ++ ([x0.1] : List (Int))) a5
 ) (z2k a0 a3 a5) :=
 q00 (T := tn) (o := ⟨[.lf (.i .i64), .lf (.l .i64)],[]⟩) sigOk 100000 (b := q03 Tryz.f97 [1,1,1,1,0,0]) (by kernel_rfl) (by kernel_rfl)
theorem qy1 (a2 a4 : Int) (a6 : List Int) : Le (
 bif (ltB a4 a2) then
 nth a6 a4 fun _ =>
 nthN a6 (Int.toNat a4) fun y0 =>
 Option.bind (z5s y0) fun x1 =>
 bif x1 then
 some (a4, a6)
 else
 z0o a2 (addI .i64 a4 1) a6
 else
 some ((-1), a6)
 ) (z0o a2 a4 a6) :=
 q00 (T := tn) (o := ⟨[.lf (.i .i64)],[[.own .i64 false]]⟩) sigOk 100000 (b := q03 Tryz.f118 [1,0,1,0,0]) (by kernel_rfl) (by kernel_rfl)
theorem y3x (s_0 : Int) : Le (
 Option.bind (z1o s_0) fun x0 =>
 some (!x0)
 ) (z5s s_0) :=
 q01 (T := tn) (c := q06 Tryz.f94) (o := ⟨[.lf .b],[]⟩) sigOk 100000 (by kernel_rfl) Tryz.func94 (by kernel_rfl) (by kernel_rfl) (by kernel_rfl)
theorem y45 (a1 a3 a5 : Int) (a8 a10 : Bool) (a12 : List Int) : Le (
 bif (leB (subI .i64 a3 a1) 12) then
 Option.bind (z14 a1 a3 a12) fun x0 =>
 some x0
 else
 bif (eqB a5 0) then
 Option.bind (z19 a1 a3 a12) fun x1 =>
 some x1
 else
 bif (!a8) then
 Option.bind (z15 a1 a3 a12) fun x2 =>
 Option.bind (z0p a1 a3 x2) fun x3 =>
 bif (eqB x3.2.1 2) then
 Option.bind (z0l a1 a3 x3.2.2) fun x4 =>
 bif a8 then
 bif a10 then
 Option.bind (z09 a1 a3 x4) fun x5 =>
 bif x5.1 then
 some x5.2
 else
 bif (ltB 0 a1) then
 nth x5.2 (subI .i64 a1 1) fun _ =>
 nth x5.2 (subI .i64 (subI .i64 a3 1) (subI .i64 x3.1 a1)) fun _ =>
 nthN x5.2 (Int.toNat (subI .i64 a1 1)) fun y6 =>
 nthN x5.2 (Int.toNat (subI .i64 (subI .i64 a3 1) (subI .i64 x3.1 a1))) fun y7 =>
 Option.bind (z08 y6 y7) fun x8 =>
 bif (!(ltB x8 0)) then
 Option.bind (z04 a1 a3 (subI .i64 (subI .i64 a3 1) (subI .i64 x3.1 a1)) x5.2) fun x9 =>
 z00 x9.1 a3 (subI .i64 a5 1) a8 a10 x9.2
 else
 Option.bind (z02 a1 a3 (subI .i64 (subI .i64 a3 1) (subI .i64 x3.1 a1)) x5.2) fun x10 =>
 bif (ltB (subI .i64 x10.1 a1) (subI .i64 a3 x10.1)) then
 Option.bind (z01 a1 x10.1 (subI .i64 a5 1) x10.2.2) fun x11 =>
 z00 (addI .i64 x10.1 1) a3 (subI .i64 a5 1) (leB (quoI .i64 (subI .i64 a3 a1) 8) (subI .i64 x10.1 a1)) x10.2.1 x11
 else
 Option.bind (z01 (addI .i64 x10.1 1) a3 (subI .i64 a5 1) x10.2.2) fun x12 =>
 z00 a1 x10.1 (subI .i64 a5 1) (leB (quoI .i64 (subI .i64 a3 a1) 8) (subI .i64 a3 x10.1)) x10.2.1 x12
 else
 Option.bind (z02 a1 a3 (subI .i64 (subI .i64 a3 1) (subI .i64 x3.1 a1)) x5.2) fun x13 =>
 bif (ltB (subI .i64 x13.1 a1) (subI .i64 a3 x13.1)) then
 Option.bind (z01 a1 x13.1 (subI .i64 a5 1) x13.2.2) fun x14 =>
 z00 (addI .i64 x13.1 1) a3 (subI .i64 a5 1) (leB (quoI .i64 (subI .i64 a3 a1) 8) (subI .i64 x13.1 a1)) x13.2.1 x14
 else
 Option.bind (z01 (addI .i64 x13.1 1) a3 (subI .i64 a5 1) x13.2.2) fun x15 =>
 z00 a1 x13.1 (subI .i64 a5 1) (leB (quoI .i64 (subI .i64 a3 a1) 8) (subI .i64 a3 x13.1)) x13.2.1 x15
 else
 bif (ltB 0 a1) then
 nth x4 (subI .i64 a1 1) fun _ =>
 nth x4 (subI .i64 (subI .i64 a3 1) (subI .i64 x3.1 a1)) fun _ =>
 nthN x4 (Int.toNat (subI .i64 a1 1)) fun y16 =>
 nthN x4 (Int.toNat (subI .i64 (subI .i64 a3 1) (subI .i64 x3.1 a1))) fun y17 =>
 Option.bind (z08 y16 y17) fun x18 =>
 bif (!(ltB x18 0)) then
 Option.bind (z04 a1 a3 (subI .i64 (subI .i64 a3 1) (subI .i64 x3.1 a1)) x4) fun x19 =>
 z00 x19.1 a3 (subI .i64 a5 1) a8 a10 x19.2
 else
 Option.bind (z02 a1 a3 (subI .i64 (subI .i64 a3 1) (subI .i64 x3.1 a1)) x4) fun x20 =>
 bif (ltB (subI .i64 x20.1 a1) (subI .i64 a3 x20.1)) then
 Option.bind (z01 a1 x20.1 (subI .i64 a5 1) x20.2.2) fun x21 =>
 z00 (addI .i64 x20.1 1) a3 (subI .i64 a5 1) (leB (quoI .i64 (subI .i64 a3 a1) 8) (subI .i64 x20.1 a1)) x20.2.1 x21
 else
 Option.bind (z01 (addI .i64 x20.1 1) a3 (subI .i64 a5 1) x20.2.2) fun x22 =>
 z00 a1 x20.1 (subI .i64 a5 1) (leB (quoI .i64 (subI .i64 a3 a1) 8) (subI .i64 a3 x20.1)) x20.2.1 x22
 else
 Option.bind (z02 a1 a3 (subI .i64 (subI .i64 a3 1) (subI .i64 x3.1 a1)) x4) fun x23 =>
 bif (ltB (subI .i64 x23.1 a1) (subI .i64 a3 x23.1)) then
 Option.bind (z01 a1 x23.1 (subI .i64 a5 1) x23.2.2) fun x24 =>
 z00 (addI .i64 x23.1 1) a3 (subI .i64 a5 1) (leB (quoI .i64 (subI .i64 a3 a1) 8) (subI .i64 x23.1 a1)) x23.2.1 x24
 else
 Option.bind (z01 (addI .i64 x23.1 1) a3 (subI .i64 a5 1) x23.2.2) fun x25 =>
 z00 a1 x23.1 (subI .i64 a5 1) (leB (quoI .i64 (subI .i64 a3 a1) 8) (subI .i64 a3 x23.1)) x23.2.1 x25
 else
 bif (ltB 0 a1) then
 nth x4 (subI .i64 a1 1) fun _ =>
 nth x4 (subI .i64 (subI .i64 a3 1) (subI .i64 x3.1 a1)) fun _ =>
 nthN x4 (Int.toNat (subI .i64 a1 1)) fun y26 =>
 nthN x4 (Int.toNat (subI .i64 (subI .i64 a3 1) (subI .i64 x3.1 a1))) fun y27 =>
 Option.bind (z08 y26 y27) fun x28 =>
 bif (!(ltB x28 0)) then
 Option.bind (z04 a1 a3 (subI .i64 (subI .i64 a3 1) (subI .i64 x3.1 a1)) x4) fun x29 =>
 z00 x29.1 a3 (subI .i64 a5 1) a8 a10 x29.2
 else
 Option.bind (z02 a1 a3 (subI .i64 (subI .i64 a3 1) (subI .i64 x3.1 a1)) x4) fun x30 =>
 bif (ltB (subI .i64 x30.1 a1) (subI .i64 a3 x30.1)) then
 Option.bind (z01 a1 x30.1 (subI .i64 a5 1) x30.2.2) fun x31 =>
 z00 (addI .i64 x30.1 1) a3 (subI .i64 a5 1) (leB (quoI .i64 (subI .i64 a3 a1) 8) (subI .i64 x30.1 a1)) x30.2.1 x31
 else
 Option.bind (z01 (addI .i64 x30.1 1) a3 (subI .i64 a5 1) x30.2.2) fun x32 =>
 z00 a1 x30.1 (subI .i64 a5 1) (leB (quoI .i64 (subI .i64 a3 a1) 8) (subI .i64 a3 x30.1)) x30.2.1 x32
 else
 Option.bind (z02 a1 a3 (subI .i64 (subI .i64 a3 1) (subI .i64 x3.1 a1)) x4) fun x33 =>
 bif (ltB (subI .i64 x33.1 a1) (subI .i64 a3 x33.1)) then
 Option.bind (z01 a1 x33.1 (subI .i64 a5 1) x33.2.2) fun x34 =>
 z00 (addI .i64 x33.1 1) a3 (subI .i64 a5 1) (leB (quoI .i64 (subI .i64 a3 a1) 8) (subI .i64 x33.1 a1)) x33.2.1 x34
 else
 Option.bind (z01 (addI .i64 x33.1 1) a3 (subI .i64 a5 1) x33.2.2) fun x35 =>
 z00 a1 x33.1 (subI .i64 a5 1) (leB (quoI .i64 (subI .i64 a3 a1) 8) (subI .i64 a3 x33.1)) x33.2.1 x35
 else
 bif a8 then
 bif a10 then
 bif (eqB x3.2.1 1) then
 Option.bind (z09 a1 a3 x3.2.2) fun x36 =>
 bif x36.1 then
 some x36.2
 else
 bif (ltB 0 a1) then
 nth x36.2 (subI .i64 a1 1) fun _ =>
 nth x36.2 x3.1 fun _ =>
 nthN x36.2 (Int.toNat (subI .i64 a1 1)) fun y37 =>
 nthN x36.2 (Int.toNat x3.1) fun y38 =>
 Option.bind (z08 y37 y38) fun x39 =>
 bif (!(ltB x39 0)) then
 Option.bind (z04 a1 a3 x3.1 x36.2) fun x40 =>
 z00 x40.1 a3 (subI .i64 a5 1) a8 a10 x40.2
 else
 Option.bind (z02 a1 a3 x3.1 x36.2) fun x41 =>
 bif (ltB (subI .i64 x41.1 a1) (subI .i64 a3 x41.1)) then
 Option.bind (z01 a1 x41.1 (subI .i64 a5 1) x41.2.2) fun x42 =>
 z00 (addI .i64 x41.1 1) a3 (subI .i64 a5 1) (leB (quoI .i64 (subI .i64 a3 a1) 8) (subI .i64 x41.1 a1)) x41.2.1 x42
 else
 Option.bind (z01 (addI .i64 x41.1 1) a3 (subI .i64 a5 1) x41.2.2) fun x43 =>
 z00 a1 x41.1 (subI .i64 a5 1) (leB (quoI .i64 (subI .i64 a3 a1) 8) (subI .i64 a3 x41.1)) x41.2.1 x43
 else
 Option.bind (z02 a1 a3 x3.1 x36.2) fun x44 =>
 bif (ltB (subI .i64 x44.1 a1) (subI .i64 a3 x44.1)) then
 Option.bind (z01 a1 x44.1 (subI .i64 a5 1) x44.2.2) fun x45 =>
 z00 (addI .i64 x44.1 1) a3 (subI .i64 a5 1) (leB (quoI .i64 (subI .i64 a3 a1) 8) (subI .i64 x44.1 a1)) x44.2.1 x45
 else
 Option.bind (z01 (addI .i64 x44.1 1) a3 (subI .i64 a5 1) x44.2.2) fun x46 =>
 z00 a1 x44.1 (subI .i64 a5 1) (leB (quoI .i64 (subI .i64 a3 a1) 8) (subI .i64 a3 x44.1)) x44.2.1 x46
 else
 bif (ltB 0 a1) then
 nth x3.2.2 (subI .i64 a1 1) fun _ =>
 nth x3.2.2 x3.1 fun _ =>
 nthN x3.2.2 (Int.toNat (subI .i64 a1 1)) fun y47 =>
 nthN x3.2.2 (Int.toNat x3.1) fun y48 =>
 Option.bind (z08 y47 y48) fun x49 =>
 bif (!(ltB x49 0)) then
 Option.bind (z04 a1 a3 x3.1 x3.2.2) fun x50 =>
 z00 x50.1 a3 (subI .i64 a5 1) a8 a10 x50.2
 else
 Option.bind (z02 a1 a3 x3.1 x3.2.2) fun x51 =>
 bif (ltB (subI .i64 x51.1 a1) (subI .i64 a3 x51.1)) then
 Option.bind (z01 a1 x51.1 (subI .i64 a5 1) x51.2.2) fun x52 =>
 z00 (addI .i64 x51.1 1) a3 (subI .i64 a5 1) (leB (quoI .i64 (subI .i64 a3 a1) 8) (subI .i64 x51.1 a1)) x51.2.1 x52
 else
 Option.bind (z01 (addI .i64 x51.1 1) a3 (subI .i64 a5 1) x51.2.2) fun x53 =>
 z00 a1 x51.1 (subI .i64 a5 1) (leB (quoI .i64 (subI .i64 a3 a1) 8) (subI .i64 a3 x51.1)) x51.2.1 x53
 else
 Option.bind (z02 a1 a3 x3.1 x3.2.2) fun x54 =>
 bif (ltB (subI .i64 x54.1 a1) (subI .i64 a3 x54.1)) then
 Option.bind (z01 a1 x54.1 (subI .i64 a5 1) x54.2.2) fun x55 =>
 z00 (addI .i64 x54.1 1) a3 (subI .i64 a5 1) (leB (quoI .i64 (subI .i64 a3 a1) 8) (subI .i64 x54.1 a1)) x54.2.1 x55
 else
 Option.bind (z01 (addI .i64 x54.1 1) a3 (subI .i64 a5 1) x54.2.2) fun x56 =>
 z00 a1 x54.1 (subI .i64 a5 1) (leB (quoI .i64 (subI .i64 a3 a1) 8) (subI .i64 a3 x54.1)) x54.2.1 x56
 else
 bif (ltB 0 a1) then
 nth x3.2.2 (subI .i64 a1 1) fun _ =>
 nth x3.2.2 x3.1 fun _ =>
 nthN x3.2.2 (Int.toNat (subI .i64 a1 1)) fun y57 =>
 nthN x3.2.2 (Int.toNat x3.1) fun y58 =>
 Option.bind (z08 y57 y58) fun x59 =>
 bif (!(ltB x59 0)) then
 Option.bind (z04 a1 a3 x3.1 x3.2.2) fun x60 =>
 z00 x60.1 a3 (subI .i64 a5 1) a8 a10 x60.2
 else
 Option.bind (z02 a1 a3 x3.1 x3.2.2) fun x61 =>
 bif (ltB (subI .i64 x61.1 a1) (subI .i64 a3 x61.1)) then
 Option.bind (z01 a1 x61.1 (subI .i64 a5 1) x61.2.2) fun x62 =>
 z00 (addI .i64 x61.1 1) a3 (subI .i64 a5 1) (leB (quoI .i64 (subI .i64 a3 a1) 8) (subI .i64 x61.1 a1)) x61.2.1 x62
 else
 Option.bind (z01 (addI .i64 x61.1 1) a3 (subI .i64 a5 1) x61.2.2) fun x63 =>
 z00 a1 x61.1 (subI .i64 a5 1) (leB (quoI .i64 (subI .i64 a3 a1) 8) (subI .i64 a3 x61.1)) x61.2.1 x63
 else
 Option.bind (z02 a1 a3 x3.1 x3.2.2) fun x64 =>
 bif (ltB (subI .i64 x64.1 a1) (subI .i64 a3 x64.1)) then
 Option.bind (z01 a1 x64.1 (subI .i64 a5 1) x64.2.2) fun x65 =>
 z00 (addI .i64 x64.1 1) a3 (subI .i64 a5 1) (leB (quoI .i64 (subI .i64 a3 a1) 8) (subI .i64 x64.1 a1)) x64.2.1 x65
 else
 Option.bind (z01 (addI .i64 x64.1 1) a3 (subI .i64 a5 1) x64.2.2) fun x66 =>
 z00 a1 x64.1 (subI .i64 a5 1) (leB (quoI .i64 (subI .i64 a3 a1) 8) (subI .i64 a3 x64.1)) x64.2.1 x66
 else
 bif (ltB 0 a1) then
 nth x3.2.2 (subI .i64 a1 1) fun _ =>
 nth x3.2.2 x3.1 fun _ =>
 nthN x3.2.2 (Int.toNat (subI .i64 a1 1)) fun y67 =>
 nthN x3.2.2 (Int.toNat x3.1) fun y68 =>
 Option.bind (z08 y67 y68) fun x69 =>
 bif (!(ltB x69 0)) then
 Option.bind (z04 a1 a3 x3.1 x3.2.2) fun x70 =>
 z00 x70.1 a3 (subI .i64 a5 1) a8 a10 x70.2
 else
 Option.bind (z02 a1 a3 x3.1 x3.2.2) fun x71 =>
 bif (ltB (subI .i64 x71.1 a1) (subI .i64 a3 x71.1)) then
 Option.bind (z01 a1 x71.1 (subI .i64 a5 1) x71.2.2) fun x72 =>
 z00 (addI .i64 x71.1 1) a3 (subI .i64 a5 1) (leB (quoI .i64 (subI .i64 a3 a1) 8) (subI .i64 x71.1 a1)) x71.2.1 x72
 else
 Option.bind (z01 (addI .i64 x71.1 1) a3 (subI .i64 a5 1) x71.2.2) fun x73 =>
 z00 a1 x71.1 (subI .i64 a5 1) (leB (quoI .i64 (subI .i64 a3 a1) 8) (subI .i64 a3 x71.1)) x71.2.1 x73
 else
 Option.bind (z02 a1 a3 x3.1 x3.2.2) fun x74 =>
 bif (ltB (subI .i64 x74.1 a1) (subI .i64 a3 x74.1)) then
 Option.bind (z01 a1 x74.1 (subI .i64 a5 1) x74.2.2) fun x75 =>
 z00 (addI .i64 x74.1 1) a3 (subI .i64 a5 1) (leB (quoI .i64 (subI .i64 a3 a1) 8) (subI .i64 x74.1 a1)) x74.2.1 x75
 else
 Option.bind (z01 (addI .i64 x74.1 1) a3 (subI .i64 a5 1) x74.2.2) fun x76 =>
 z00 a1 x74.1 (subI .i64 a5 1) (leB (quoI .i64 (subI .i64 a3 a1) 8) (subI .i64 a3 x74.1)) x74.2.1 x76
 else
 Option.bind (z0p a1 a3 a12) fun x77 =>
 bif (eqB x77.2.1 2) then
 Option.bind (z0l a1 a3 x77.2.2) fun x78 =>
 bif a8 then
 bif a10 then
 Option.bind (z09 a1 a3 x78) fun x79 =>
 bif x79.1 then
 some x79.2
 else
 bif (ltB 0 a1) then
 nth x79.2 (subI .i64 a1 1) fun _ =>
 nth x79.2 (subI .i64 (subI .i64 a3 1) (subI .i64 x77.1 a1)) fun _ =>
 nthN x79.2 (Int.toNat (subI .i64 a1 1)) fun y80 =>
 nthN x79.2 (Int.toNat (subI .i64 (subI .i64 a3 1) (subI .i64 x77.1 a1))) fun y81 =>
 Option.bind (z08 y80 y81) fun x82 =>
 bif (!(ltB x82 0)) then
 Option.bind (z04 a1 a3 (subI .i64 (subI .i64 a3 1) (subI .i64 x77.1 a1)) x79.2) fun x83 =>
 z00 x83.1 a3 a5 a8 a10 x83.2
 else
 Option.bind (z02 a1 a3 (subI .i64 (subI .i64 a3 1) (subI .i64 x77.1 a1)) x79.2) fun x84 =>
 bif (ltB (subI .i64 x84.1 a1) (subI .i64 a3 x84.1)) then
 Option.bind (z01 a1 x84.1 a5 x84.2.2) fun x85 =>
 z00 (addI .i64 x84.1 1) a3 a5 (leB (quoI .i64 (subI .i64 a3 a1) 8) (subI .i64 x84.1 a1)) x84.2.1 x85
 else
 Option.bind (z01 (addI .i64 x84.1 1) a3 a5 x84.2.2) fun x86 =>
 z00 a1 x84.1 a5 (leB (quoI .i64 (subI .i64 a3 a1) 8) (subI .i64 a3 x84.1)) x84.2.1 x86
 else
 Option.bind (z02 a1 a3 (subI .i64 (subI .i64 a3 1) (subI .i64 x77.1 a1)) x79.2) fun x87 =>
 bif (ltB (subI .i64 x87.1 a1) (subI .i64 a3 x87.1)) then
 Option.bind (z01 a1 x87.1 a5 x87.2.2) fun x88 =>
 z00 (addI .i64 x87.1 1) a3 a5 (leB (quoI .i64 (subI .i64 a3 a1) 8) (subI .i64 x87.1 a1)) x87.2.1 x88
 else
 Option.bind (z01 (addI .i64 x87.1 1) a3 a5 x87.2.2) fun x89 =>
 z00 a1 x87.1 a5 (leB (quoI .i64 (subI .i64 a3 a1) 8) (subI .i64 a3 x87.1)) x87.2.1 x89
 else
 bif (ltB 0 a1) then
 nth x78 (subI .i64 a1 1) fun _ =>
 nth x78 (subI .i64 (subI .i64 a3 1) (subI .i64 x77.1 a1)) fun _ =>
 nthN x78 (Int.toNat (subI .i64 a1 1)) fun y90 =>
 nthN x78 (Int.toNat (subI .i64 (subI .i64 a3 1) (subI .i64 x77.1 a1))) fun y91 =>
 Option.bind (z08 y90 y91) fun x92 =>
 bif (!(ltB x92 0)) then
 Option.bind (z04 a1 a3 (subI .i64 (subI .i64 a3 1) (subI .i64 x77.1 a1)) x78) fun x93 =>
 z00 x93.1 a3 a5 a8 a10 x93.2
 else
 Option.bind (z02 a1 a3 (subI .i64 (subI .i64 a3 1) (subI .i64 x77.1 a1)) x78) fun x94 =>
 bif (ltB (subI .i64 x94.1 a1) (subI .i64 a3 x94.1)) then
 Option.bind (z01 a1 x94.1 a5 x94.2.2) fun x95 =>
 z00 (addI .i64 x94.1 1) a3 a5 (leB (quoI .i64 (subI .i64 a3 a1) 8) (subI .i64 x94.1 a1)) x94.2.1 x95
 else
 Option.bind (z01 (addI .i64 x94.1 1) a3 a5 x94.2.2) fun x96 =>
 z00 a1 x94.1 a5 (leB (quoI .i64 (subI .i64 a3 a1) 8) (subI .i64 a3 x94.1)) x94.2.1 x96
 else
 Option.bind (z02 a1 a3 (subI .i64 (subI .i64 a3 1) (subI .i64 x77.1 a1)) x78) fun x97 =>
 bif (ltB (subI .i64 x97.1 a1) (subI .i64 a3 x97.1)) then
 Option.bind (z01 a1 x97.1 a5 x97.2.2) fun x98 =>
 z00 (addI .i64 x97.1 1) a3 a5 (leB (quoI .i64 (subI .i64 a3 a1) 8) (subI .i64 x97.1 a1)) x97.2.1 x98
 else
 Option.bind (z01 (addI .i64 x97.1 1) a3 a5 x97.2.2) fun x99 =>
 z00 a1 x97.1 a5 (leB (quoI .i64 (subI .i64 a3 a1) 8) (subI .i64 a3 x97.1)) x97.2.1 x99
 else
 bif (ltB 0 a1) then
 nth x78 (subI .i64 a1 1) fun _ =>
 nth x78 (subI .i64 (subI .i64 a3 1) (subI .i64 x77.1 a1)) fun _ =>
 nthN x78 (Int.toNat (subI .i64 a1 1)) fun y100 =>
 nthN x78 (Int.toNat (subI .i64 (subI .i64 a3 1) (subI .i64 x77.1 a1))) fun y101 =>
 Option.bind (z08 y100 y101) fun x102 =>
 bif (!(ltB x102 0)) then
 Option.bind (z04 a1 a3 (subI .i64 (subI .i64 a3 1) (subI .i64 x77.1 a1)) x78) fun x103 =>
 z00 x103.1 a3 a5 a8 a10 x103.2
 else
 Option.bind (z02 a1 a3 (subI .i64 (subI .i64 a3 1) (subI .i64 x77.1 a1)) x78) fun x104 =>
 bif (ltB (subI .i64 x104.1 a1) (subI .i64 a3 x104.1)) then
 Option.bind (z01 a1 x104.1 a5 x104.2.2) fun x105 =>
 z00 (addI .i64 x104.1 1) a3 a5 (leB (quoI .i64 (subI .i64 a3 a1) 8) (subI .i64 x104.1 a1)) x104.2.1 x105
 else
 Option.bind (z01 (addI .i64 x104.1 1) a3 a5 x104.2.2) fun x106 =>
 z00 a1 x104.1 a5 (leB (quoI .i64 (subI .i64 a3 a1) 8) (subI .i64 a3 x104.1)) x104.2.1 x106
 else
 Option.bind (z02 a1 a3 (subI .i64 (subI .i64 a3 1) (subI .i64 x77.1 a1)) x78) fun x107 =>
 bif (ltB (subI .i64 x107.1 a1) (subI .i64 a3 x107.1)) then
 Option.bind (z01 a1 x107.1 a5 x107.2.2) fun x108 =>
 z00 (addI .i64 x107.1 1) a3 a5 (leB (quoI .i64 (subI .i64 a3 a1) 8) (subI .i64 x107.1 a1)) x107.2.1 x108
 else
 Option.bind (z01 (addI .i64 x107.1 1) a3 a5 x107.2.2) fun x109 =>
 z00 a1 x107.1 a5 (leB (quoI .i64 (subI .i64 a3 a1) 8) (subI .i64 a3 x107.1)) x107.2.1 x109
 else
 bif a8 then
 bif a10 then
 bif (eqB x77.2.1 1) then
 Option.bind (z09 a1 a3 x77.2.2) fun x110 =>
 bif x110.1 then
 some x110.2
 else
 bif (ltB 0 a1) then
 nth x110.2 (subI .i64 a1 1) fun _ =>
 nth x110.2 x77.1 fun _ =>
 nthN x110.2 (Int.toNat (subI .i64 a1 1)) fun y111 =>
 nthN x110.2 (Int.toNat x77.1) fun y112 =>
 Option.bind (z08 y111 y112) fun x113 =>
 bif (!(ltB x113 0)) then
 Option.bind (z04 a1 a3 x77.1 x110.2) fun x114 =>
 z00 x114.1 a3 a5 a8 a10 x114.2
 else
 Option.bind (z02 a1 a3 x77.1 x110.2) fun x115 =>
 bif (ltB (subI .i64 x115.1 a1) (subI .i64 a3 x115.1)) then
 Option.bind (z01 a1 x115.1 a5 x115.2.2) fun x116 =>
 z00 (addI .i64 x115.1 1) a3 a5 (leB (quoI .i64 (subI .i64 a3 a1) 8) (subI .i64 x115.1 a1)) x115.2.1 x116
 else
 Option.bind (z01 (addI .i64 x115.1 1) a3 a5 x115.2.2) fun x117 =>
 z00 a1 x115.1 a5 (leB (quoI .i64 (subI .i64 a3 a1) 8) (subI .i64 a3 x115.1)) x115.2.1 x117
 else
 Option.bind (z02 a1 a3 x77.1 x110.2) fun x118 =>
 bif (ltB (subI .i64 x118.1 a1) (subI .i64 a3 x118.1)) then
 Option.bind (z01 a1 x118.1 a5 x118.2.2) fun x119 =>
 z00 (addI .i64 x118.1 1) a3 a5 (leB (quoI .i64 (subI .i64 a3 a1) 8) (subI .i64 x118.1 a1)) x118.2.1 x119
 else
 Option.bind (z01 (addI .i64 x118.1 1) a3 a5 x118.2.2) fun x120 =>
 z00 a1 x118.1 a5 (leB (quoI .i64 (subI .i64 a3 a1) 8) (subI .i64 a3 x118.1)) x118.2.1 x120
 else
 bif (ltB 0 a1) then
 nth x77.2.2 (subI .i64 a1 1) fun _ =>
 nth x77.2.2 x77.1 fun _ =>
 nthN x77.2.2 (Int.toNat (subI .i64 a1 1)) fun y121 =>
 nthN x77.2.2 (Int.toNat x77.1) fun y122 =>
 Option.bind (z08 y121 y122) fun x123 =>
 bif (!(ltB x123 0)) then
 Option.bind (z04 a1 a3 x77.1 x77.2.2) fun x124 =>
 z00 x124.1 a3 a5 a8 a10 x124.2
 else
 Option.bind (z02 a1 a3 x77.1 x77.2.2) fun x125 =>
 bif (ltB (subI .i64 x125.1 a1) (subI .i64 a3 x125.1)) then
 Option.bind (z01 a1 x125.1 a5 x125.2.2) fun x126 =>
 z00 (addI .i64 x125.1 1) a3 a5 (leB (quoI .i64 (subI .i64 a3 a1) 8) (subI .i64 x125.1 a1)) x125.2.1 x126
 else
 Option.bind (z01 (addI .i64 x125.1 1) a3 a5 x125.2.2) fun x127 =>
 z00 a1 x125.1 a5 (leB (quoI .i64 (subI .i64 a3 a1) 8) (subI .i64 a3 x125.1)) x125.2.1 x127
 else
 Option.bind (z02 a1 a3 x77.1 x77.2.2) fun x128 =>
 bif (ltB (subI .i64 x128.1 a1) (subI .i64 a3 x128.1)) then
 Option.bind (z01 a1 x128.1 a5 x128.2.2) fun x129 =>
 z00 (addI .i64 x128.1 1) a3 a5 (leB (quoI .i64 (subI .i64 a3 a1) 8) (subI .i64 x128.1 a1)) x128.2.1 x129
 else
 Option.bind (z01 (addI .i64 x128.1 1) a3 a5 x128.2.2) fun x130 =>
 z00 a1 x128.1 a5 (leB (quoI .i64 (subI .i64 a3 a1) 8) (subI .i64 a3 x128.1)) x128.2.1 x130
 else
 bif (ltB 0 a1) then
 nth x77.2.2 (subI .i64 a1 1) fun _ =>
 nth x77.2.2 x77.1 fun _ =>
 nthN x77.2.2 (Int.toNat (subI .i64 a1 1)) fun y131 =>
 nthN x77.2.2 (Int.toNat x77.1) fun y132 =>
 Option.bind (z08 y131 y132) fun x133 =>
 bif (!(ltB x133 0)) then
 Option.bind (z04 a1 a3 x77.1 x77.2.2) fun x134 =>
 z00 x134.1 a3 a5 a8 a10 x134.2
 else
 Option.bind (z02 a1 a3 x77.1 x77.2.2) fun x135 =>
 bif (ltB (subI .i64 x135.1 a1) (subI .i64 a3 x135.1)) then
 Option.bind (z01 a1 x135.1 a5 x135.2.2) fun x136 =>
 z00 (addI .i64 x135.1 1) a3 a5 (leB (quoI .i64 (subI .i64 a3 a1) 8) (subI .i64 x135.1 a1)) x135.2.1 x136
 else
 Option.bind (z01 (addI .i64 x135.1 1) a3 a5 x135.2.2) fun x137 =>
 z00 a1 x135.1 a5 (leB (quoI .i64 (subI .i64 a3 a1) 8) (subI .i64 a3 x135.1)) x135.2.1 x137
 else
 Option.bind (z02 a1 a3 x77.1 x77.2.2) fun x138 =>
 bif (ltB (subI .i64 x138.1 a1) (subI .i64 a3 x138.1)) then
 Option.bind (z01 a1 x138.1 a5 x138.2.2) fun x139 =>
 z00 (addI .i64 x138.1 1) a3 a5 (leB (quoI .i64 (subI .i64 a3 a1) 8) (subI .i64 x138.1 a1)) x138.2.1 x139
 else
 Option.bind (z01 (addI .i64 x138.1 1) a3 a5 x138.2.2) fun x140 =>
 z00 a1 x138.1 a5 (leB (quoI .i64 (subI .i64 a3 a1) 8) (subI .i64 a3 x138.1)) x138.2.1 x140
 else
 bif (ltB 0 a1) then
 nth x77.2.2 (subI .i64 a1 1) fun _ =>
 nth x77.2.2 x77.1 fun _ =>
 nthN x77.2.2 (Int.toNat (subI .i64 a1 1)) fun y141 =>
 nthN x77.2.2 (Int.toNat x77.1) fun y142 =>
 Option.bind (z08 y141 y142) fun x143 =>
 bif (!(ltB x143 0)) then
 Option.bind (z04 a1 a3 x77.1 x77.2.2) fun x144 =>
 z00 x144.1 a3 a5 a8 a10 x144.2
 else
 Option.bind (z02 a1 a3 x77.1 x77.2.2) fun x145 =>
 bif (ltB (subI .i64 x145.1 a1) (subI .i64 a3 x145.1)) then
 Option.bind (z01 a1 x145.1 a5 x145.2.2) fun x146 =>
 z00 (addI .i64 x145.1 1) a3 a5 (leB (quoI .i64 (subI .i64 a3 a1) 8) (subI .i64 x145.1 a1)) x145.2.1 x146
 else
 Option.bind (z01 (addI .i64 x145.1 1) a3 a5 x145.2.2) fun x147 =>
 z00 a1 x145.1 a5 (leB (quoI .i64 (subI .i64 a3 a1) 8) (subI .i64 a3 x145.1)) x145.2.1 x147
 else
 Option.bind (z02 a1 a3 x77.1 x77.2.2) fun x148 =>
 bif (ltB (subI .i64 x148.1 a1) (subI .i64 a3 x148.1)) then
 Option.bind (z01 a1 x148.1 a5 x148.2.2) fun x149 =>
 z00 (addI .i64 x148.1 1) a3 a5 (leB (quoI .i64 (subI .i64 a3 a1) 8) (subI .i64 x148.1 a1)) x148.2.1 x149
 else
 Option.bind (z01 (addI .i64 x148.1 1) a3 a5 x148.2.2) fun x150 =>
 z00 a1 x148.1 a5 (leB (quoI .i64 (subI .i64 a3 a1) 8) (subI .i64 a3 x148.1)) x148.2.1 x150
 ) (z00 a1 a3 a5 a8 a10 a12) :=
 q00 (T := tn) (o := ⟨[],[[.own .i64 false]]⟩) sigOk 100000 (b := q03 Tryz.f113 [1,1,0,0]) (by kernel_rfl) (by kernel_rfl)
theorem y2j (a_1 b_2 : Int) (h0 : List Int) : Le (
 z0d a_1 b_2 (addI .i64 a_1 1) h0
 ) (z14 a_1 b_2 h0) :=
 q01 (T := tn) (c := q06 Tryz.f127) (o := ⟨[],[[.own .i64 false]]⟩) sigOk 100000 (by kernel_rfl) Tryz.func127 (by kernel_rfl) (by kernel_rfl) (by kernel_rfl)
theorem y2h (a_1 b_2 : Int) (h0 : List Int) : Le (
 z0q a_1 0 (subI .i64 b_2 a_1) (quoI .i64 (subI .i64 (subI .i64 b_2 a_1) 1) 2) h0
 ) (z19 a_1 b_2 h0) :=
 q01 (T := tn) (c := q06 Tryz.f128) (o := ⟨[],[[.own .i64 false]]⟩) sigOk 100000 (by kernel_rfl) Tryz.func128 (by kernel_rfl) (by kernel_rfl) (by kernel_rfl)
theorem y4i (a_1 b_2 : Int) (h0 : List Int) : Le (
 bif (leB 8 (subI .i64 b_2 a_1)) then
 Option.bind (z3s (subI .i64 b_2 a_1)) fun x0 =>
 z0b a_1 (subI .i64 b_2 a_1) x0 (subI .i64 (addI .i64 a_1 (mulI .i64 (quoI .i64 (subI .i64 b_2 a_1) 4) 2)) 1) h0 (IntKind.wrap .u64 (subI .i64 b_2 a_1))
 else
 some h0
 ) (z15 a_1 b_2 h0) :=
 q01 (T := tn) (c := q06 Tryz.f129) (o := ⟨[],[[.own .i64 false]]⟩) sigOk 100000 (by kernel_rfl) Tryz.func129 (by kernel_rfl) (by kernel_rfl) (by kernel_rfl)
theorem y5j (a_1 b_2 : Int) (h0 : List Int) : Le (
 bif (leB 8 (subI .i64 b_2 a_1)) then
 bif (leB 50 (subI .i64 b_2 a_1)) then
 Option.bind (z0k (addI .i64 a_1 (mulI .i64 (quoI .i64 (subI .i64 b_2 a_1) 4) 1)) h0 0) fun x0 =>
 Option.bind (z0k (addI .i64 a_1 (mulI .i64 (quoI .i64 (subI .i64 b_2 a_1) 4) 2)) x0.2.1 x0.2.2) fun x1 =>
 Option.bind (z0k (addI .i64 a_1 (mulI .i64 (quoI .i64 (subI .i64 b_2 a_1) 4) 3)) x1.2.1 x1.2.2) fun x2 =>
 Option.bind (z0w x0.1 x1.1 x2.1 x2.2.1 x2.2.2) fun x3 =>
 bif (eqB x3.2.2 0) then
 some (x3.1, 1, x3.2.1)
 else
 bif (eqB x3.2.2 12) then
 some (x3.1, 2, x3.2.1)
 else
 some (x3.1, 0, x3.2.1)
 else
 Option.bind (z0w (addI .i64 a_1 (mulI .i64 (quoI .i64 (subI .i64 b_2 a_1) 4) 1)) (addI .i64 a_1 (mulI .i64 (quoI .i64 (subI .i64 b_2 a_1) 4) 2)) (addI .i64 a_1 (mulI .i64 (quoI .i64 (subI .i64 b_2 a_1) 4) 3)) h0 0) fun x4 =>
 bif (eqB x4.2.2 0) then
 some (x4.1, 1, x4.2.1)
 else
 bif (eqB x4.2.2 12) then
 some (x4.1, 2, x4.2.1)
 else
 some (x4.1, 0, x4.2.1)
 else
 some ((addI .i64 a_1 (mulI .i64 (quoI .i64 (subI .i64 b_2 a_1) 4) 2)), 1, h0)
 ) (z0p a_1 b_2 h0) :=
 q01 (T := tn) (c := q06 Tryz.f130) (o := ⟨[.lf (.i .i64), .lf (.i .i64)],[[.own .i64 false]]⟩) sigOk 100000 (by kernel_rfl) Tryz.func130 (by kernel_rfl) (by kernel_rfl) (by kernel_rfl)
theorem y2p (a_1 b_2 : Int) (h0 : List Int) : Le (
 z0u a_1 (subI .i64 b_2 1) h0
 ) (z0l a_1 b_2 h0) :=
 q01 (T := tn) (c := q06 Tryz.f131) (o := ⟨[],[[.own .i64 false]]⟩) sigOk 100000 (by kernel_rfl) Tryz.func131 (by kernel_rfl) (by kernel_rfl) (by kernel_rfl)
theorem y2a (a_1 b_2 : Int) (h0 : List Int) : Le (
 z03 a_1 b_2 (addI .i64 a_1 1) 0 h0
 ) (z09 a_1 b_2 h0) :=
 q01 (T := tn) (c := q06 Tryz.f132) (o := ⟨[.lf .b],[[.own .i64 false]]⟩) sigOk 100000 (by kernel_rfl) Tryz.func132 (by kernel_rfl) (by kernel_rfl) (by kernel_rfl)
theorem y1v (a_0 b_1 : Int) : Le (
 Option.bind (z66 a_0) fun x0 =>
 Option.bind (z66 b_1) fun x1 =>
 Option.bind (z4j x0 x1) fun x2 =>
 Option.bind (z4j a_0 b_1) fun x3 =>
 Option.bind (z6r ([x2, x3] : List (Int))) fun x4 =>
 some x4
 ) (z08 a_0 b_1) :=
 q01 (T := tn) (c := q06 Tryz.f91) (o := ⟨[.lf (.i .i64)],[]⟩) sigOk 100000 (by kernel_rfl) Tryz.func91 (by kernel_rfl) (by kernel_rfl) (by kernel_rfl)
theorem y1q (a_1 b_2 pivot_3 : Int) (h0 : List Int) : Le (
 nth h0 pivot_3 fun _ =>
 nth h0 a_1 fun _ =>
 nthN h0 (Int.toNat pivot_3) fun y0 =>
 nthN h0 (Int.toNat a_1) fun y1 =>
 nth h0 a_1 fun _ =>
 nthN h0 (Int.toNat a_1) fun _y2 =>
 nth (List.set h0 (Int.toNat a_1) y0) pivot_3 fun _ =>
 nthN (List.set h0 (Int.toNat a_1) y0) (Int.toNat pivot_3) fun _y3 =>
 z0a a_1 (addI .i64 a_1 1) (subI .i64 b_2 1) (List.set (List.set h0 (Int.toNat a_1) y0) (Int.toNat pivot_3) y1)
 ) (z04 a_1 b_2 pivot_3 h0) :=
 q01 (T := tn) (c := q06 Tryz.f133) (o := ⟨[.lf (.i .i64)],[[.own .i64 false]]⟩) sigOk 100000 (by kernel_rfl) Tryz.func133 (by kernel_rfl) (by kernel_rfl) (by kernel_rfl)
theorem y4b (a_1 b_2 pivot_3 : Int) (h0 : List Int) : Le (
 nth h0 pivot_3 fun _ =>
 nth h0 a_1 fun _ =>
 nthN h0 (Int.toNat pivot_3) fun y0 =>
 nthN h0 (Int.toNat a_1) fun y1 =>
 nth h0 a_1 fun _ =>
 nthN h0 (Int.toNat a_1) fun _y2 =>
 nth (List.set h0 (Int.toNat a_1) y0) pivot_3 fun _ =>
 nthN (List.set h0 (Int.toNat a_1) y0) (Int.toNat pivot_3) fun _y3 =>
 z0y a_1 (addI .i64 a_1 1) (subI .i64 b_2 1) (List.set (List.set h0 (Int.toNat a_1) y0) (Int.toNat pivot_3) y1)
 ) (z02 a_1 b_2 pivot_3 h0) :=
 q01 (T := tn) (c := q06 Tryz.f134) (o := ⟨[.lf (.i .i64), .lf .b],[[.own .i64 false]]⟩) sigOk 100000 (by kernel_rfl) Tryz.func134 (by kernel_rfl) (by kernel_rfl) (by kernel_rfl)
theorem y4u (length_0 : Int) : Le (
 Option.bind (z6y (IntKind.wrap .u64 length_0)) fun x0 =>
 chk (0 ≤ x0) <|
 some (shlI .u64 1 x0)
 ) (z3s length_0) :=
 q01 (T := tn) (c := q06 Tryz.f141) (o := ⟨[.lf (.i .u64)],[]⟩) sigOk 100000 (by kernel_rfl) Tryz.func141 (by kernel_rfl) (by kernel_rfl) (by kernel_rfl)
theorem y39 (a_1 : Int) (h0 : List Int) (h1 : Int) : Le (
 Option.bind (z0w (subI .i64 a_1 1) a_1 (addI .i64 a_1 1) h0 h1) fun x0 =>
 some (x0.1, x0.2.1, x0.2.2)
 ) (z0k a_1 h0 h1) :=
 q01 (T := tn) (c := q06 Tryz.f143) (o := ⟨[.lf (.i .i64)],[[.own .i64 false],[.lf (.i .i64)]]⟩) sigOk 100000 (by kernel_rfl) Tryz.func143 (by kernel_rfl) (by kernel_rfl) (by kernel_rfl)
theorem y1x (a_1 b_2 c_3 : Int) (h0 : List Int) (h1 : Int) : Le (
 Option.bind (z0x a_1 b_2 h0 h1) fun x0 =>
 Option.bind (z0x x0.2.1 c_3 x0.2.2.1 x0.2.2.2) fun x1 =>
 Option.bind (z0x x0.1 x1.1 x1.2.2.1 x1.2.2.2) fun x2 =>
 some (x2.2.1, x2.2.2.1, x2.2.2.2)
 ) (z0w a_1 b_2 c_3 h0 h1) :=
 q01 (T := tn) (c := q06 Tryz.f144) (o := ⟨[.lf (.i .i64)],[[.own .i64 false],[.lf (.i .i64)]]⟩) sigOk 100000 (by kernel_rfl) Tryz.func144 (by kernel_rfl) (by kernel_rfl) (by kernel_rfl)
theorem y55 (s_0 : Int) : Le (
 Option.bind (z1o s_0) fun x0 =>
 bif (!x0) then
 some (-1)
 else
 Option.bind (z4s s_0) fun x1 =>
 some x1
 ) (z66 s_0) :=
 q01 (T := tn) (c := q06 Tryz.f117) (o := ⟨[.lf (.i .i64)],[]⟩) sigOk 100000 (by kernel_rfl) Tryz.func117 (by kernel_rfl) (by kernel_rfl) (by kernel_rfl)
theorem y36 (x_0 y_1 : Int) : Le (
 Option.bind (z5h x_0) fun x0 =>
 Option.bind (z5h y_1) fun x1 =>
 bif x0 then
 bif x1 then
 some 0
 else
 some (-1)
 else
 bif x1 then
 some 1
 else
 bif (ltB x_0 y_1) then
 some (-1)
 else
 bif (ltB y_1 x_0) then
 some 1
 else
 some 0
 ) (z4j x_0 y_1) :=
 q01 (T := tn) (c := q06 Tryz.f116) (o := ⟨[.lf (.i .i64)],[]⟩) sigOk 100000 (by kernel_rfl) Tryz.func116 (by kernel_rfl) (by kernel_rfl) (by kernel_rfl)
theorem y3h (vals_0 : List Int) : Le (
 z4l 0 vals_0 ((List.length vals_0 : Nat) : Int) 0
 ) (z6r vals_0) :=
 q01 (T := tn) (c := q06 Tryz.f115) (o := ⟨[.lf (.i .i64)],[]⟩) sigOk 100000 (by kernel_rfl) Tryz.func115 (by kernel_rfl) (by kernel_rfl) (by kernel_rfl)
theorem y40 (a_1 b_2 : Int) (h0 : List Int) (h1 : Int) : Le (
 nth h0 b_2 fun _ =>
 nth h0 a_1 fun _ =>
 nthN h0 (Int.toNat b_2) fun y0 =>
 nthN h0 (Int.toNat a_1) fun y1 =>
 Option.bind (z08 y0 y1) fun x2 =>
 bif (ltB x2 0) then
 some (b_2, a_1, h0, (addI .i64 h1 1))
 else
 some (a_1, b_2, h0, h1)
 ) (z0x a_1 b_2 h0 h1) :=
 q01 (T := tn) (c := q06 Tryz.f146) (o := ⟨[.lf (.i .i64), .lf (.i .i64)],[[.own .i64 false],[.lf (.i .i64)]]⟩) sigOk 100000 (by kernel_rfl) Tryz.func146 (by kernel_rfl) (by kernel_rfl) (by kernel_rfl)
theorem y5f (x_0 : Int) : Le (
 some (neB x_0 x_0)
 ) (z5h x_0) :=
 q01 (T := tn) (c := q06 Tryz.f137) (o := ⟨[.lf .b],[]⟩) sigOk 100000 (by kernel_rfl) Tryz.func137 (by kernel_rfl) (by kernel_rfl) (by kernel_rfl)
theorem qzg (a0 : Int) (a2 : List Member) (a4 a6 : Int) (a8 : List Member) : Le (
 bif (ltB a6 a4) then
 nth a2 a6 fun y0 =>
 bif y0.Declared then
 bif (ltB a6 10) then
 chk (0 ≤ a6) <|
 z1e (orI .i64 a0 (shlI .i64 1 a6)) a2 a4 (addI .i64 a6 1) a8
 else
 z1e a0 a2 a4 (addI .i64 a6 1) a8
 else
 z1e a0 a2 a4 (addI .i64 a6 1) a8
 else
 some a0
 ) (z1e a0 a2 a4 a6 a8) :=
 q00 (T := tn) (o := ⟨[.lf (.i .i64)],[]⟩) sigOk 100000 (b := q03 Tryz.f119 [1,1,0,1,0,0]) (by kernel_rfl) (by kernel_rfl)
theorem qzl (a2 a4 a6 : Int) (a8 : List Int) (a10 : List Trust) (a12 : Int) (a14 : List Int) (a16 : List Trust) : Le (
 bif (ltB a4 a2) then
 nth a10 a4 fun y0 =>
 nth a16 a4 fun y1 =>
 Option.bind (z58 y0 y1) fun x2 =>
 bif (!x2) then
 some false
 else
 z3g a2 (addI .i64 a4 1) a6 a8 a10 a12 a14 a16
 else
 some true
 ) (z3g a2 a4 a6 a8 a10 a12 a14 a16) :=
 q00 (T := tn) (o := ⟨[.lf .b],[]⟩) sigOk 100000 (b := q03 Tryz.f70 [1,1,0,1,0,0]) (by kernel_rfl) (by kernel_rfl)
theorem qyq (a1 : Int) (a3 : List Int) (a5 a7 a9 : Int) (a11 : List Int) (a13 : List Trust) : Le (
 bif (ltB a7 a5) then
 nth a3 a7 fun y0 =>
 bif (leB 0 y0) then
 bif (ltB y0 10) then
 chk (0 ≤ y0) <|
 z36 (orI .i64 a1 (shlI .i64 1 y0)) a3 a5 (addI .i64 a7 1) a9 a11 a13
 else
 z36 a1 a3 a5 (addI .i64 a7 1) a9 a11 a13
 else
 z36 a1 a3 a5 (addI .i64 a7 1) a9 a11 a13
 else
 z4d a1 a13 ((List.length a13 : Nat) : Int) 0 a9 a11 a13
 ) (z36 a1 a3 a5 a7 a9 a11 a13) :=
 q00 (T := tn) (o := ⟨[.lf (.i .i64)],[]⟩) sigOk 100000 (b := q03 Tryz.f71 [1,1,0,1,0,0]) (by kernel_rfl) (by kernel_rfl)
theorem qth (a0 a2 : List Int) (a4 a6 : Int) : Le (
 bif (ltB a6 a4) then
 nth a0 a6 fun y0 =>
 nth a2 a6 fun y1 =>
 bif (neB y0 y1) then
 some false
 else
 z4c a0 a2 a4 (addI .i64 a6 1)
 else
 some true
 ) (z4c a0 a2 a4 a6) :=
 q00 (T := tn) (o := ⟨[.lf .b],[]⟩) sigOk 100000 (b := q03 Tryz.f98 [1,1,0,1,0,0]) (by kernel_rfl) (by kernel_rfl)
theorem qxp (a0 a2 : List Int) (a4 : Int) (a6 : Bool) (a8 : List Int) (a10 a12 : Int) (a14 : List Int) (a16 a18 : Int) : Le (
 bif (ltB a18 a16) then
 nth a14 a18 fun y0 =>
 bif a6 then
 Option.bind (z1h y0) fun x1 =>
 bif x1 then
 bif (neB y0 a4) then
 z2b a0 a2 a4 (!(eqB (andI .i64 y0 a4) y0)) a8 a10 a12 a14 a16 (addI .i64 a18 1)
 else
 z2b a0 a2 a4 (!false) a8 a10 a12 a14 a16 (addI .i64 a18 1)
 else
 z2b a0 a2 a4 (!false) a8 a10 a12 a14 a16 (addI .i64 a18 1)
 else
 z2b a0 a2 a4 false a8 a10 a12 a14 a16 (addI .i64 a18 1)
 else
 bif (!a6) then
 z1u a0 a2 a8 a10 (addI .i64 a12 1)
 else
 z2c a0 a2 a4 0 false a8 a10 a12 ((List.length a2 : Nat) : Int) 0
 ) (z2b a0 a2 a4 a6 a8 a10 a12 a14 a16 a18) :=
 q00 (T := tn) (o := ⟨[.lf (.l .i64)],[]⟩) sigOk 100000 (b := q03 Tryz.f39 [1,1,0,1,0,0,1,1,0,0,1,1,0,1,0,0]) (by kernel_rfl) (by kernel_rfl)
theorem qzk (a2 : List Trust) (a4 a6 a8 : Int) (a10 : List Int) (a12 : List Trust) (a14 : Int) (a16 : List Int) (a18 : List Trust) (a20 : Int) (a22 : List Int) (a24 : List Trust) : Le (
 bif (ltB a6 a4) then
 nth a2 a6 fun y0 =>
 Option.bind (z3z y0) fun x1 =>
 capOk (List.length a24 + List.length ([(Trust.mk x1.Threshold x1.Nodes x1.Inner)] : List (Trust))) <|
 z31 a2 a4 (addI .i64 a6 1) a8 a10 a12 a14 a16 a18 a20 a22 (a24 ++ ([(Trust.mk x1.Threshold x1.Nodes x1.Inner)] : List (Trust)))
 else
 some (Trust.mk a20 a22 a24)
 ) (z31 a2 a4 a6 a8 a10 a12 a14 a16 a18 a20 a22 a24) :=
 q00 (T := tn) (o := ⟨[.ag .Trust],[]⟩) sigOk 100000 (b := q03 Tryz.f77 [1,1,0,1,0,0]) (by kernel_rfl) (by kernel_rfl)
theorem qy2 (a0 : Int) (a5 : List Int) (a7 a9 a11 : Int) (a13 : List Int) (a15 : List Trust) (a17 : Int) (a19 : List Int) (a21 : List Trust) (a23 : Int) (a25 : List Int) (a27 : List Trust) : Le (
 bif (ltB a9 a7) then
 nth a5 a9 fun y0 =>
 Option.bind (z4m a0 y0) fun x1 =>
 bif x1 then
 Option.bind (z4k a23 1) fun x2 =>
 z2t a0 a5 a7 (addI .i64 a9 1) a11 a13 a15 a17 a19 a21 x2 a25 a27
 else
 capOk (List.length a25 + List.length ([y0] : List (Int))) <|
 z2t a0 a5 a7 (addI .i64 a9 1) a11 a13 a15 a17 a19 a21 a23 (a25 ++ ([y0] : List (Int))) a27
 else
 z2a a0 a15 ((List.length a15 : Nat) : Int) 0 a11 a13 a15 a17 a19 a21 a23 a25 a27
 ) (z2t a0 a5 a7 a9 a11 a13 a15 a17 a19 a21 a23 a25 a27) :=
 q00 (T := tn) (o := ⟨[.ag .Trust],[]⟩) sigOk 100000 (b := q03 Tryz.f102 [1,1,0,1,0,0]) (by kernel_rfl) (by kernel_rfl)
theorem y63 (threshold_0 by_1 : Int) : Le (
 some (subI .i64 (if by_1 > threshold_0 then by_1 else threshold_0) by_1)
 ) (z4k threshold_0 by_1) :=
 q01 (T := tn) (c := q06 Tryz.f122) (o := ⟨[.lf (.i .i64)],[]⟩) sigOk 100000 (by kernel_rfl) Tryz.func122 (by kernel_rfl) (by kernel_rfl) (by kernel_rfl)
theorem qoh (a0 a2 a4 : Int) : Le (
 Option.bind (z2n a4 a0) fun x0 =>
 bif x0 then
 Option.bind (z4s a4) fun x1 =>
 bif (eqB x1 a2) then
 some (a4, true)
 else
 z2x a0 a2 (addI .i64 a4 1)
 else
 bif (eqB a2 a0) then
 some (0, false)
 else
 chk (0 ≤ (addI .i64 a2 1)) <|
 some ((subI .i64 (shlI .i64 1 (addI .i64 a2 1)) 1), true)
 ) (z2x a0 a2 a4) :=
 q00 (T := tn) (o := ⟨[.lf (.i .i64), .lf .b],[]⟩) sigOk 100000 (b := q03 Tryz.f99 [1,1,1,0,1,0,0]) (by kernel_rfl) (by kernel_rfl)
theorem qkb (a0 : Int) (a3 : List Int) (a5 a7 : Int) (a9 : List Member) : Le (
 bif (ltB a7 a5) then
 nth a3 a7 fun y0 =>
 Option.bind (z42 (Config.mk a9) y0 a0) fun x1 =>
 bif (!x1) then
 some (y0, true)
 else
 z1n a0 a3 a5 (addI .i64 a7 1) a9
 else
 some (0, false)
 ) (z1n a0 a3 a5 a7 a9) :=
 q00 (T := tn) (o := ⟨[.lf (.i .i64), .lf .b],[]⟩) sigOk 100000 (b := q03 Tryz.f120 [1,0,1,0,0]) (by kernel_rfl) (by kernel_rfl)
end Go.Proofs.YtfjcndlhpfbcgaaGreat
