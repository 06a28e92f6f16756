/- What the functions come to, printed by a program and checked by the kernel. -/
import Derived.Test.YtjfhnffdijlboaaGreatP15Df
namespace Go.Proofs.YtjfhnffdijlboaaGreat
open Go Go.Ab
set_option maxRecDepth 100000
theorem qx4 (a0 a2 : List Int) (a4 a6 : Int) : Le (
 bif ltB a6 a4 then
 nth a0 a6 fun y0 =>
 nth a2 a6 fun y1 =>
 bif neB y0 y1 then
 some false
 else
 z4l a0 a2 a4 (addI .i64 a6 1)
 else
 some true
 ) (z4l a0 a2 a4 a6) :=
 gL o1' (q0a Tryz.f112 [1,1,0,1,0,0])
theorem y39 (a0 : Int) (a5 : List Int) (a7 a9 a11 : Int) (a13 : List Int) (a15 : List Trust) (a17 : Int) (a19 : List Int) (a21 : List Trust) (a23 : Int) (a25 : List Int) (a27 : List Trust) : Le (
 bif ltB a9 a7 then
 nth a5 a9 fun y0 =>
 Option.bind (z2y a0 y0) fun x1 =>
 bif x1 then
 Option.bind (z6q a23) fun x2 =>
 z4m a0 a5 a7 (addI .i64 a9 1) a11 a13 a15 a17 a19 a21 x2 a25 a27
 else
 capOk (List.length a25 + List.length ([y0] : List Int)) <|
 z4m a0 a5 a7 (addI .i64 a9 1) a11 a13 a15 a17 a19 a21 a23 (a25 ++ ([y0] : List Int)) a27
 else
 z3m a0 a15 (a15.length : Int) 0 a11 a13 a15 a17 a19 a21 a23 a25 a27
 ) (z4m a0 a5 a7 a9 a11 a13 a15 a17 a19 a21 a23 a25 a27) :=
 gL o6' (q0a Tryz.f117 [1,1,0,1,0,0])
theorem yab (n_0 : Int) : Le (
 bif leB n_0 0 then
 some n_0
 else
 some (subI .i64 n_0 1)
 ) (z6q n_0) :=
 cL o0' Tryz.func134
theorem y22 (a2 a4 a6 a8 : Int) (a10 a12 : List Member) : Le (
 Option.bind (z3g (Config.mk a10)) fun x0 =>
 bif leB a4 x0 then
 nth a12 a2 fun y1 =>
 Option.bind (z1w y1.Trust a4) fun x2 =>
 bif x2 then
 nth a10 a2 fun y3 =>
 Option.bind (z1w y3.Trust a4) fun x4 =>
 bif !x4 then
 some 14
 else
 z3y a2 (addI .i64 a4 1) a6 a8 a10 a12
 else
 z3y a2 (addI .i64 a4 1) a6 a8 a10 a12
 else
 z35 a6 (addI .i64 a8 1) a10 a12
 ) (z3y a2 a4 a6 a8 a10 a12) :=
 gL o0' (q0a Tryz.f83 [1,1,1,1,1,0,1,0,0,1,1,0,0,1,1,1,0,0])
theorem y77 (a1 a3 a5 : Int) (a8 a10 : Bool) (a12 : List Int) : Le (
 bif leB (subI .i64 a3 a1) 12 then
 Option.bind (z12 a1 a3 a12) fun x0 =>
 some x0
 else
 bif eqB a5 0 then
 Option.bind (z16 a1 a3 a12) fun x1 =>
 some x1
 else
 bif !a8 then
 Option.bind (z13 a1 a3 a12) fun x2 =>
 Option.bind (z0n a1 a3 x2) fun x3 =>
 bif eqB x3.2.1 2 then
 Option.bind (z0k a1 a3 x3.2.2) fun x4 =>
 bif a8 then
 bif a10 then
 Option.bind (z09 a1 a3 x4) fun x5 =>
 bif x5.1 then
 some x5.2
 else
 bif ltB 0 a1 then
 nth x5.2 (subI .i64 a1 1) fun _ =>
 nth x5.2 (subI .i64 (subI .i64 a3 1) (subI .i64 x3.1 a1)) fun _ =>
 nthN x5.2 (Int.toNat (subI .i64 a1 1)) fun y6 =>
 nthN x5.2 (Int.toNat (subI .i64 (subI .i64 a3 1) (subI .i64 x3.1 a1))) fun y7 =>
 Option.bind (z08 y6 y7) fun x8 =>
 bif !(ltB x8 0) then
 Option.bind (z04 a1 a3 (subI .i64 (subI .i64 a3 1) (subI .i64 x3.1 a1)) x5.2) fun x9 =>
 z00 x9.1 a3 (subI .i64 a5 1) a8 a10 x9.2
 else
 Option.bind (z02 a1 a3 (subI .i64 (subI .i64 a3 1) (subI .i64 x3.1 a1)) x5.2) fun x10 =>
 bif ltB (subI .i64 x10.1 a1) (subI .i64 a3 x10.1) then
 Option.bind (z01 a1 x10.1 (subI .i64 a5 1) x10.2.2) fun x11 =>
 z00 (addI .i64 x10.1 1) a3 (subI .i64 a5 1) (leB (quoI .i64 (subI .i64 a3 a1) 8) (subI .i64 x10.1 a1)) x10.2.1 x11
 else
 Option.bind (z01 (addI .i64 x10.1 1) a3 (subI .i64 a5 1) x10.2.2) fun x12 =>
 z00 a1 x10.1 (subI .i64 a5 1) (leB (quoI .i64 (subI .i64 a3 a1) 8) (subI .i64 a3 x10.1)) x10.2.1 x12
 else
 Option.bind (z02 a1 a3 (subI .i64 (subI .i64 a3 1) (subI .i64 x3.1 a1)) x5.2) fun x13 =>
 bif ltB (subI .i64 x13.1 a1) (subI .i64 a3 x13.1) then
 Option.bind (z01 a1 x13.1 (subI .i64 a5 1) x13.2.2) fun x14 =>
 z00 (addI .i64 x13.1 1) a3 (subI .i64 a5 1) (leB (quoI .i64 (subI .i64 a3 a1) 8) (subI .i64 x13.1 a1)) x13.2.1 x14
 else
 Option.bind (z01 (addI .i64 x13.1 1) a3 (subI .i64 a5 1) x13.2.2) fun x15 =>
 z00 a1 x13.1 (subI .i64 a5 1) (leB (quoI .i64 (subI .i64 a3 a1) 8) (subI .i64 a3 x13.1)) x13.2.1 x15
 else
 bif ltB 0 a1 then
 nth x4 (subI .i64 a1 1) fun _ =>
 nth x4 (subI .i64 (subI .i64 a3 1) (subI .i64 x3.1 a1)) fun _ =>
 nthN x4 (Int.toNat (subI .i64 a1 1)) fun y16 =>
 nthN x4 (Int.toNat (subI .i64 (subI .i64 a3 1) (subI .i64 x3.1 a1))) fun y17 =>
 Option.bind (z08 y16 y17) fun x18 =>
 bif !(ltB x18 0) then
 Option.bind (z04 a1 a3 (subI .i64 (subI .i64 a3 1) (subI .i64 x3.1 a1)) x4) fun x19 =>
 z00 x19.1 a3 (subI .i64 a5 1) a8 a10 x19.2
 else
 Option.bind (z02 a1 a3 (subI .i64 (subI .i64 a3 1) (subI .i64 x3.1 a1)) x4) fun x20 =>
 bif ltB (subI .i64 x20.1 a1) (subI .i64 a3 x20.1) then
 Option.bind (z01 a1 x20.1 (subI .i64 a5 1) x20.2.2) fun x21 =>
 z00 (addI .i64 x20.1 1) a3 (subI .i64 a5 1) (leB (quoI .i64 (subI .i64 a3 a1) 8) (subI .i64 x20.1 a1)) x20.2.1 x21
 else
 Option.bind (z01 (addI .i64 x20.1 1) a3 (subI .i64 a5 1) x20.2.2) fun x22 =>
 z00 a1 x20.1 (subI .i64 a5 1) (leB (quoI .i64 (subI .i64 a3 a1) 8) (subI .i64 a3 x20.1)) x20.2.1 x22
 else
 Option.bind (z02 a1 a3 (subI .i64 (subI .i64 a3 1) (subI .i64 x3.1 a1)) x4) fun x23 =>
 bif ltB (subI .i64 x23.1 a1) (subI .i64 a3 x23.1) then
 Option.bind (z01 a1 x23.1 (subI .i64 a5 1) x23.2.2) fun x24 =>
 z00 (addI .i64 x23.1 1) a3 (subI .i64 a5 1) (leB (quoI .i64 (subI .i64 a3 a1) 8) (subI .i64 x23.1 a1)) x23.2.1 x24
 else
 Option.bind (z01 (addI .i64 x23.1 1) a3 (subI .i64 a5 1) x23.2.2) fun x25 =>
 z00 a1 x23.1 (subI .i64 a5 1) (leB (quoI .i64 (subI .i64 a3 a1) 8) (subI .i64 a3 x23.1)) x23.2.1 x25
 else
 bif ltB 0 a1 then
 nth x4 (subI .i64 a1 1) fun _ =>
 nth x4 (subI .i64 (subI .i64 a3 1) (subI .i64 x3.1 a1)) fun _ =>
 nthN x4 (Int.toNat (subI .i64 a1 1)) fun y26 =>
 nthN x4 (Int.toNat (subI .i64 (subI .i64 a3 1) (subI .i64 x3.1 a1))) fun y27 =>
 Option.bind (z08 y26 y27) fun x28 =>
 bif !(ltB x28 0) then
 Option.bind (z04 a1 a3 (subI .i64 (subI .i64 a3 1) (subI .i64 x3.1 a1)) x4) fun x29 =>
 z00 x29.1 a3 (subI .i64 a5 1) a8 a10 x29.2
 else
 Option.bind (z02 a1 a3 (subI .i64 (subI .i64 a3 1) (subI .i64 x3.1 a1)) x4) fun x30 =>
 bif ltB (subI .i64 x30.1 a1) (subI .i64 a3 x30.1) then
 Option.bind (z01 a1 x30.1 (subI .i64 a5 1) x30.2.2) fun x31 =>
 z00 (addI .i64 x30.1 1) a3 (subI .i64 a5 1) (leB (quoI .i64 (subI .i64 a3 a1) 8) (subI .i64 x30.1 a1)) x30.2.1 x31
 else
 Option.bind (z01 (addI .i64 x30.1 1) a3 (subI .i64 a5 1) x30.2.2) fun x32 =>
 z00 a1 x30.1 (subI .i64 a5 1) (leB (quoI .i64 (subI .i64 a3 a1) 8) (subI .i64 a3 x30.1)) x30.2.1 x32
 else
 Option.bind (z02 a1 a3 (subI .i64 (subI .i64 a3 1) (subI .i64 x3.1 a1)) x4) fun x33 =>
 bif ltB (subI .i64 x33.1 a1) (subI .i64 a3 x33.1) then
 Option.bind (z01 a1 x33.1 (subI .i64 a5 1) x33.2.2) fun x34 =>
 z00 (addI .i64 x33.1 1) a3 (subI .i64 a5 1) (leB (quoI .i64 (subI .i64 a3 a1) 8) (subI .i64 x33.1 a1)) x33.2.1 x34
 else
 Option.bind (z01 (addI .i64 x33.1 1) a3 (subI .i64 a5 1) x33.2.2) fun x35 =>
 z00 a1 x33.1 (subI .i64 a5 1) (leB (quoI .i64 (subI .i64 a3 a1) 8) (subI .i64 a3 x33.1)) x33.2.1 x35
 else
 bif a8 then
 bif a10 then
 bif eqB x3.2.1 1 then
 Option.bind (z09 a1 a3 x3.2.2) fun x36 =>
 bif x36.1 then
 some x36.2
 else
 bif ltB 0 a1 then
 nth x36.2 (subI .i64 a1 1) fun _ =>
 nth x36.2 x3.1 fun _ =>
 nthN x36.2 (Int.toNat (subI .i64 a1 1)) fun y37 =>
 nthN x36.2 (Int.toNat x3.1) fun y38 =>
 Option.bind (z08 y37 y38) fun x39 =>
 bif !(ltB x39 0) then
 Option.bind (z04 a1 a3 x3.1 x36.2) fun x40 =>
 z00 x40.1 a3 (subI .i64 a5 1) a8 a10 x40.2
 else
 Option.bind (z02 a1 a3 x3.1 x36.2) fun x41 =>
 bif ltB (subI .i64 x41.1 a1) (subI .i64 a3 x41.1) then
 Option.bind (z01 a1 x41.1 (subI .i64 a5 1) x41.2.2) fun x42 =>
 z00 (addI .i64 x41.1 1) a3 (subI .i64 a5 1) (leB (quoI .i64 (subI .i64 a3 a1) 8) (subI .i64 x41.1 a1)) x41.2.1 x42
 else
 Option.bind (z01 (addI .i64 x41.1 1) a3 (subI .i64 a5 1) x41.2.2) fun x43 =>
 z00 a1 x41.1 (subI .i64 a5 1) (leB (quoI .i64 (subI .i64 a3 a1) 8) (subI .i64 a3 x41.1)) x41.2.1 x43
 else
 Option.bind (z02 a1 a3 x3.1 x36.2) fun x44 =>
 bif ltB (subI .i64 x44.1 a1) (subI .i64 a3 x44.1) then
 Option.bind (z01 a1 x44.1 (subI .i64 a5 1) x44.2.2) fun x45 =>
 z00 (addI .i64 x44.1 1) a3 (subI .i64 a5 1) (leB (quoI .i64 (subI .i64 a3 a1) 8) (subI .i64 x44.1 a1)) x44.2.1 x45
 else
 Option.bind (z01 (addI .i64 x44.1 1) a3 (subI .i64 a5 1) x44.2.2) fun x46 =>
 z00 a1 x44.1 (subI .i64 a5 1) (leB (quoI .i64 (subI .i64 a3 a1) 8) (subI .i64 a3 x44.1)) x44.2.1 x46
 else
 bif ltB 0 a1 then
 nth x3.2.2 (subI .i64 a1 1) fun _ =>
 nth x3.2.2 x3.1 fun _ =>
 nthN x3.2.2 (Int.toNat (subI .i64 a1 1)) fun y47 =>
 nthN x3.2.2 (Int.toNat x3.1) fun y48 =>
 Option.bind (z08 y47 y48) fun x49 =>
 bif !(ltB x49 0) then
 Option.bind (z04 a1 a3 x3.1 x3.2.2) fun x50 =>
 z00 x50.1 a3 (subI .i64 a5 1) a8 a10 x50.2
 else
 Option.bind (z02 a1 a3 x3.1 x3.2.2) fun x51 =>
 bif ltB (subI .i64 x51.1 a1) (subI .i64 a3 x51.1) then
 Option.bind (z01 a1 x51.1 (subI .i64 a5 1) x51.2.2) fun x52 =>
 z00 (addI .i64 x51.1 1) a3 (subI .i64 a5 1) (leB (quoI .i64 (subI .i64 a3 a1) 8) (subI .i64 x51.1 a1)) x51.2.1 x52
 else
 Option.bind (z01 (addI .i64 x51.1 1) a3 (subI .i64 a5 1) x51.2.2) fun x53 =>
 z00 a1 x51.1 (subI .i64 a5 1) (leB (quoI .i64 (subI .i64 a3 a1) 8) (subI .i64 a3 x51.1)) x51.2.1 x53
 else
 Option.bind (z02 a1 a3 x3.1 x3.2.2) fun x54 =>
 bif ltB (subI .i64 x54.1 a1) (subI .i64 a3 x54.1) then
 Option.bind (z01 a1 x54.1 (subI .i64 a5 1) x54.2.2) fun x55 =>
 z00 (addI .i64 x54.1 1) a3 (subI .i64 a5 1) (leB (quoI .i64 (subI .i64 a3 a1) 8) (subI .i64 x54.1 a1)) x54.2.1 x55
 else
 Option.bind (z01 (addI .i64 x54.1 1) a3 (subI .i64 a5 1) x54.2.2) fun x56 =>
 z00 a1 x54.1 (subI .i64 a5 1) (leB (quoI .i64 (subI .i64 a3 a1) 8) (subI .i64 a3 x54.1)) x54.2.1 x56
 else
 bif ltB 0 a1 then
 nth x3.2.2 (subI .i64 a1 1) fun _ =>
 nth x3.2.2 x3.1 fun _ =>
 nthN x3.2.2 (Int.toNat (subI .i64 a1 1)) fun y57 =>
 nthN x3.2.2 (Int.toNat x3.1) fun y58 =>
 Option.bind (z08 y57 y58) fun x59 =>
 bif !(ltB x59 0) then
 Option.bind (z04 a1 a3 x3.1 x3.2.2) fun x60 =>
 z00 x60.1 a3 (subI .i64 a5 1) a8 a10 x60.2
 else
 Option.bind (z02 a1 a3 x3.1 x3.2.2) fun x61 =>
 bif ltB (subI .i64 x61.1 a1) (subI .i64 a3 x61.1) then
 Option.bind (z01 a1 x61.1 (subI .i64 a5 1) x61.2.2) fun x62 =>
 z00 (addI .i64 x61.1 1) a3 (subI .i64 a5 1) (leB (quoI .i64 (subI .i64 a3 a1) 8) (subI .i64 x61.1 a1)) x61.2.1 x62
 else
 Option.bind (z01 (addI .i64 x61.1 1) a3 (subI .i64 a5 1) x61.2.2) fun x63 =>
 z00 a1 x61.1 (subI .i64 a5 1) (leB (quoI .i64 (subI .i64 a3 a1) 8) (subI .i64 a3 x61.1)) x61.2.1 x63
 else
 Option.bind (z02 a1 a3 x3.1 x3.2.2) fun x64 =>
 bif ltB (subI .i64 x64.1 a1) (subI .i64 a3 x64.1) then
 Option.bind (z01 a1 x64.1 (subI .i64 a5 1) x64.2.2) fun x65 =>
 z00 (addI .i64 x64.1 1) a3 (subI .i64 a5 1) (leB (quoI .i64 (subI .i64 a3 a1) 8) (subI .i64 x64.1 a1)) x64.2.1 x65
 else
 Option.bind (z01 (addI .i64 x64.1 1) a3 (subI .i64 a5 1) x64.2.2) fun x66 =>
 z00 a1 x64.1 (subI .i64 a5 1) (leB (quoI .i64 (subI .i64 a3 a1) 8) (subI .i64 a3 x64.1)) x64.2.1 x66
 else
 bif ltB 0 a1 then
 nth x3.2.2 (subI .i64 a1 1) fun _ =>
 nth x3.2.2 x3.1 fun _ =>
 nthN x3.2.2 (Int.toNat (subI .i64 a1 1)) fun y67 =>
 nthN x3.2.2 (Int.toNat x3.1) fun y68 =>
 Option.bind (z08 y67 y68) fun x69 =>
 bif !(ltB x69 0) then
 Option.bind (z04 a1 a3 x3.1 x3.2.2) fun x70 =>
 z00 x70.1 a3 (subI .i64 a5 1) a8 a10 x70.2
 else
 Option.bind (z02 a1 a3 x3.1 x3.2.2) fun x71 =>
 bif ltB (subI .i64 x71.1 a1) (subI .i64 a3 x71.1) then
 Option.bind (z01 a1 x71.1 (subI .i64 a5 1) x71.2.2) fun x72 =>
 z00 (addI .i64 x71.1 1) a3 (subI .i64 a5 1) (leB (quoI .i64 (subI .i64 a3 a1) 8) (subI .i64 x71.1 a1)) x71.2.1 x72
 else
 Option.bind (z01 (addI .i64 x71.1 1) a3 (subI .i64 a5 1) x71.2.2) fun x73 =>
 z00 a1 x71.1 (subI .i64 a5 1) (leB (quoI .i64 (subI .i64 a3 a1) 8) (subI .i64 a3 x71.1)) x71.2.1 x73
 else
 Option.bind (z02 a1 a3 x3.1 x3.2.2) fun x74 =>
 bif ltB (subI .i64 x74.1 a1) (subI .i64 a3 x74.1) then
 Option.bind (z01 a1 x74.1 (subI .i64 a5 1) x74.2.2) fun x75 =>
 z00 (addI .i64 x74.1 1) a3 (subI .i64 a5 1) (leB (quoI .i64 (subI .i64 a3 a1) 8) (subI .i64 x74.1 a1)) x74.2.1 x75
 else
 Option.bind (z01 (addI .i64 x74.1 1) a3 (subI .i64 a5 1) x74.2.2) fun x76 =>
 z00 a1 x74.1 (subI .i64 a5 1) (leB (quoI .i64 (subI .i64 a3 a1) 8) (subI .i64 a3 x74.1)) x74.2.1 x76
 else
 Option.bind (z0n a1 a3 a12) fun x77 =>
 bif eqB x77.2.1 2 then
 Option.bind (z0k a1 a3 x77.2.2) fun x78 =>
 bif a8 then
 bif a10 then
 Option.bind (z09 a1 a3 x78) fun x79 =>
 bif x79.1 then
 some x79.2
 else
 bif ltB 0 a1 then
 nth x79.2 (subI .i64 a1 1) fun _ =>
 nth x79.2 (subI .i64 (subI .i64 a3 1) (subI .i64 x77.1 a1)) fun _ =>
 nthN x79.2 (Int.toNat (subI .i64 a1 1)) fun y80 =>
 nthN x79.2 (Int.toNat (subI .i64 (subI .i64 a3 1) (subI .i64 x77.1 a1))) fun y81 =>
 Option.bind (z08 y80 y81) fun x82 =>
 bif !(ltB x82 0) then
 Option.bind (z04 a1 a3 (subI .i64 (subI .i64 a3 1) (subI .i64 x77.1 a1)) x79.2) fun x83 =>
 z00 x83.1 a3 a5 a8 a10 x83.2
 else
 Option.bind (z02 a1 a3 (subI .i64 (subI .i64 a3 1) (subI .i64 x77.1 a1)) x79.2) fun x84 =>
 bif ltB (subI .i64 x84.1 a1) (subI .i64 a3 x84.1) then
 Option.bind (z01 a1 x84.1 a5 x84.2.2) fun x85 =>
 z00 (addI .i64 x84.1 1) a3 a5 (leB (quoI .i64 (subI .i64 a3 a1) 8) (subI .i64 x84.1 a1)) x84.2.1 x85
 else
 Option.bind (z01 (addI .i64 x84.1 1) a3 a5 x84.2.2) fun x86 =>
 z00 a1 x84.1 a5 (leB (quoI .i64 (subI .i64 a3 a1) 8) (subI .i64 a3 x84.1)) x84.2.1 x86
 else
 Option.bind (z02 a1 a3 (subI .i64 (subI .i64 a3 1) (subI .i64 x77.1 a1)) x79.2) fun x87 =>
 bif ltB (subI .i64 x87.1 a1) (subI .i64 a3 x87.1) then
 Option.bind (z01 a1 x87.1 a5 x87.2.2) fun x88 =>
 z00 (addI .i64 x87.1 1) a3 a5 (leB (quoI .i64 (subI .i64 a3 a1) 8) (subI .i64 x87.1 a1)) x87.2.1 x88
 else
 Option.bind (z01 (addI .i64 x87.1 1) a3 a5 x87.2.2) fun x89 =>
 z00 a1 x87.1 a5 (leB (quoI .i64 (subI .i64 a3 a1) 8) (subI .i64 a3 x87.1)) x87.2.1 x89
 else
 bif ltB 0 a1 then
 nth x78 (subI .i64 a1 1) fun _ =>
 nth x78 (subI .i64 (subI .i64 a3 1) (subI .i64 x77.1 a1)) fun _ =>
 nthN x78 (Int.toNat (subI .i64 a1 1)) fun y90 =>
 nthN x78 (Int.toNat (subI .i64 (subI .i64 a3 1) (subI .i64 x77.1 a1))) fun y91 =>
 Option.bind (z08 y90 y91) fun x92 =>
 bif !(ltB x92 0) then
 Option.bind (z04 a1 a3 (subI .i64 (subI .i64 a3 1) (subI .i64 x77.1 a1)) x78) fun x93 =>
 z00 x93.1 a3 a5 a8 a10 x93.2
 else
 Option.bind (z02 a1 a3 (subI .i64 (subI .i64 a3 1) (subI .i64 x77.1 a1)) x78) fun x94 =>
 bif ltB (subI .i64 x94.1 a1) (subI .i64 a3 x94.1) then
 Option.bind (z01 a1 x94.1 a5 x94.2.2) fun x95 =>
 z00 (addI .i64 x94.1 1) a3 a5 (leB (quoI .i64 (subI .i64 a3 a1) 8) (subI .i64 x94.1 a1)) x94.2.1 x95
 else
 Option.bind (z01 (addI .i64 x94.1 1) a3 a5 x94.2.2) fun x96 =>
 z00 a1 x94.1 a5 (leB (quoI .i64 (subI .i64 a3 a1) 8) (subI .i64 a3 x94.1)) x94.2.1 x96
 else
 Option.bind (z02 a1 a3 (subI .i64 (subI .i64 a3 1) (subI .i64 x77.1 a1)) x78) fun x97 =>
 bif ltB (subI .i64 x97.1 a1) (subI .i64 a3 x97.1) then
 Option.bind (z01 a1 x97.1 a5 x97.2.2) fun x98 =>
 z00 (addI .i64 x97.1 1) a3 a5 (leB (quoI .i64 (subI .i64 a3 a1) 8) (subI .i64 x97.1 a1)) x97.2.1 x98
 else
 Option.bind (z01 (addI .i64 x97.1 1) a3 a5 x97.2.2) fun x99 =>
 z00 a1 x97.1 a5 (leB (quoI .i64 (subI .i64 a3 a1) 8) (subI .i64 a3 x97.1)) x97.2.1 x99
 else
 bif ltB 0 a1 then
 nth x78 (subI .i64 a1 1) fun _ =>
 nth x78 (subI .i64 (subI .i64 a3 1) (subI .i64 x77.1 a1)) fun _ =>
 nthN x78 (Int.toNat (subI .i64 a1 1)) fun y100 =>
 nthN x78 (Int.toNat (subI .i64 (subI .i64 a3 1) (subI .i64 x77.1 a1))) fun y101 =>
 Option.bind (z08 y100 y101) fun x102 =>
 bif !(ltB x102 0) then
 Option.bind (z04 a1 a3 (subI .i64 (subI .i64 a3 1) (subI .i64 x77.1 a1)) x78) fun x103 =>
 z00 x103.1 a3 a5 a8 a10 x103.2
 else
 Option.bind (z02 a1 a3 (subI .i64 (subI .i64 a3 1) (subI .i64 x77.1 a1)) x78) fun x104 =>
 bif ltB (subI .i64 x104.1 a1) (subI .i64 a3 x104.1) then
 Option.bind (z01 a1 x104.1 a5 x104.2.2) fun x105 =>
 z00 (addI .i64 x104.1 1) a3 a5 (leB (quoI .i64 (subI .i64 a3 a1) 8) (subI .i64 x104.1 a1)) x104.2.1 x105
 else
 Option.bind (z01 (addI .i64 x104.1 1) a3 a5 x104.2.2) fun x106 =>
 z00 a1 x104.1 a5 (leB (quoI .i64 (subI .i64 a3 a1) 8) (subI .i64 a3 x104.1)) x104.2.1 x106
 else
 Option.bind (z02 a1 a3 (subI .i64 (subI .i64 a3 1) (subI .i64 x77.1 a1)) x78) fun x107 =>
 bif ltB (subI .i64 x107.1 a1) (subI .i64 a3 x107.1) then
 Option.bind (z01 a1 x107.1 a5 x107.2.2) fun x108 =>
 z00 (addI .i64 x107.1 1) a3 a5 (leB (quoI .i64 (subI .i64 a3 a1) 8) (subI .i64 x107.1 a1)) x107.2.1 x108
 else
 Option.bind (z01 (addI .i64 x107.1 1) a3 a5 x107.2.2) fun x109 =>
 z00 a1 x107.1 a5 (leB (quoI .i64 (subI .i64 a3 a1) 8) (subI .i64 a3 x107.1)) x107.2.1 x109
 else
 bif a8 then
 bif a10 then
 bif eqB x77.2.1 1 then
 Option.bind (z09 a1 a3 x77.2.2) fun x110 =>
 bif x110.1 then
 some x110.2
 else
 bif ltB 0 a1 then
 nth x110.2 (subI .i64 a1 1) fun _ =>
 nth x110.2 x77.1 fun _ =>
 nthN x110.2 (Int.toNat (subI .i64 a1 1)) fun y111 =>
 nthN x110.2 (Int.toNat x77.1) fun y112 =>
 Option.bind (z08 y111 y112) fun x113 =>
 bif !(ltB x113 0) then
 Option.bind (z04 a1 a3 x77.1 x110.2) fun x114 =>
 z00 x114.1 a3 a5 a8 a10 x114.2
 else
 Option.bind (z02 a1 a3 x77.1 x110.2) fun x115 =>
 bif ltB (subI .i64 x115.1 a1) (subI .i64 a3 x115.1) then
 Option.bind (z01 a1 x115.1 a5 x115.2.2) fun x116 =>
 z00 (addI .i64 x115.1 1) a3 a5 (leB (quoI .i64 (subI .i64 a3 a1) 8) (subI .i64 x115.1 a1)) x115.2.1 x116
 else
 Option.bind (z01 (addI .i64 x115.1 1) a3 a5 x115.2.2) fun x117 =>
 z00 a1 x115.1 a5 (leB (quoI .i64 (subI .i64 a3 a1) 8) (subI .i64 a3 x115.1)) x115.2.1 x117
 else
 Option.bind (z02 a1 a3 x77.1 x110.2) fun x118 =>
 bif ltB (subI .i64 x118.1 a1) (subI .i64 a3 x118.1) then
 Option.bind (z01 a1 x118.1 a5 x118.2.2) fun x119 =>
 z00 (addI .i64 x118.1 1) a3 a5 (leB (quoI .i64 (subI .i64 a3 a1) 8) (subI .i64 x118.1 a1)) x118.2.1 x119
 else
 Option.bind (z01 (addI .i64 x118.1 1) a3 a5 x118.2.2) fun x120 =>
 z00 a1 x118.1 a5 (leB (quoI .i64 (subI .i64 a3 a1) 8) (subI .i64 a3 x118.1)) x118.2.1 x120
 else
 bif ltB 0 a1 then
 nth x77.2.2 (subI .i64 a1 1) fun _ =>
 nth x77.2.2 x77.1 fun _ =>
 nthN x77.2.2 (Int.toNat (subI .i64 a1 1)) fun y121 =>
 nthN x77.2.2 (Int.toNat x77.1) fun y122 =>
 Option.bind (z08 y121 y122) fun x123 =>
 bif !(ltB x123 0) then
 Option.bind (z04 a1 a3 x77.1 x77.2.2) fun x124 =>
 z00 x124.1 a3 a5 a8 a10 x124.2
 else
 Option.bind (z02 a1 a3 x77.1 x77.2.2) fun x125 =>
 bif ltB (subI .i64 x125.1 a1) (subI .i64 a3 x125.1) then
 Option.bind (z01 a1 x125.1 a5 x125.2.2) fun x126 =>
 z00 (addI .i64 x125.1 1) a3 a5 (leB (quoI .i64 (subI .i64 a3 a1) 8) (subI .i64 x125.1 a1)) x125.2.1 x126
 else
 Option.bind (z01 (addI .i64 x125.1 1) a3 a5 x125.2.2) fun x127 =>
 z00 a1 x125.1 a5 (leB (quoI .i64 (subI .i64 a3 a1) 8) (subI .i64 a3 x125.1)) x125.2.1 x127
 else
 Option.bind (z02 a1 a3 x77.1 x77.2.2) fun x128 =>
 bif ltB (subI .i64 x128.1 a1) (subI .i64 a3 x128.1) then
 Option.bind (z01 a1 x128.1 a5 x128.2.2) fun x129 =>
 z00 (addI .i64 x128.1 1) a3 a5 (leB (quoI .i64 (subI .i64 a3 a1) 8) (subI .i64 x128.1 a1)) x128.2.1 x129
 else
 Option.bind (z01 (addI .i64 x128.1 1) a3 a5 x128.2.2) fun x130 =>
 z00 a1 x128.1 a5 (leB (quoI .i64 (subI .i64 a3 a1) 8) (subI .i64 a3 x128.1)) x128.2.1 x130
 else
 bif ltB 0 a1 then
 nth x77.2.2 (subI .i64 a1 1) fun _ =>
 nth x77.2.2 x77.1 fun _ =>
 nthN x77.2.2 (Int.toNat (subI .i64 a1 1)) fun y131 =>
 nthN x77.2.2 (Int.toNat x77.1) fun y132 =>
 Option.bind (z08 y131 y132) fun x133 =>
 bif !(ltB x133 0) then
 Option.bind (z04 a1 a3 x77.1 x77.2.2) fun x134 =>
 z00 x134.1 a3 a5 a8 a10 x134.2
 else
 Option.bind (z02 a1 a3 x77.1 x77.2.2) fun x135 =>
 bif ltB (subI .i64 x135.1 a1) (subI .i64 a3 x135.1) then
 Option.bind (z01 a1 x135.1 a5 x135.2.2) fun x136 =>
 z00 (addI .i64 x135.1 1) a3 a5 (leB (quoI .i64 (subI .i64 a3 a1) 8) (subI .i64 x135.1 a1)) x135.2.1 x136
 else
 Option.bind (z01 (addI .i64 x135.1 1) a3 a5 x135.2.2) fun x137 =>
 z00 a1 x135.1 a5 (leB (quoI .i64 (subI .i64 a3 a1) 8) (subI .i64 a3 x135.1)) x135.2.1 x137
 else
 Option.bind (z02 a1 a3 x77.1 x77.2.2) fun x138 =>
 bif ltB (subI .i64 x138.1 a1) (subI .i64 a3 x138.1) then
 Option.bind (z01 a1 x138.1 a5 x138.2.2) fun x139 =>
 z00 (addI .i64 x138.1 1) a3 a5 (leB (quoI .i64 (subI .i64 a3 a1) 8) (subI .i64 x138.1 a1)) x138.2.1 x139
 else
 Option.bind (z01 (addI .i64 x138.1 1) a3 a5 x138.2.2) fun x140 =>
 z00 a1 x138.1 a5 (leB (quoI .i64 (subI .i64 a3 a1) 8) (subI .i64 a3 x138.1)) x138.2.1 x140
 else
 bif ltB 0 a1 then
 nth x77.2.2 (subI .i64 a1 1) fun _ =>
 nth x77.2.2 x77.1 fun _ =>
 nthN x77.2.2 (Int.toNat (subI .i64 a1 1)) fun y141 =>
 nthN x77.2.2 (Int.toNat x77.1) fun y142 =>
 Option.bind (z08 y141 y142) fun x143 =>
 bif !(ltB x143 0) then
 Option.bind (z04 a1 a3 x77.1 x77.2.2) fun x144 =>
 z00 x144.1 a3 a5 a8 a10 x144.2
 else
 Option.bind (z02 a1 a3 x77.1 x77.2.2) fun x145 =>
 bif ltB (subI .i64 x145.1 a1) (subI .i64 a3 x145.1) then
 Option.bind (z01 a1 x145.1 a5 x145.2.2) fun x146 =>
 z00 (addI .i64 x145.1 1) a3 a5 (leB (quoI .i64 (subI .i64 a3 a1) 8) (subI .i64 x145.1 a1)) x145.2.1 x146
 else
 Option.bind (z01 (addI .i64 x145.1 1) a3 a5 x145.2.2) fun x147 =>
 z00 a1 x145.1 a5 (leB (quoI .i64 (subI .i64 a3 a1) 8) (subI .i64 a3 x145.1)) x145.2.1 x147
 else
 Option.bind (z02 a1 a3 x77.1 x77.2.2) fun x148 =>
 bif ltB (subI .i64 x148.1 a1) (subI .i64 a3 x148.1) then
 Option.bind (z01 a1 x148.1 a5 x148.2.2) fun x149 =>
 z00 (addI .i64 x148.1 1) a3 a5 (leB (quoI .i64 (subI .i64 a3 a1) 8) (subI .i64 x148.1 a1)) x148.2.1 x149
 else
 Option.bind (z01 (addI .i64 x148.1 1) a3 a5 x148.2.2) fun x150 =>
 z00 a1 x148.1 a5 (leB (quoI .i64 (subI .i64 a3 a1) 8) (subI .i64 a3 x148.1)) x148.2.1 x150
 ) (z00 a1 a3 a5 a8 a10 a12) :=
 gL o3' (q0a Tryz.f141 [1,1,0,0])
theorem y9d (a_1 b_2 : Int) (h0 : List Int) : Le (
 z0d a_1 b_2 (addI .i64 a_1 1) h0
 ) (z12 a_1 b_2 h0) :=
 cL o3' Tryz.func153
theorem y8x (a_1 b_2 : Int) (h0 : List Int) : Le (
 z0o a_1 0 (subI .i64 b_2 a_1) (quoI .i64 (subI .i64 (subI .i64 b_2 a_1) 1) 2) h0
 ) (z16 a_1 b_2 h0) :=
 cL o3' Tryz.func154
theorem y6j (a_1 b_2 : Int) (h0 : List Int) : Le (
 bif leB 8 (subI .i64 b_2 a_1) then
 Option.bind (z3z (subI .i64 b_2 a_1)) fun x0 =>
 z0b a_1 (subI .i64 b_2 a_1) x0 (subI .i64 (addI .i64 a_1 (mulI .i64 (quoI .i64 (subI .i64 b_2 a_1) 4) 2)) 1) h0 (IntKind.wrap .u64 (subI .i64 b_2 a_1))
 else
 some h0
 ) (z13 a_1 b_2 h0) :=
 cL o3' Tryz.func155
theorem yav (a_1 b_2 : Int) (h0 : List Int) : Le (
 bif leB 8 (subI .i64 b_2 a_1) then
 bif leB 50 (subI .i64 b_2 a_1) then
 Option.bind (z0i (addI .i64 a_1 (mulI .i64 (quoI .i64 (subI .i64 b_2 a_1) 4) 1)) h0 0) fun x0 =>
 Option.bind (z0i (addI .i64 a_1 (mulI .i64 (quoI .i64 (subI .i64 b_2 a_1) 4) 2)) x0.2.1 x0.2.2) fun x1 =>
 Option.bind (z0i (addI .i64 a_1 (mulI .i64 (quoI .i64 (subI .i64 b_2 a_1) 4) 3)) x1.2.1 x1.2.2) fun x2 =>
 Option.bind (z0u x0.1 x1.1 x2.1 x2.2.1 x2.2.2) fun x3 =>
 bif eqB x3.2.2 0 then
 some (x3.1, 1, x3.2.1)
 else
 bif eqB x3.2.2 12 then
 some (x3.1, 2, x3.2.1)
 else
 some (x3.1, 0, x3.2.1)
 else
 Option.bind (z0u (addI .i64 a_1 (mulI .i64 (quoI .i64 (subI .i64 b_2 a_1) 4) 1)) (addI .i64 a_1 (mulI .i64 (quoI .i64 (subI .i64 b_2 a_1) 4) 2)) (addI .i64 a_1 (mulI .i64 (quoI .i64 (subI .i64 b_2 a_1) 4) 3)) h0 0) fun x4 =>
 bif eqB x4.2.2 0 then
 some (x4.1, 1, x4.2.1)
 else
 bif eqB x4.2.2 12 then
 some (x4.1, 2, x4.2.1)
 else
 some (x4.1, 0, x4.2.1)
 else
 some ((addI .i64 a_1 (mulI .i64 (quoI .i64 (subI .i64 b_2 a_1) 4) 2)), 1, h0)
 ) (z0n a_1 b_2 h0) :=
 cL o29' Tryz.func156
theorem y5w (a_1 b_2 : Int) (h0 : List Int) : Le (
 z0s a_1 (subI .i64 b_2 1) h0
 ) (z0k a_1 b_2 h0) :=
 cL o3' Tryz.func157
theorem y6t (a_1 b_2 : Int) (h0 : List Int) : Le (
 z03 a_1 b_2 (addI .i64 a_1 1) 0 h0
 ) (z09 a_1 b_2 h0) :=
 cL o11' Tryz.func158
theorem y9y (a_0 b_1 : Int) : Le (
 Option.bind (z6g a_0) fun x0 =>
 Option.bind (z6g b_1) fun x1 =>
 Option.bind (z4s x0 x1) fun x2 =>
 Option.bind (z4s a_0 b_1) fun x3 =>
 Option.bind (z77 ([x2, x3] : List Int)) fun x4 =>
 some x4
 ) (z08 a_0 b_1) :=
 cL o0' Tryz.func125
theorem y74 (a_1 b_2 pivot_3 : Int) (h0 : List Int) : Le (
 nth h0 pivot_3 fun _ =>
 nth h0 a_1 fun _ =>
 nthN h0 (Int.toNat pivot_3) fun y0 =>
 nthN h0 (Int.toNat a_1) fun y1 =>
 nth h0 a_1 fun _ =>
 nthN h0 (Int.toNat a_1) fun _y2 =>
 nth (List.set h0 (Int.toNat a_1) y0) pivot_3 fun _ =>
 nthN (List.set h0 (Int.toNat a_1) y0) (Int.toNat pivot_3) fun _y3 =>
 z0a a_1 (addI .i64 a_1 1) (subI .i64 b_2 1) (List.set (List.set h0 (Int.toNat a_1) y0) (Int.toNat pivot_3) y1)
 ) (z04 a_1 b_2 pivot_3 h0) :=
 cL o15' Tryz.func159
theorem y9c (a_1 b_2 pivot_3 : Int) (h0 : List Int) : Le (
 nth h0 pivot_3 fun _ =>
 nth h0 a_1 fun _ =>
 nthN h0 (Int.toNat pivot_3) fun y0 =>
 nthN h0 (Int.toNat a_1) fun y1 =>
 nth h0 a_1 fun _ =>
 nthN h0 (Int.toNat a_1) fun _y2 =>
 nth (List.set h0 (Int.toNat a_1) y0) pivot_3 fun _ =>
 nthN (List.set h0 (Int.toNat a_1) y0) (Int.toNat pivot_3) fun _y3 =>
 z0w a_1 (addI .i64 a_1 1) (subI .i64 b_2 1) (List.set (List.set h0 (Int.toNat a_1) y0) (Int.toNat pivot_3) y1)
 ) (z02 a_1 b_2 pivot_3 h0) :=
 cL o8' Tryz.func160
theorem y7j (length_0 : Int) : Le (
 Option.bind (z7g (IntKind.wrap .u64 length_0)) fun x0 =>
 chk (0 <= x0) <|
 some (shlI .u64 1 x0)
 ) (z3z length_0) :=
 cL ⟨[.lf (.i .u64)],[]⟩ Tryz.func170
theorem yap (a_1 : Int) (h0 : List Int) (h1 : Int) : Le (
 Option.bind (z0u (subI .i64 a_1 1) a_1 (addI .i64 a_1 1) h0 h1) fun x0 =>
 some (x0.1, x0.2.1, x0.2.2)
 ) (z0i a_1 h0 h1) :=
 cL o25' Tryz.func172
theorem yag (a_1 b_2 c_3 : Int) (h0 : List Int) (h1 : Int) : Le (
 Option.bind (z0v a_1 b_2 h0 h1) fun x0 =>
 Option.bind (z0v x0.2.1 c_3 x0.2.2.1 x0.2.2.2) fun x1 =>
 Option.bind (z0v x0.1 x1.1 x1.2.2.1 x1.2.2.2) fun x2 =>
 some (x2.2.1, x2.2.2.1, x2.2.2.2)
 ) (z0u a_1 b_2 c_3 h0 h1) :=
 cL o25' Tryz.func173
theorem y8z (s_0 : Int) : Le (
 Option.bind (z1j s_0) fun x0 =>
 bif !x0 then
 some (-1)
 else
 Option.bind (z5z s_0) fun x1 =>
 some x1
 ) (z6g s_0) :=
 cL o0' Tryz.func145
theorem yak (x_0 y_1 : Int) : Le (
 Option.bind (z5u x_0) fun x0 =>
 Option.bind (z5u y_1) fun x1 =>
 bif x0 then
 bif x1 then
 some 0
 else
 some (-1)
 else
 bif x1 then
 some 1
 else
 bif ltB x_0 y_1 then
 some (-1)
 else
 bif ltB y_1 x_0 then
 some 1
 else
 some 0
 ) (z4s x_0 y_1) :=
 cL o0' Tryz.func144
theorem y8o (vals_0 : List Int) : Le (
 z4v 0 vals_0 (vals_0.length : Int) 0
 ) (z77 vals_0) :=
 cL o0' Tryz.func143
theorem yaw (a_1 b_2 : Int) (h0 : List Int) (h1 : Int) : Le (
 nth h0 b_2 fun _ =>
 nth h0 a_1 fun _ =>
 nthN h0 (Int.toNat b_2) fun y0 =>
 nthN h0 (Int.toNat a_1) fun y1 =>
 Option.bind (z08 y0 y1) fun x2 =>
 bif ltB x2 0 then
 some (b_2, a_1, h0, (addI .i64 h1 1))
 else
 some (a_1, b_2, h0, h1)
 ) (z0v a_1 b_2 h0 h1) :=
 cL o30' Tryz.func175
theorem y8h (x_0 : Int) : Le (
 some (neB x_0 x_0)
 ) (z5u x_0) :=
 cL o1' Tryz.func163
theorem y23 (a2 : List Trust) (a4 a6 a8 : Int) (a10 : List Int) (a12 : List Trust) (a14 : Int) (a16 : List Int) (a18 : List Trust) (a20 : Int) (a22 : List Int) (a24 : List Trust) : Le (
 bif ltB a6 a4 then
 nth a2 a6 fun y0 =>
 Option.bind (z45 y0) fun x1 =>
 capOk (List.length a24 + List.length ([(Trust.mk x1.Threshold x1.Nodes x1.Inner)] : List Trust)) <|
 z31 a2 a4 (addI .i64 a6 1) a8 a10 a12 a14 a16 a18 a20 a22 (a24 ++ ([(Trust.mk x1.Threshold x1.Nodes x1.Inner)] : List Trust))
 else
 some (Trust.mk a20 a22 a24)
 ) (z31 a2 a4 a6 a8 a10 a12 a14 a16 a18 a20 a22 a24) :=
 gL o6' (q0a Tryz.f97 [1,1,0,1,0,0])
theorem y2s (a0 : Int) (a5 : List Int) (a7 a9 a11 : Int) (a13 : List Int) (a15 : List Trust) (a17 : Int) (a19 : List Int) (a21 : List Trust) (a23 : Int) (a25 : List Int) (a27 : List Trust) : Le (
 bif ltB a9 a7 then
 nth a5 a9 fun y0 =>
 Option.bind (z24 a0 y0) fun x1 =>
 bif x1 then
 Option.bind (z4t a23 1) fun x2 =>
 z2p a0 a5 a7 (addI .i64 a9 1) a11 a13 a15 a17 a19 a21 x2 a25 a27
 else
 capOk (List.length a25 + List.length ([y0] : List Int)) <|
 z2p a0 a5 a7 (addI .i64 a9 1) a11 a13 a15 a17 a19 a21 a23 (a25 ++ ([y0] : List Int)) a27
 else
 z27 a0 a15 (a15.length : Int) 0 a11 a13 a15 a17 a19 a21 a23 a25 a27
 ) (z2p a0 a5 a7 a9 a11 a13 a15 a17 a19 a21 a23 a25 a27) :=
 gL o6' (q0a Tryz.f123 [1,1,0,1,0,0])
theorem yb0 (threshold_0 by_1 : Int) : Le (
 some (subI .i64 (if by_1 > threshold_0 then by_1 else threshold_0) by_1)
 ) (z4t threshold_0 by_1) :=
 cL o0' Tryz.func140
theorem y1y (a0 : Int) (a2 : List Trust) (a4 a6 a8 : Int) (a10 : List Int) (a12 : List Trust) : Le (
 bif ltB a6 a4 then
 nth a2 a6 fun y0 =>
 Option.bind (z53 y0) fun x1 =>
 z32 (if x1 > a0 then x1 else a0) a2 a4 (addI .i64 a6 1) a8 a10 a12
 else
 some (addI .i64 a0 1)
 ) (z32 a0 a2 a4 a6 a8 a10 a12) :=
 gL o0' (q0a Tryz.f148 [1,1,0,1,0,0])
theorem y1q (a0 : Int) (a2 : List Trust) (a4 a6 a8 : Int) (a10 : List Int) (a12 : List Trust) : Le (
 bif ltB a6 a4 then
 nth a2 a6 fun y0 =>
 Option.bind (z5r y0) fun x1 =>
 z3a (addI .i64 a0 x1) a2 a4 (addI .i64 a6 1) a8 a10 a12
 else
 some a0
 ) (z3a a0 a2 a4 a6 a8 a10 a12) :=
 gL o0' (q0a Tryz.f149 [1,1,0,1,0,0])
theorem y2e (a0 : List Trust) (a2 a4 a6 : Int) (a8 : List Int) (a10 : List Trust) : Le (
 bif ltB a4 a2 then
 nth a0 a4 fun y0 =>
 Option.bind (z54 y0) fun x1 =>
 bif neB x1 0 then
 some x1
 else
 z33 a0 a2 (addI .i64 a4 1) a6 a8 a10
 else
 some 0
 ) (z33 a0 a2 a4 a6 a8 a10) :=
 gL o0' (q0a Tryz.f150 [1,1,1,1,0,1,0,0])
theorem y25 (a0 a3 : Int) (a5 : List Int) (a7 a9 a11 : Int) (a13 : List Int) (a15 : List Trust) : Le (
 bif ltB a9 a7 then
 nth a5 a9 fun y0 =>
 Option.bind (z24 a0 y0) fun x1 =>
 bif x1 then
 z1m a0 (addI .i64 a3 1) a5 a7 (addI .i64 a9 1) a11 a13 a15
 else
 z1m a0 a3 a5 a7 (addI .i64 a9 1) a11 a13 a15
 else
 z1e a0 a3 a15 (a15.length : Int) 0 a11 a13 a15
 ) (z1m a0 a3 a5 a7 a9 a11 a13 a15) :=
 gL o1' (q0a Tryz.f93 [1,1,1,0,1,0,0])
theorem qq1 (a0 : Int) (a2 : List Int) (a4 a6 : Int) : Le (
 bif ltB a6 a4 then
 nth a2 a6 fun y0 =>
 bif ltB y0 0 then
 some (0, 5)
 else
 bif leB 10 y0 then
 some (0, 5)
 else
 Option.bind (z24 a0 y0) fun x1 =>
 bif x1 then
 some (0, 6)
 else
 chk (0 <= y0) <|
 z3l (orI .i64 a0 (shlI .i64 1 y0)) a2 a4 (addI .i64 a6 1)
 else
 some (a0, 0)
 ) (z3l a0 a2 a4 a6) :=
 gL o5' (q0a Tryz.f166 [1,1,0,1,0,0])
theorem qv5 (a0 : List Int) (a3 a5 : Int) : Le (
 bif ltB a5 a3 then
 nth a0 a5 fun y0 =>
 Option.bind (z5f y0) fun x1 =>
 bif x1 then
 some a5
 else
 z0e a0 a3 (addI .i64 a5 1)
 else
 some (-1)
 ) (z0e a0 a3 a5) :=
 gL o0' (q0a Tryz.f174 [1,0,1,0,0])
theorem y5y (k_0 : Int) : Le (
 Option.bind (z5v k_0) fun x0 =>
 some (!x0)
 ) (z5f k_0) :=
 cL o1' Tryz.func165
theorem yar (k_0 : Int) : Le (
 bif leB 0 k_0 then
 some (ltB k_0 10)
 else
 some false
 ) (z5v k_0) :=
 cL o1' Tryz.func151
theorem y1g (a1 : Int) (a3 : List Int) (a5 a7 a9 : Int) (a11 : List Int) (a13 : List Trust) : Le (
 bif ltB a7 a5 then
 nth a3 a7 fun y0 =>
 Option.bind (z5v y0) fun x1 =>
 bif x1 then
 chk (0 <= y0) <|
 z2q (orI .i64 a1 (shlI .i64 1 y0)) a3 a5 (addI .i64 a7 1) a9 a11 a13
 else
 z2q a1 a3 a5 (addI .i64 a7 1) a9 a11 a13
 else
 z2r a1 a13 (a13.length : Int) 0 a9 a11 a13
 ) (z2q a1 a3 a5 a7 a9 a11 a13) :=
 gL o0' (q0a Tryz.f137 [1,1,0,1,0,0])
theorem qrp (a0 a2 a4 : Int) : Le (
 Option.bind (z2l a4 a0) fun x0 =>
 bif x0 then
 Option.bind (z5z a4) fun x1 =>
 bif eqB x1 a2 then
 some (a4, true)
 else
 z2v a0 a2 (addI .i64 a4 1)
 else
 bif eqB a2 a0 then
 some (0, false)
 else
 chk (0 <= (addI .i64 a2 1)) <|
 some ((subI .i64 (shlI .i64 1 (addI .i64 a2 1)) 1), true)
 ) (z2v a0 a2 a4) :=
 gL o18' (q0a Tryz.f120 [1,1,1,0,1,0,0])
theorem y0t (a0 : Int) (a3 : List Int) (a5 : List Member) : Le (
 Option.bind (z3c (Config.mk a5) a0) fun x0 =>
 bif !x0.2 then
 some (a0, a3)
 else
 capOk (List.length a3 + List.length ([x0.1] : List Int)) <|
 chk (0 <= x0.1) <|
 z2i (q1w .i64 a0 (shlI .i64 1 x0.1)) (a3 ++ ([x0.1] : List Int)) a5
 ) (z2i a0 a3 a5) :=
 gL o24' (q0a Tryz.f139 [1,1,1,1,0,0])
theorem y1w (a0 a2 a8 a10 : Int) (a12 : List Arr2_Config) (a14 a16 : Int) (a18 : List Explanation) (a20 a22 : Int) (a24 a26 : List Member) (a28 a30 a32 a34 : Int) (a36 : List Refutation) (a38 : List Int) (a40 : Int) (a42 a44 a46 a48 : List Member) (a50 a52 a54 a56 : Int) (a58 : List Refutation) (a60 a62 a64 a66 : Int) (a68 : List Refutation) (a70 a72 a74 a76 : Int) (a78 : List Refutation) : Le (
 bif ltB a22 a20 then
 nth a18 a22 fun y0 =>
 Option.bind (z6u (Config.mk a46) (Config.mk a48) a8 a10 y0) fun x1 =>
 Option.bind (z75 (Config.mk a46) (Config.mk a48) a8 a10 y0) fun x2 =>
 bif !(x1 == x2) then
 some false
 else
 z1n a0 a2 a8 a10 a12 a14 a16 a18 a20 (addI .i64 a22 1) a24 a26 a28 a30 a32 a34 a36 a38 a40 a42 a44 a46 a48 a50 a52 a54 a56 a58 a60 a62 a64 a66 a68 a70 a72 a74 a76 a78
 else
 z17 a0 a2 a12 a14 (addI .i64 a16 1) a24 a26 a28 a30 a32 a34 a36 a38 a40 a42 a44
 ) (z1n a0 a2 a8 a10 a12 a14 a16 a18 a20 a22 a24 a26 a28 a30 a32 a34 a36 a38 a40 a42 a44 a46 a48 a50 a52 a54 a56 a58 a60 a62 a64 a66 a68 a70 a72 a74 a76 a78) :=
 gL o1' (q0a Tryz.f8 [1,1,1,1,0,1,0,0,1,1,0,0,1,1,1,1,1,1,1,1,1,1,1,0,0])
theorem y0z (a0 : Int) (a2 : List Int) (a4 a6 : Int) (a8 a10 : List Member) : Le (
 bif ltB a6 a4 then
 nth a2 a6 fun y0 =>
 z3b (andI .i64 a0 y0) a2 a4 (addI .i64 a6 1) a8 a10
 else
 some (a0, 0)
 ) (z3b a0 a2 a4 a6 a8 a10) :=
 gL o5' (q0a Tryz.f31 [1,1,1,1,1,0,1,0,0])
theorem y3u (a0 a3 : Int) (a5 : List Int) (a7 a9 : Int) (a11 a13 : List Member) : Le (
 bif ltB a9 a7 then
 nth a5 a9 fun y0 =>
 Option.bind (z68 (Config.mk a11) y0 (andI .i64 a0 a3)) fun x1 =>
 bif x1 then
 some (y0, true, 0)
 else
 z3r a0 a3 a5 a7 (addI .i64 a9 1) a11 a13
 else
 some ((-1), false, 0)
 ) (z3r a0 a3 a5 a7 a9 a11 a13) :=
 gL o10' (q0a Tryz.f32 [1,1,1,1,0,1,0,0])
theorem y3c (a4 : List Int) (a6 a8 : Int) (a10 a12 : List Member) (a14 a16 a18 a20 : Int) (a22 : List Refutation) (a24 a26 a28 a30 : Int) (a32 : List Refutation) : Le (
 bif ltB a8 a6 then
 nth a4 a8 fun y0 =>
 Option.bind (z6x (Config.mk a10) (Config.mk a12) y0) fun x1 =>
 capOk (List.length a32 + List.length ([(Refutation.mk x1.1.Node x1.1.A x1.1.B)] : List Refutation)) <|
 z3s a4 a6 (addI .i64 a8 1) a10 a12 a14 a16 a18 a20 a22 a24 a26 a28 a30 (a32 ++ ([(Refutation.mk x1.1.Node x1.1.A x1.1.B)] : List Refutation))
 else
 some ((Explanation.mk a24 a26 a28 a30 a32), 0)
 ) (z3s a4 a6 a8 a10 a12 a14 a16 a18 a20 a22 a24 a26 a28 a30 a32) :=
 gL o17' (q0a Tryz.f33 [1,1,1,1,1,1,1,1,0,1,0,0])
end Go.Proofs.YtjfhnffdijlboaaGreat
