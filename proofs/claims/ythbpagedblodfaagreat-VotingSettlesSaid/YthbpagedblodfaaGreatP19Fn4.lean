/- What the functions come to, printed by a program and checked by the kernel. -/
import Derived.Test.YthbpagedblodfaaGreatP19Df
namespace Go.Proofs.YthbpagedblodfaaGreat
open Go Go.Ab
set_option maxRecDepth 100000
theorem y5y (c_0 : Config) : Le (
 z1l 0 c_0.Members (c_0.Members.length : Int) 0 c_0.Members
 ) (z2o c_0) :=
 cL o1' Tryz.func166
theorem y5h (t_0 : Trust) (s_1 : Int) : Le (
 Option.bind (z2c s_1) fun x0 =>
 bif !x0 then
 some false
 else
 z1y s_1 0 t_0.Nodes (t_0.Nodes.length : Int) 0 t_0.Threshold t_0.Nodes t_0.Inner
 ) (z2r t_0 s_1) :=
 cL o0' Tryz.func167
theorem y5w (c_0 : Config) (s_1 : Int) : Le (
 Option.bind (z2c s_1) fun x0 =>
 bif !x0 then
 some (0, ([] : List Int))
 else
 Option.bind (z2o c_0) fun x1 =>
 z2k (andI .i64 s_1 x1) ([] : List Int) c_0.Members
 ) (z4r c_0 s_1) :=
 cL o26' Tryz.func154
theorem y0k (a0 a2 : List Int) (a4 a6 : Int) : Le (
 bif ltB a6 a4 then
 nth a0 a6 fun y0 =>
 nth a2 a6 fun y1 =>
 bif neB y0 y1 then
 some false
 else
 z1w a0 a2 a4 (addI .i64 a6 1)
 else
 some true
 ) (z1w a0 a2 a4 a6) :=
 gL o0' (q08 Tryz.f113 [1,1,0,1,0,0])
theorem y00 (a0 a3 : List Trust) (a5 a7 : Int) : Le (
 bif ltB a7 a5 then
 nth a3 a7 fun y0 =>
 nth a0 a7 fun y1 =>
 Option.bind (z3i y0 y1) fun x2 =>
 bif !x2 then
 some false
 else
 z0h a0 a3 a5 (addI .i64 a7 1)
 else
 some true
 ) (z0h a0 a3 a5 a7) :=
 gL o0' (q08 Tryz.f114 [1,1,0,1,0,0])
theorem qts (a0 : List Int) (a3 a5 : Int) : Le (
 bif ltB a5 a3 then
 nth a0 a5 fun y0 =>
 Option.bind (z4s y0) fun x1 =>
 bif x1 then
 some a5
 else
 z0k a0 a3 (addI .i64 a5 1)
 else
 some (-1)
 ) (z0k a0 a3 a5) :=
 gL o1' (q08 Tryz.f134 [1,0,1,0,0])
theorem y7c (k_0 : Int) : Le (
 Option.bind (z5u k_0) fun x0 =>
 some (!x0)
 ) (z4s k_0) :=
 cL o0' Tryz.func119
theorem y7h (k_0 : Int) : Le (
 bif leB 0 k_0 then
 some (ltB k_0 10)
 else
 some false
 ) (z5u k_0) :=
 cL o0' Tryz.func120
theorem y0l (a0 : List Claim) (a2 : List Message) (a4 a6 : Int) : Le (
 bif ltB a6 a4 then
 nth a2 a6 fun y0 =>
 capOk (List.length a0 + List.length y0.Votes) <|
 capOk (List.length (a0 ++ y0.Votes) + List.length y0.Accepts) <|
 z3u ((a0 ++ y0.Votes) ++ y0.Accepts) a2 a4 (addI .i64 a6 1)
 else
 Option.bind (z5e a0) fun x1 =>
 some x1
 ) (z3u a0 a2 a4 a6) :=
 gL o3' (q08 Tryz.f142 [1,1,0,1,0,0])
theorem y0d (a2 a4 : Int) (a6 : List Claim) : Le (
 bif ltB a4 a2 then
 nth a6 a4 fun _ =>
 nthN a6 (Int.toNat a4) fun y0 =>
 Option.bind (z5j y0) fun x1 =>
 bif x1 then
 some (a4, a6)
 else
 z0x a2 (addI .i64 a4 1) a6
 else
 some ((-1), a6)
 ) (z0x a2 a4 a6) :=
 gL o6' (q08 Tryz.f100 [1,0,1,0,0])
theorem y85 (x_0 : Claim) : Le (
 Option.bind (z5b x_0) fun x0 =>
 some (!x0)
 ) (z5j x_0) :=
 cL o0' Tryz.func137
theorem y6k (a1 a3 a5 : Int) (a8 a10 : Bool) (a12 : List Claim) : Le (
 bif leB (subI .i64 a3 a1) 12 then
 Option.bind (z19 a1 a3 a12) fun x0 =>
 some x0
 else
 bif eqB a5 0 then
 Option.bind (z1f a1 a3 a12) fun x1 =>
 some x1
 else
 bif !a8 then
 Option.bind (z1a a1 a3 a12) fun x2 =>
 Option.bind (z0o a1 a3 x2) fun x3 =>
 bif eqB x3.2.1 2 then
 Option.bind (z0l a1 a3 x3.2.2) fun x4 =>
 bif a8 then
 bif a10 then
 Option.bind (z08 a1 a3 x4) fun x5 =>
 bif x5.1 then
 some x5.2
 else
 bif ltB 0 a1 then
 nth x5.2 (subI .i64 a1 1) fun _ =>
 nth x5.2 (subI .i64 (subI .i64 a3 1) (subI .i64 x3.1 a1)) fun _ =>
 nthN x5.2 (Int.toNat (subI .i64 a1 1)) fun y6 =>
 nthN x5.2 (Int.toNat (subI .i64 (subI .i64 a3 1) (subI .i64 x3.1 a1))) fun y7 =>
 Option.bind (z09 y6 y7) fun x8 =>
 bif !(ltB x8 0) then
 Option.bind (z04 a1 a3 (subI .i64 (subI .i64 a3 1) (subI .i64 x3.1 a1)) x5.2) fun x9 =>
 z00 x9.1 a3 (subI .i64 a5 1) a8 a10 x9.2
 else
 Option.bind (z02 a1 a3 (subI .i64 (subI .i64 a3 1) (subI .i64 x3.1 a1)) x5.2) fun x10 =>
 bif ltB (subI .i64 x10.1 a1) (subI .i64 a3 x10.1) then
 Option.bind (z01 a1 x10.1 (subI .i64 a5 1) x10.2.2) fun x11 =>
 z00 (addI .i64 x10.1 1) a3 (subI .i64 a5 1) (leB (quoI .i64 (subI .i64 a3 a1) 8) (subI .i64 x10.1 a1)) x10.2.1 x11
 else
 Option.bind (z01 (addI .i64 x10.1 1) a3 (subI .i64 a5 1) x10.2.2) fun x12 =>
 z00 a1 x10.1 (subI .i64 a5 1) (leB (quoI .i64 (subI .i64 a3 a1) 8) (subI .i64 a3 x10.1)) x10.2.1 x12
 else
 Option.bind (z02 a1 a3 (subI .i64 (subI .i64 a3 1) (subI .i64 x3.1 a1)) x5.2) fun x13 =>
 bif ltB (subI .i64 x13.1 a1) (subI .i64 a3 x13.1) then
 Option.bind (z01 a1 x13.1 (subI .i64 a5 1) x13.2.2) fun x14 =>
 z00 (addI .i64 x13.1 1) a3 (subI .i64 a5 1) (leB (quoI .i64 (subI .i64 a3 a1) 8) (subI .i64 x13.1 a1)) x13.2.1 x14
 else
 Option.bind (z01 (addI .i64 x13.1 1) a3 (subI .i64 a5 1) x13.2.2) fun x15 =>
 z00 a1 x13.1 (subI .i64 a5 1) (leB (quoI .i64 (subI .i64 a3 a1) 8) (subI .i64 a3 x13.1)) x13.2.1 x15
 else
 bif ltB 0 a1 then
 nth x4 (subI .i64 a1 1) fun _ =>
 nth x4 (subI .i64 (subI .i64 a3 1) (subI .i64 x3.1 a1)) fun _ =>
 nthN x4 (Int.toNat (subI .i64 a1 1)) fun y16 =>
 nthN x4 (Int.toNat (subI .i64 (subI .i64 a3 1) (subI .i64 x3.1 a1))) fun y17 =>
 Option.bind (z09 y16 y17) fun x18 =>
 bif !(ltB x18 0) then
 Option.bind (z04 a1 a3 (subI .i64 (subI .i64 a3 1) (subI .i64 x3.1 a1)) x4) fun x19 =>
 z00 x19.1 a3 (subI .i64 a5 1) a8 a10 x19.2
 else
 Option.bind (z02 a1 a3 (subI .i64 (subI .i64 a3 1) (subI .i64 x3.1 a1)) x4) fun x20 =>
 bif ltB (subI .i64 x20.1 a1) (subI .i64 a3 x20.1) then
 Option.bind (z01 a1 x20.1 (subI .i64 a5 1) x20.2.2) fun x21 =>
 z00 (addI .i64 x20.1 1) a3 (subI .i64 a5 1) (leB (quoI .i64 (subI .i64 a3 a1) 8) (subI .i64 x20.1 a1)) x20.2.1 x21
 else
 Option.bind (z01 (addI .i64 x20.1 1) a3 (subI .i64 a5 1) x20.2.2) fun x22 =>
 z00 a1 x20.1 (subI .i64 a5 1) (leB (quoI .i64 (subI .i64 a3 a1) 8) (subI .i64 a3 x20.1)) x20.2.1 x22
 else
 Option.bind (z02 a1 a3 (subI .i64 (subI .i64 a3 1) (subI .i64 x3.1 a1)) x4) fun x23 =>
 bif ltB (subI .i64 x23.1 a1) (subI .i64 a3 x23.1) then
 Option.bind (z01 a1 x23.1 (subI .i64 a5 1) x23.2.2) fun x24 =>
 z00 (addI .i64 x23.1 1) a3 (subI .i64 a5 1) (leB (quoI .i64 (subI .i64 a3 a1) 8) (subI .i64 x23.1 a1)) x23.2.1 x24
 else
 Option.bind (z01 (addI .i64 x23.1 1) a3 (subI .i64 a5 1) x23.2.2) fun x25 =>
 z00 a1 x23.1 (subI .i64 a5 1) (leB (quoI .i64 (subI .i64 a3 a1) 8) (subI .i64 a3 x23.1)) x23.2.1 x25
 else
 bif ltB 0 a1 then
 nth x4 (subI .i64 a1 1) fun _ =>
 nth x4 (subI .i64 (subI .i64 a3 1) (subI .i64 x3.1 a1)) fun _ =>
 nthN x4 (Int.toNat (subI .i64 a1 1)) fun y26 =>
 nthN x4 (Int.toNat (subI .i64 (subI .i64 a3 1) (subI .i64 x3.1 a1))) fun y27 =>
 Option.bind (z09 y26 y27) fun x28 =>
 bif !(ltB x28 0) then
 Option.bind (z04 a1 a3 (subI .i64 (subI .i64 a3 1) (subI .i64 x3.1 a1)) x4) fun x29 =>
 z00 x29.1 a3 (subI .i64 a5 1) a8 a10 x29.2
 else
 Option.bind (z02 a1 a3 (subI .i64 (subI .i64 a3 1) (subI .i64 x3.1 a1)) x4) fun x30 =>
 bif ltB (subI .i64 x30.1 a1) (subI .i64 a3 x30.1) then
 Option.bind (z01 a1 x30.1 (subI .i64 a5 1) x30.2.2) fun x31 =>
 z00 (addI .i64 x30.1 1) a3 (subI .i64 a5 1) (leB (quoI .i64 (subI .i64 a3 a1) 8) (subI .i64 x30.1 a1)) x30.2.1 x31
 else
 Option.bind (z01 (addI .i64 x30.1 1) a3 (subI .i64 a5 1) x30.2.2) fun x32 =>
 z00 a1 x30.1 (subI .i64 a5 1) (leB (quoI .i64 (subI .i64 a3 a1) 8) (subI .i64 a3 x30.1)) x30.2.1 x32
 else
 Option.bind (z02 a1 a3 (subI .i64 (subI .i64 a3 1) (subI .i64 x3.1 a1)) x4) fun x33 =>
 bif ltB (subI .i64 x33.1 a1) (subI .i64 a3 x33.1) then
 Option.bind (z01 a1 x33.1 (subI .i64 a5 1) x33.2.2) fun x34 =>
 z00 (addI .i64 x33.1 1) a3 (subI .i64 a5 1) (leB (quoI .i64 (subI .i64 a3 a1) 8) (subI .i64 x33.1 a1)) x33.2.1 x34
 else
 Option.bind (z01 (addI .i64 x33.1 1) a3 (subI .i64 a5 1) x33.2.2) fun x35 =>
 z00 a1 x33.1 (subI .i64 a5 1) (leB (quoI .i64 (subI .i64 a3 a1) 8) (subI .i64 a3 x33.1)) x33.2.1 x35
 else
 bif a8 then
 bif a10 then
 bif eqB x3.2.1 1 then
 Option.bind (z08 a1 a3 x3.2.2) fun x36 =>
 bif x36.1 then
 some x36.2
 else
 bif ltB 0 a1 then
 nth x36.2 (subI .i64 a1 1) fun _ =>
 nth x36.2 x3.1 fun _ =>
 nthN x36.2 (Int.toNat (subI .i64 a1 1)) fun y37 =>
 nthN x36.2 (Int.toNat x3.1) fun y38 =>
 Option.bind (z09 y37 y38) fun x39 =>
 bif !(ltB x39 0) then
 Option.bind (z04 a1 a3 x3.1 x36.2) fun x40 =>
 z00 x40.1 a3 (subI .i64 a5 1) a8 a10 x40.2
 else
 Option.bind (z02 a1 a3 x3.1 x36.2) fun x41 =>
 bif ltB (subI .i64 x41.1 a1) (subI .i64 a3 x41.1) then
 Option.bind (z01 a1 x41.1 (subI .i64 a5 1) x41.2.2) fun x42 =>
 z00 (addI .i64 x41.1 1) a3 (subI .i64 a5 1) (leB (quoI .i64 (subI .i64 a3 a1) 8) (subI .i64 x41.1 a1)) x41.2.1 x42
 else
 Option.bind (z01 (addI .i64 x41.1 1) a3 (subI .i64 a5 1) x41.2.2) fun x43 =>
 z00 a1 x41.1 (subI .i64 a5 1) (leB (quoI .i64 (subI .i64 a3 a1) 8) (subI .i64 a3 x41.1)) x41.2.1 x43
 else
 Option.bind (z02 a1 a3 x3.1 x36.2) fun x44 =>
 bif ltB (subI .i64 x44.1 a1) (subI .i64 a3 x44.1) then
 Option.bind (z01 a1 x44.1 (subI .i64 a5 1) x44.2.2) fun x45 =>
 z00 (addI .i64 x44.1 1) a3 (subI .i64 a5 1) (leB (quoI .i64 (subI .i64 a3 a1) 8) (subI .i64 x44.1 a1)) x44.2.1 x45
 else
 Option.bind (z01 (addI .i64 x44.1 1) a3 (subI .i64 a5 1) x44.2.2) fun x46 =>
 z00 a1 x44.1 (subI .i64 a5 1) (leB (quoI .i64 (subI .i64 a3 a1) 8) (subI .i64 a3 x44.1)) x44.2.1 x46
 else
 bif ltB 0 a1 then
 nth x3.2.2 (subI .i64 a1 1) fun _ =>
 nth x3.2.2 x3.1 fun _ =>
 nthN x3.2.2 (Int.toNat (subI .i64 a1 1)) fun y47 =>
 nthN x3.2.2 (Int.toNat x3.1) fun y48 =>
 Option.bind (z09 y47 y48) fun x49 =>
 bif !(ltB x49 0) then
 Option.bind (z04 a1 a3 x3.1 x3.2.2) fun x50 =>
 z00 x50.1 a3 (subI .i64 a5 1) a8 a10 x50.2
 else
 Option.bind (z02 a1 a3 x3.1 x3.2.2) fun x51 =>
 bif ltB (subI .i64 x51.1 a1) (subI .i64 a3 x51.1) then
 Option.bind (z01 a1 x51.1 (subI .i64 a5 1) x51.2.2) fun x52 =>
 z00 (addI .i64 x51.1 1) a3 (subI .i64 a5 1) (leB (quoI .i64 (subI .i64 a3 a1) 8) (subI .i64 x51.1 a1)) x51.2.1 x52
 else
 Option.bind (z01 (addI .i64 x51.1 1) a3 (subI .i64 a5 1) x51.2.2) fun x53 =>
 z00 a1 x51.1 (subI .i64 a5 1) (leB (quoI .i64 (subI .i64 a3 a1) 8) (subI .i64 a3 x51.1)) x51.2.1 x53
 else
 Option.bind (z02 a1 a3 x3.1 x3.2.2) fun x54 =>
 bif ltB (subI .i64 x54.1 a1) (subI .i64 a3 x54.1) then
 Option.bind (z01 a1 x54.1 (subI .i64 a5 1) x54.2.2) fun x55 =>
 z00 (addI .i64 x54.1 1) a3 (subI .i64 a5 1) (leB (quoI .i64 (subI .i64 a3 a1) 8) (subI .i64 x54.1 a1)) x54.2.1 x55
 else
 Option.bind (z01 (addI .i64 x54.1 1) a3 (subI .i64 a5 1) x54.2.2) fun x56 =>
 z00 a1 x54.1 (subI .i64 a5 1) (leB (quoI .i64 (subI .i64 a3 a1) 8) (subI .i64 a3 x54.1)) x54.2.1 x56
 else
 bif ltB 0 a1 then
 nth x3.2.2 (subI .i64 a1 1) fun _ =>
 nth x3.2.2 x3.1 fun _ =>
 nthN x3.2.2 (Int.toNat (subI .i64 a1 1)) fun y57 =>
 nthN x3.2.2 (Int.toNat x3.1) fun y58 =>
 Option.bind (z09 y57 y58) fun x59 =>
 bif !(ltB x59 0) then
 Option.bind (z04 a1 a3 x3.1 x3.2.2) fun x60 =>
 z00 x60.1 a3 (subI .i64 a5 1) a8 a10 x60.2
 else
 Option.bind (z02 a1 a3 x3.1 x3.2.2) fun x61 =>
 bif ltB (subI .i64 x61.1 a1) (subI .i64 a3 x61.1) then
 Option.bind (z01 a1 x61.1 (subI .i64 a5 1) x61.2.2) fun x62 =>
 z00 (addI .i64 x61.1 1) a3 (subI .i64 a5 1) (leB (quoI .i64 (subI .i64 a3 a1) 8) (subI .i64 x61.1 a1)) x61.2.1 x62
 else
 Option.bind (z01 (addI .i64 x61.1 1) a3 (subI .i64 a5 1) x61.2.2) fun x63 =>
 z00 a1 x61.1 (subI .i64 a5 1) (leB (quoI .i64 (subI .i64 a3 a1) 8) (subI .i64 a3 x61.1)) x61.2.1 x63
 else
 Option.bind (z02 a1 a3 x3.1 x3.2.2) fun x64 =>
 bif ltB (subI .i64 x64.1 a1) (subI .i64 a3 x64.1) then
 Option.bind (z01 a1 x64.1 (subI .i64 a5 1) x64.2.2) fun x65 =>
 z00 (addI .i64 x64.1 1) a3 (subI .i64 a5 1) (leB (quoI .i64 (subI .i64 a3 a1) 8) (subI .i64 x64.1 a1)) x64.2.1 x65
 else
 Option.bind (z01 (addI .i64 x64.1 1) a3 (subI .i64 a5 1) x64.2.2) fun x66 =>
 z00 a1 x64.1 (subI .i64 a5 1) (leB (quoI .i64 (subI .i64 a3 a1) 8) (subI .i64 a3 x64.1)) x64.2.1 x66
 else
 bif ltB 0 a1 then
 nth x3.2.2 (subI .i64 a1 1) fun _ =>
 nth x3.2.2 x3.1 fun _ =>
 nthN x3.2.2 (Int.toNat (subI .i64 a1 1)) fun y67 =>
 nthN x3.2.2 (Int.toNat x3.1) fun y68 =>
 Option.bind (z09 y67 y68) fun x69 =>
 bif !(ltB x69 0) then
 Option.bind (z04 a1 a3 x3.1 x3.2.2) fun x70 =>
 z00 x70.1 a3 (subI .i64 a5 1) a8 a10 x70.2
 else
 Option.bind (z02 a1 a3 x3.1 x3.2.2) fun x71 =>
 bif ltB (subI .i64 x71.1 a1) (subI .i64 a3 x71.1) then
 Option.bind (z01 a1 x71.1 (subI .i64 a5 1) x71.2.2) fun x72 =>
 z00 (addI .i64 x71.1 1) a3 (subI .i64 a5 1) (leB (quoI .i64 (subI .i64 a3 a1) 8) (subI .i64 x71.1 a1)) x71.2.1 x72
 else
 Option.bind (z01 (addI .i64 x71.1 1) a3 (subI .i64 a5 1) x71.2.2) fun x73 =>
 z00 a1 x71.1 (subI .i64 a5 1) (leB (quoI .i64 (subI .i64 a3 a1) 8) (subI .i64 a3 x71.1)) x71.2.1 x73
 else
 Option.bind (z02 a1 a3 x3.1 x3.2.2) fun x74 =>
 bif ltB (subI .i64 x74.1 a1) (subI .i64 a3 x74.1) then
 Option.bind (z01 a1 x74.1 (subI .i64 a5 1) x74.2.2) fun x75 =>
 z00 (addI .i64 x74.1 1) a3 (subI .i64 a5 1) (leB (quoI .i64 (subI .i64 a3 a1) 8) (subI .i64 x74.1 a1)) x74.2.1 x75
 else
 Option.bind (z01 (addI .i64 x74.1 1) a3 (subI .i64 a5 1) x74.2.2) fun x76 =>
 z00 a1 x74.1 (subI .i64 a5 1) (leB (quoI .i64 (subI .i64 a3 a1) 8) (subI .i64 a3 x74.1)) x74.2.1 x76
 else
 Option.bind (z0o a1 a3 a12) fun x77 =>
 bif eqB x77.2.1 2 then
 Option.bind (z0l a1 a3 x77.2.2) fun x78 =>
 bif a8 then
 bif a10 then
 Option.bind (z08 a1 a3 x78) fun x79 =>
 bif x79.1 then
 some x79.2
 else
 bif ltB 0 a1 then
 nth x79.2 (subI .i64 a1 1) fun _ =>
 nth x79.2 (subI .i64 (subI .i64 a3 1) (subI .i64 x77.1 a1)) fun _ =>
 nthN x79.2 (Int.toNat (subI .i64 a1 1)) fun y80 =>
 nthN x79.2 (Int.toNat (subI .i64 (subI .i64 a3 1) (subI .i64 x77.1 a1))) fun y81 =>
 Option.bind (z09 y80 y81) fun x82 =>
 bif !(ltB x82 0) then
 Option.bind (z04 a1 a3 (subI .i64 (subI .i64 a3 1) (subI .i64 x77.1 a1)) x79.2) fun x83 =>
 z00 x83.1 a3 a5 a8 a10 x83.2
 else
 Option.bind (z02 a1 a3 (subI .i64 (subI .i64 a3 1) (subI .i64 x77.1 a1)) x79.2) fun x84 =>
 bif ltB (subI .i64 x84.1 a1) (subI .i64 a3 x84.1) then
 Option.bind (z01 a1 x84.1 a5 x84.2.2) fun x85 =>
 z00 (addI .i64 x84.1 1) a3 a5 (leB (quoI .i64 (subI .i64 a3 a1) 8) (subI .i64 x84.1 a1)) x84.2.1 x85
 else
 Option.bind (z01 (addI .i64 x84.1 1) a3 a5 x84.2.2) fun x86 =>
 z00 a1 x84.1 a5 (leB (quoI .i64 (subI .i64 a3 a1) 8) (subI .i64 a3 x84.1)) x84.2.1 x86
 else
 Option.bind (z02 a1 a3 (subI .i64 (subI .i64 a3 1) (subI .i64 x77.1 a1)) x79.2) fun x87 =>
 bif ltB (subI .i64 x87.1 a1) (subI .i64 a3 x87.1) then
 Option.bind (z01 a1 x87.1 a5 x87.2.2) fun x88 =>
 z00 (addI .i64 x87.1 1) a3 a5 (leB (quoI .i64 (subI .i64 a3 a1) 8) (subI .i64 x87.1 a1)) x87.2.1 x88
 else
 Option.bind (z01 (addI .i64 x87.1 1) a3 a5 x87.2.2) fun x89 =>
 z00 a1 x87.1 a5 (leB (quoI .i64 (subI .i64 a3 a1) 8) (subI .i64 a3 x87.1)) x87.2.1 x89
 else
 bif ltB 0 a1 then
 nth x78 (subI .i64 a1 1) fun _ =>
 nth x78 (subI .i64 (subI .i64 a3 1) (subI .i64 x77.1 a1)) fun _ =>
 nthN x78 (Int.toNat (subI .i64 a1 1)) fun y90 =>
 nthN x78 (Int.toNat (subI .i64 (subI .i64 a3 1) (subI .i64 x77.1 a1))) fun y91 =>
 Option.bind (z09 y90 y91) fun x92 =>
 bif !(ltB x92 0) then
 Option.bind (z04 a1 a3 (subI .i64 (subI .i64 a3 1) (subI .i64 x77.1 a1)) x78) fun x93 =>
 z00 x93.1 a3 a5 a8 a10 x93.2
 else
 Option.bind (z02 a1 a3 (subI .i64 (subI .i64 a3 1) (subI .i64 x77.1 a1)) x78) fun x94 =>
 bif ltB (subI .i64 x94.1 a1) (subI .i64 a3 x94.1) then
 Option.bind (z01 a1 x94.1 a5 x94.2.2) fun x95 =>
 z00 (addI .i64 x94.1 1) a3 a5 (leB (quoI .i64 (subI .i64 a3 a1) 8) (subI .i64 x94.1 a1)) x94.2.1 x95
 else
 Option.bind (z01 (addI .i64 x94.1 1) a3 a5 x94.2.2) fun x96 =>
 z00 a1 x94.1 a5 (leB (quoI .i64 (subI .i64 a3 a1) 8) (subI .i64 a3 x94.1)) x94.2.1 x96
 else
 Option.bind (z02 a1 a3 (subI .i64 (subI .i64 a3 1) (subI .i64 x77.1 a1)) x78) fun x97 =>
 bif ltB (subI .i64 x97.1 a1) (subI .i64 a3 x97.1) then
 Option.bind (z01 a1 x97.1 a5 x97.2.2) fun x98 =>
 z00 (addI .i64 x97.1 1) a3 a5 (leB (quoI .i64 (subI .i64 a3 a1) 8) (subI .i64 x97.1 a1)) x97.2.1 x98
 else
 Option.bind (z01 (addI .i64 x97.1 1) a3 a5 x97.2.2) fun x99 =>
 z00 a1 x97.1 a5 (leB (quoI .i64 (subI .i64 a3 a1) 8) (subI .i64 a3 x97.1)) x97.2.1 x99
 else
 bif ltB 0 a1 then
 nth x78 (subI .i64 a1 1) fun _ =>
 nth x78 (subI .i64 (subI .i64 a3 1) (subI .i64 x77.1 a1)) fun _ =>
 nthN x78 (Int.toNat (subI .i64 a1 1)) fun y100 =>
 nthN x78 (Int.toNat (subI .i64 (subI .i64 a3 1) (subI .i64 x77.1 a1))) fun y101 =>
 Option.bind (z09 y100 y101) fun x102 =>
 bif !(ltB x102 0) then
 Option.bind (z04 a1 a3 (subI .i64 (subI .i64 a3 1) (subI .i64 x77.1 a1)) x78) fun x103 =>
 z00 x103.1 a3 a5 a8 a10 x103.2
 else
 Option.bind (z02 a1 a3 (subI .i64 (subI .i64 a3 1) (subI .i64 x77.1 a1)) x78) fun x104 =>
 bif ltB (subI .i64 x104.1 a1) (subI .i64 a3 x104.1) then
 Option.bind (z01 a1 x104.1 a5 x104.2.2) fun x105 =>
 z00 (addI .i64 x104.1 1) a3 a5 (leB (quoI .i64 (subI .i64 a3 a1) 8) (subI .i64 x104.1 a1)) x104.2.1 x105
 else
 Option.bind (z01 (addI .i64 x104.1 1) a3 a5 x104.2.2) fun x106 =>
 z00 a1 x104.1 a5 (leB (quoI .i64 (subI .i64 a3 a1) 8) (subI .i64 a3 x104.1)) x104.2.1 x106
 else
 Option.bind (z02 a1 a3 (subI .i64 (subI .i64 a3 1) (subI .i64 x77.1 a1)) x78) fun x107 =>
 bif ltB (subI .i64 x107.1 a1) (subI .i64 a3 x107.1) then
 Option.bind (z01 a1 x107.1 a5 x107.2.2) fun x108 =>
 z00 (addI .i64 x107.1 1) a3 a5 (leB (quoI .i64 (subI .i64 a3 a1) 8) (subI .i64 x107.1 a1)) x107.2.1 x108
 else
 Option.bind (z01 (addI .i64 x107.1 1) a3 a5 x107.2.2) fun x109 =>
 z00 a1 x107.1 a5 (leB (quoI .i64 (subI .i64 a3 a1) 8) (subI .i64 a3 x107.1)) x107.2.1 x109
 else
 bif a8 then
 bif a10 then
 bif eqB x77.2.1 1 then
 Option.bind (z08 a1 a3 x77.2.2) fun x110 =>
 bif x110.1 then
 some x110.2
 else
 bif ltB 0 a1 then
 nth x110.2 (subI .i64 a1 1) fun _ =>
 nth x110.2 x77.1 fun _ =>
 nthN x110.2 (Int.toNat (subI .i64 a1 1)) fun y111 =>
 nthN x110.2 (Int.toNat x77.1) fun y112 =>
 Option.bind (z09 y111 y112) fun x113 =>
 bif !(ltB x113 0) then
 Option.bind (z04 a1 a3 x77.1 x110.2) fun x114 =>
 z00 x114.1 a3 a5 a8 a10 x114.2
 else
 Option.bind (z02 a1 a3 x77.1 x110.2) fun x115 =>
 bif ltB (subI .i64 x115.1 a1) (subI .i64 a3 x115.1) then
 Option.bind (z01 a1 x115.1 a5 x115.2.2) fun x116 =>
 z00 (addI .i64 x115.1 1) a3 a5 (leB (quoI .i64 (subI .i64 a3 a1) 8) (subI .i64 x115.1 a1)) x115.2.1 x116
 else
 Option.bind (z01 (addI .i64 x115.1 1) a3 a5 x115.2.2) fun x117 =>
 z00 a1 x115.1 a5 (leB (quoI .i64 (subI .i64 a3 a1) 8) (subI .i64 a3 x115.1)) x115.2.1 x117
 else
 Option.bind (z02 a1 a3 x77.1 x110.2) fun x118 =>
 bif ltB (subI .i64 x118.1 a1) (subI .i64 a3 x118.1) then
 Option.bind (z01 a1 x118.1 a5 x118.2.2) fun x119 =>
 z00 (addI .i64 x118.1 1) a3 a5 (leB (quoI .i64 (subI .i64 a3 a1) 8) (subI .i64 x118.1 a1)) x118.2.1 x119
 else
 Option.bind (z01 (addI .i64 x118.1 1) a3 a5 x118.2.2) fun x120 =>
 z00 a1 x118.1 a5 (leB (quoI .i64 (subI .i64 a3 a1) 8) (subI .i64 a3 x118.1)) x118.2.1 x120
 else
 bif ltB 0 a1 then
 nth x77.2.2 (subI .i64 a1 1) fun _ =>
 nth x77.2.2 x77.1 fun _ =>
 nthN x77.2.2 (Int.toNat (subI .i64 a1 1)) fun y121 =>
 nthN x77.2.2 (Int.toNat x77.1) fun y122 =>
 Option.bind (z09 y121 y122) fun x123 =>
 bif !(ltB x123 0) then
 Option.bind (z04 a1 a3 x77.1 x77.2.2) fun x124 =>
 z00 x124.1 a3 a5 a8 a10 x124.2
 else
 Option.bind (z02 a1 a3 x77.1 x77.2.2) fun x125 =>
 bif ltB (subI .i64 x125.1 a1) (subI .i64 a3 x125.1) then
 Option.bind (z01 a1 x125.1 a5 x125.2.2) fun x126 =>
 z00 (addI .i64 x125.1 1) a3 a5 (leB (quoI .i64 (subI .i64 a3 a1) 8) (subI .i64 x125.1 a1)) x125.2.1 x126
 else
 Option.bind (z01 (addI .i64 x125.1 1) a3 a5 x125.2.2) fun x127 =>
 z00 a1 x125.1 a5 (leB (quoI .i64 (subI .i64 a3 a1) 8) (subI .i64 a3 x125.1)) x125.2.1 x127
 else
 Option.bind (z02 a1 a3 x77.1 x77.2.2) fun x128 =>
 bif ltB (subI .i64 x128.1 a1) (subI .i64 a3 x128.1) then
 Option.bind (z01 a1 x128.1 a5 x128.2.2) fun x129 =>
 z00 (addI .i64 x128.1 1) a3 a5 (leB (quoI .i64 (subI .i64 a3 a1) 8) (subI .i64 x128.1 a1)) x128.2.1 x129
 else
 Option.bind (z01 (addI .i64 x128.1 1) a3 a5 x128.2.2) fun x130 =>
 z00 a1 x128.1 a5 (leB (quoI .i64 (subI .i64 a3 a1) 8) (subI .i64 a3 x128.1)) x128.2.1 x130
 else
 bif ltB 0 a1 then
 nth x77.2.2 (subI .i64 a1 1) fun _ =>
 nth x77.2.2 x77.1 fun _ =>
 nthN x77.2.2 (Int.toNat (subI .i64 a1 1)) fun y131 =>
 nthN x77.2.2 (Int.toNat x77.1) fun y132 =>
 Option.bind (z09 y131 y132) fun x133 =>
 bif !(ltB x133 0) then
 Option.bind (z04 a1 a3 x77.1 x77.2.2) fun x134 =>
 z00 x134.1 a3 a5 a8 a10 x134.2
 else
 Option.bind (z02 a1 a3 x77.1 x77.2.2) fun x135 =>
 bif ltB (subI .i64 x135.1 a1) (subI .i64 a3 x135.1) then
 Option.bind (z01 a1 x135.1 a5 x135.2.2) fun x136 =>
 z00 (addI .i64 x135.1 1) a3 a5 (leB (quoI .i64 (subI .i64 a3 a1) 8) (subI .i64 x135.1 a1)) x135.2.1 x136
 else
 Option.bind (z01 (addI .i64 x135.1 1) a3 a5 x135.2.2) fun x137 =>
 z00 a1 x135.1 a5 (leB (quoI .i64 (subI .i64 a3 a1) 8) (subI .i64 a3 x135.1)) x135.2.1 x137
 else
 Option.bind (z02 a1 a3 x77.1 x77.2.2) fun x138 =>
 bif ltB (subI .i64 x138.1 a1) (subI .i64 a3 x138.1) then
 Option.bind (z01 a1 x138.1 a5 x138.2.2) fun x139 =>
 z00 (addI .i64 x138.1 1) a3 a5 (leB (quoI .i64 (subI .i64 a3 a1) 8) (subI .i64 x138.1 a1)) x138.2.1 x139
 else
 Option.bind (z01 (addI .i64 x138.1 1) a3 a5 x138.2.2) fun x140 =>
 z00 a1 x138.1 a5 (leB (quoI .i64 (subI .i64 a3 a1) 8) (subI .i64 a3 x138.1)) x138.2.1 x140
 else
 bif ltB 0 a1 then
 nth x77.2.2 (subI .i64 a1 1) fun _ =>
 nth x77.2.2 x77.1 fun _ =>
 nthN x77.2.2 (Int.toNat (subI .i64 a1 1)) fun y141 =>
 nthN x77.2.2 (Int.toNat x77.1) fun y142 =>
 Option.bind (z09 y141 y142) fun x143 =>
 bif !(ltB x143 0) then
 Option.bind (z04 a1 a3 x77.1 x77.2.2) fun x144 =>
 z00 x144.1 a3 a5 a8 a10 x144.2
 else
 Option.bind (z02 a1 a3 x77.1 x77.2.2) fun x145 =>
 bif ltB (subI .i64 x145.1 a1) (subI .i64 a3 x145.1) then
 Option.bind (z01 a1 x145.1 a5 x145.2.2) fun x146 =>
 z00 (addI .i64 x145.1 1) a3 a5 (leB (quoI .i64 (subI .i64 a3 a1) 8) (subI .i64 x145.1 a1)) x145.2.1 x146
 else
 Option.bind (z01 (addI .i64 x145.1 1) a3 a5 x145.2.2) fun x147 =>
 z00 a1 x145.1 a5 (leB (quoI .i64 (subI .i64 a3 a1) 8) (subI .i64 a3 x145.1)) x145.2.1 x147
 else
 Option.bind (z02 a1 a3 x77.1 x77.2.2) fun x148 =>
 bif ltB (subI .i64 x148.1 a1) (subI .i64 a3 x148.1) then
 Option.bind (z01 a1 x148.1 a5 x148.2.2) fun x149 =>
 z00 (addI .i64 x148.1 1) a3 a5 (leB (quoI .i64 (subI .i64 a3 a1) 8) (subI .i64 x148.1 a1)) x148.2.1 x149
 else
 Option.bind (z01 (addI .i64 x148.1 1) a3 a5 x148.2.2) fun x150 =>
 z00 a1 x148.1 a5 (leB (quoI .i64 (subI .i64 a3 a1) 8) (subI .i64 a3 x148.1)) x148.2.1 x150
 ) (z00 a1 a3 a5 a8 a10 a12) :=
 gL o2' (q08 Tryz.f150 [1,1,0,0])
theorem y86 (a_1 b_2 : Int) (h0 : List Claim) : Le (
 z0d a_1 b_2 (addI .i64 a_1 1) h0
 ) (z19 a_1 b_2 h0) :=
 cL o2' Tryz.func156
theorem y70 (a_1 b_2 : Int) (h0 : List Claim) : Le (
 z0p a_1 0 (subI .i64 b_2 a_1) (quoI .i64 (subI .i64 (subI .i64 b_2 a_1) 1) 2) h0
 ) (z1f a_1 b_2 h0) :=
 cL o2' Tryz.func157
theorem y4g (a_1 b_2 : Int) (h0 : List Claim) : Le (
 bif leB 8 (subI .i64 b_2 a_1) then
 Option.bind (z3k (subI .i64 b_2 a_1)) fun x0 =>
 z0b a_1 (subI .i64 b_2 a_1) x0 (subI .i64 (addI .i64 a_1 (mulI .i64 (quoI .i64 (subI .i64 b_2 a_1) 4) 2)) 1) h0 (IntKind.wrap .u64 (subI .i64 b_2 a_1))
 else
 some h0
 ) (z1a a_1 b_2 h0) :=
 cL o2' Tryz.func158
theorem y4l (a_1 b_2 : Int) (h0 : List Claim) : Le (
 bif leB 8 (subI .i64 b_2 a_1) then
 bif leB 50 (subI .i64 b_2 a_1) then
 Option.bind (z0j (addI .i64 a_1 (mulI .i64 (quoI .i64 (subI .i64 b_2 a_1) 4) 1)) h0 0) fun x0 =>
 Option.bind (z0j (addI .i64 a_1 (mulI .i64 (quoI .i64 (subI .i64 b_2 a_1) 4) 2)) x0.2.1 x0.2.2) fun x1 =>
 Option.bind (z0j (addI .i64 a_1 (mulI .i64 (quoI .i64 (subI .i64 b_2 a_1) 4) 3)) x1.2.1 x1.2.2) fun x2 =>
 Option.bind (z0z x0.1 x1.1 x2.1 x2.2.1 x2.2.2) fun x3 =>
 bif eqB x3.2.2 0 then
 some (x3.1, 1, x3.2.1)
 else
 bif eqB x3.2.2 12 then
 some (x3.1, 2, x3.2.1)
 else
 some (x3.1, 0, x3.2.1)
 else
 Option.bind (z0z (addI .i64 a_1 (mulI .i64 (quoI .i64 (subI .i64 b_2 a_1) 4) 1)) (addI .i64 a_1 (mulI .i64 (quoI .i64 (subI .i64 b_2 a_1) 4) 2)) (addI .i64 a_1 (mulI .i64 (quoI .i64 (subI .i64 b_2 a_1) 4) 3)) h0 0) fun x4 =>
 bif eqB x4.2.2 0 then
 some (x4.1, 1, x4.2.1)
 else
 bif eqB x4.2.2 12 then
 some (x4.1, 2, x4.2.1)
 else
 some (x4.1, 0, x4.2.1)
 else
 some ((addI .i64 a_1 (mulI .i64 (quoI .i64 (subI .i64 b_2 a_1) 4) 2)), 1, h0)
 ) (z0o a_1 b_2 h0) :=
 cL o31' Tryz.func159
theorem y3y (a_1 b_2 : Int) (h0 : List Claim) : Le (
 z0w a_1 (subI .i64 b_2 1) h0
 ) (z0l a_1 b_2 h0) :=
 cL o2' Tryz.func160
theorem y3v (a_1 b_2 : Int) (h0 : List Claim) : Le (
 z03 a_1 b_2 (addI .i64 a_1 1) 0 h0
 ) (z08 a_1 b_2 h0) :=
 cL o8' Tryz.func161
theorem y5m (a_1 b_2 pivot_3 : Int) (h0 : List Claim) : Le (
 nth h0 pivot_3 fun _ =>
 nth h0 a_1 fun _ =>
 nthN h0 (Int.toNat pivot_3) fun y0 =>
 nthN h0 (Int.toNat a_1) fun y1 =>
 nth h0 a_1 fun _ =>
 nthN h0 (Int.toNat a_1) fun _y2 =>
 nth (List.set h0 (Int.toNat a_1) y0) pivot_3 fun _ =>
 nthN (List.set h0 (Int.toNat a_1) y0) (Int.toNat pivot_3) fun _y3 =>
 z0a a_1 (addI .i64 a_1 1) (subI .i64 b_2 1) (List.set (List.set h0 (Int.toNat a_1) y0) (Int.toNat pivot_3) y1)
 ) (z04 a_1 b_2 pivot_3 h0) :=
 cL o6' Tryz.func162
theorem y56 (a_1 b_2 pivot_3 : Int) (h0 : List Claim) : Le (
 nth h0 pivot_3 fun _ =>
 nth h0 a_1 fun _ =>
 nthN h0 (Int.toNat pivot_3) fun y0 =>
 nthN h0 (Int.toNat a_1) fun y1 =>
 nth h0 a_1 fun _ =>
 nthN h0 (Int.toNat a_1) fun _y2 =>
 nth (List.set h0 (Int.toNat a_1) y0) pivot_3 fun _ =>
 nthN (List.set h0 (Int.toNat a_1) y0) (Int.toNat pivot_3) fun _y3 =>
 z11 a_1 (addI .i64 a_1 1) (subI .i64 b_2 1) (List.set (List.set h0 (Int.toNat a_1) y0) (Int.toNat pivot_3) y1)
 ) (z02 a_1 b_2 pivot_3 h0) :=
 cL o4' Tryz.func163
theorem y7v (length_0 : Int) : Le (
 Option.bind (z6p (IntKind.wrap .u64 length_0)) fun x0 =>
 chk (0 ≤ x0) <|
 some (shlI .u64 1 x0)
 ) (z3k length_0) :=
 cL ⟨[.lf (.i .u64)],[]⟩ Tryz.func170
theorem y3p (a_1 : Int) (h0 : List Claim) (h1 : Int) : Le (
 Option.bind (z0z (subI .i64 a_1 1) a_1 (addI .i64 a_1 1) h0 h1) fun x0 =>
 some (x0.1, x0.2.1, x0.2.2)
 ) (z0j a_1 h0 h1) :=
 cL o27' Tryz.func172
theorem y5u (a_1 b_2 c_3 : Int) (h0 : List Claim) (h1 : Int) : Le (
 Option.bind (z10 a_1 b_2 h0 h1) fun x0 =>
 Option.bind (z10 x0.2.1 c_3 x0.2.2.1 x0.2.2.2) fun x1 =>
 Option.bind (z10 x0.1 x1.1 x1.2.2.1 x1.2.2.2) fun x2 =>
 some (x2.2.1, x2.2.2.1, x2.2.2.2)
 ) (z0z a_1 b_2 c_3 h0 h1) :=
 cL o27' Tryz.func173
theorem y83 (a_1 b_2 : Int) (h0 : List Claim) (h1 : Int) : Le (
 nth h0 b_2 fun _ =>
 nth h0 a_1 fun _ =>
 nthN h0 (Int.toNat b_2) fun y0 =>
 nthN h0 (Int.toNat a_1) fun y1 =>
 Option.bind (z09 y0 y1) fun x2 =>
 bif ltB x2 0 then
 some (b_2, a_1, h0, (addI .i64 h1 1))
 else
 some (a_1, b_2, h0, h1)
 ) (z10 a_1 b_2 h0 h1) :=
 cL o32' Tryz.func176
theorem y1j (a1 : List Claim) (a3 a5 a7 a9 a11 : Int) (a13 : List Int) (a15 : List Trust) (a17 a19 a21 : List Claim) (a23 : List Message) : Le (
 bif ltB a5 a3 then
 nth a1 a5 fun y0 =>
 Option.bind (z4i a19 y0) fun x1 =>
 bif !x1 then
 some false
 else
 z3l a1 a3 (addI .i64 a5 1) a7 a9 a11 a13 a15 a17 a19 a21 a23
 else
 z2e a23 (a23.length : Int) 0 a7 a9 a11 a13 a15 a17 a19 a21 a23
 ) (z3l a1 a3 a5 a7 a9 a11 a13 a15 a17 a19 a21 a23) :=
 gL o0' (q08 Tryz.f35 [1,1,1,0,1,0,0])
theorem y1a (a2 a4 a6 a8 a10 : Int) (a12 : List Int) (a14 : List Trust) (a16 a18 a20 : List Claim) (a22 : List Message) (a24 a26 a28 : Int) (a30 : List Int) (a32 : List Trust) (a34 a36 a38 : List Claim) (a40 : List Message) : Le (
 bif ltB a4 a2 then
 nth a22 a4 fun y0 =>
 nth a40 a4 fun y1 =>
 Option.bind (z6o y0 y1) fun x2 =>
 bif !x2 then
 some false
 else
 z42 a2 (addI .i64 a4 1) a6 a8 a10 a12 a14 a16 a18 a20 a22 a24 a26 a28 a30 a32 a34 a36 a38 a40
 else
 some true
 ) (z42 a2 a4 a6 a8 a10 a12 a14 a16 a18 a20 a22 a24 a26 a28 a30 a32 a34 a36 a38 a40) :=
 gL o0' (q08 Tryz.f28 [1,1,0,1,0,0])
theorem qru (a0 a2 : List Claim) (a4 a6 : Int) : Le (
 bif ltB a6 a4 then
 nth a2 a6 fun y0 =>
 Option.bind (z6e y0) fun x1 =>
 bif !x1 then
 some false
 else
 bif ltB 0 a6 then
 nth a0 (subI .i64 a6 1) fun y2 =>
 Option.bind (z62 y2 y0) fun x3 =>
 bif leB 0 x3 then
 some false
 else
 z2p a0 a2 a4 (addI .i64 a6 1)
 else
 z2p a0 a2 a4 (addI .i64 a6 1)
 else
 some true
 ) (z2p a0 a2 a4 a6) :=
 gL o0' (q08 Tryz.f84 [1,0,1,0,0])
theorem y8a (a_0 b_1 : Claim) : Le (
 bif ((eqB a_0.Topic b_1.Topic) && ((eqB a_0.Value b_1.Value) && true)) then
 some 0
 else
 bif ltB a_0.Topic b_1.Topic then
 some (-1)
 else
 bif eqB a_0.Topic b_1.Topic then
 bif ltB a_0.Value b_1.Value then
 some (-1)
 else
 some 1
 else
 some 1
 ) (z62 a_0 b_1) :=
 cL o1' Tryz.func117
theorem y1h (a0 a2 : List Claim) (a4 a6 : Int) : Le (
 bif ltB a6 a4 then
 nth a2 a6 fun y0 =>
 hiK (List.length a0) a6 fun b1 =>
 z28 a0 a2 a4 a6 (List.drop 0 (List.take b1 a0)) ((List.length (List.drop 0 (List.take b1 a0)) : Nat) : Int) 0 y0.Topic y0.Value
 else
 some true
 ) (z21 a0 a2 a4 a6) :=
 gL o0' (q08 Tryz.f64 [1,0,1,0,0])
theorem y0h (a2 a4 a6 : Int) (a8 : List Int) (a10 : List Trust) (a12 : Int) (a14 : List Int) (a16 : List Trust) : Le (
 bif ltB a4 a2 then
 nth a10 a4 fun y0 =>
 nth a16 a4 fun y1 =>
 Option.bind (z3r y0 y1) fun x2 =>
 bif !x2 then
 some false
 else
 z3d a2 (addI .i64 a4 1) a6 a8 a10 a12 a14 a16
 else
 some true
 ) (z3d a2 a4 a6 a8 a10 a12 a14 a16) :=
 gL o0' (q08 Tryz.f76 [1,1,0,1,0,0])
theorem y0t (a0 a2 : List Claim) (a4 a6 : Int) : Le (
 bif ltB a6 a4 then
 nth a0 a6 fun y0 =>
 nth a2 a6 fun y1 =>
 bif (!((eqB y0.Topic y1.Topic) && ((eqB y0.Value y1.Value) && true))) then
 some false
 else
 z4p a0 a2 a4 (addI .i64 a6 1)
 else
 some true
 ) (z4p a0 a2 a4 a6) :=
 gL o0' (q08 Tryz.f15 [1,1,0,1,0,0])
theorem qwy (a0 a2 : List Int) (a4 a6 : Int) : Le (
 bif ltB a6 a4 then
 nth a0 a6 fun y0 =>
 nth a2 a6 fun y1 =>
 bif neB y0 y1 then
 some false
 else
 z43 a0 a2 a4 (addI .i64 a6 1)
 else
 some true
 ) (z43 a0 a2 a4 a6) :=
 gL o0' (q08 Tryz.f115 [1,1,0,1,0,0])
theorem qzp (a1 : List Claim) (a3 a5 : Int) (a7 : List Int) (a9 a11 a13 a15 : Int) (a17 : List Int) (a19 : List Trust) (a21 a23 a25 : List Claim) (a27 : List Message) (a29 a31 a33 : Int) (a35 : List Int) (a37 : List Trust) (a39 a41 a43 : List Claim) (a45 : List Message) : Le (
 bif ltB a5 a3 then
 nth a1 a5 fun y0 =>
 Option.bind (z4x (Voter.mk a11 a13 (Trust.mk a15 a17 a19) a21 a23 a25 a27) y0) fun x1 =>
 bif neB x1.2 0 then
 bif neB x1.2 14 then
 some false
 else
 bif eqB x1.2 0 then
 Option.bind (z5h x1.1 (Voter.mk a11 a13 (Trust.mk a15 a17 a19) a21 a23 a25 a27)) fun x2 =>
 bif !x2 then
 some false
 else
 z1n a1 a3 (addI .i64 a5 1) a7 a9 a11 a13 a15 a17 a19 a21 a23 a25 a27 a29 a31 a33 a35 a37 a39 a41 a43 a45
 else
 z1n a1 a3 (addI .i64 a5 1) a7 a9 a11 a13 a15 a17 a19 a21 a23 a25 a27 a29 a31 a33 a35 a37 a39 a41 a43 a45
 else
 bif eqB x1.2 0 then
 Option.bind (z5h x1.1 (Voter.mk a11 a13 (Trust.mk a15 a17 a19) a21 a23 a25 a27)) fun x3 =>
 bif !x3 then
 some false
 else
 z1n a1 a3 (addI .i64 a5 1) a7 a9 a11 a13 a15 a17 a19 a21 a23 a25 a27 a29 a31 a33 a35 a37 a39 a41 a43 a45
 else
 z1n a1 a3 (addI .i64 a5 1) a7 a9 a11 a13 a15 a17 a19 a21 a23 a25 a27 a29 a31 a33 a35 a37 a39 a41 a43 a45
 else
 Option.bind (law19_awake) fun x4 =>
 some x4
 ) (z1n a1 a3 a5 a7 a9 a11 a13 a15 a17 a19 a21 a23 a25 a27 a29 a31 a33 a35 a37 a39 a41 a43 a45) :=
 gL o0' (q08 Tryz.f6 [1,1,1,1,1,1,1,0,1,0,0])
theorem y1e (a2 : List Message) (a4 : List Claim) (a6 a8 : Int) (a10 : List Int) (a12 a14 a16 a18 : Int) (a20 : List Int) (a22 : List Trust) (a24 a26 a28 : List Claim) (a30 : List Message) (a32 a34 a36 : Int) (a38 : List Int) (a40 : List Trust) (a42 a44 a46 : List Claim) (a48 : List Message) : Le (
 bif ltB a8 a6 then
 nth a4 a8 fun y0 =>
 Option.bind (z5k a32 (Trust.mk a36 a38 a40) a48) fun x1 =>
 Option.bind (z57 a2 y0) fun x2 =>
 Option.bind (z58 x1 a32 x2) fun x3 =>
 Option.bind (z4i a46 y0) fun x4 =>
 bif x3 then
 bif !(x4 == true) then
 some false
 else
 z1s a2 a4 a6 (addI .i64 a8 1) a10 a12 a14 a16 a18 a20 a22 a24 a26 a28 a30 a32 a34 a36 a38 a40 a42 a44 a46 a48
 else
 Option.bind (z4i a28 y0) fun x5 =>
 bif !(x4 == x5) then
 some false
 else
 z1s a2 a4 a6 (addI .i64 a8 1) a10 a12 a14 a16 a18 a20 a22 a24 a26 a28 a30 a32 a34 a36 a38 a40 a42 a44 a46 a48
 else
 Option.bind (law19_awake) fun x6 =>
 some x6
 ) (z1s a2 a4 a6 a8 a10 a12 a14 a16 a18 a20 a22 a24 a26 a28 a30 a32 a34 a36 a38 a40 a42 a44 a46 a48) :=
 gL o0' (q08 Tryz.f5 [1,1,1,1,1,1,1,0,1,0,0])
theorem y5s (v_0 : Int) (t_1 : Trust) (l_2 : List Message) : Le (
 z44 v_0 l_2 (l_2.length : Int) 0 t_1.Threshold t_1.Nodes t_1.Inner ([] : List Member) (List.replicate (Int.toNat 10) (Member.mk false (Trust.mk 0 ([] : List Int) ([] : List Trust))))
 ) (z5k v_0 t_1 l_2) :=
 cL o15' Tryz.func23
theorem y3w (l_0 : List Message) (x_1 : Claim) : Le (
 z2a 0 l_0 (l_0.length : Int) 0 x_1.Topic x_1.Value
 ) (z57 l_0 x_1) :=
 cL o1' Tryz.func24
end Go.Proofs.YthbpagedblodfaaGreat
