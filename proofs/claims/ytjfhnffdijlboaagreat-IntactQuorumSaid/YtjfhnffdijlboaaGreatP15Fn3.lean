/- What the functions come to, printed by a program and checked by the kernel. -/
import Derived.Test.YtjfhnffdijlboaaGreatP15Df
namespace Go.Proofs.YtjfhnffdijlboaaGreat
open Go Go.Ab
set_option maxRecDepth 100000
theorem y1e (a0 : Int) (a4 a6 : List Int) (a8 a10 : Int) (a12 a14 : List Member) : Le (
 bif ltB a10 a8 then
 nth a6 a10 fun y0 =>
 bif eqB (q1o .i64 a0 y0) 0 then
 Option.bind (z59 (Config.mk a12) (Config.mk a14) y0) fun x1 =>
 bif x1 then
 capOk (List.length a4 + List.length ([y0] : List Int)) <|
 z1w a0 (a4 ++ ([y0] : List Int)) a6 a8 (addI .i64 a10 1) a12 a14
 else
 z1w a0 a4 a6 a8 (addI .i64 a10 1) a12 a14
 else
 z1w a0 a4 a6 a8 (addI .i64 a10 1) a12 a14
 else
 some (a4, 0)
 ) (z1w a0 a4 a6 a8 a10 a12 a14) :=
 gL o15' (q01 Tryz.f82 [1,1,1,0,1,0,0])
theorem y1r (a2 a4 : Int) (a6 a8 : List Member) : Le (
 bif ltB a4 a2 then
 nth a6 a4 fun y0 =>
 bif !y0.Declared then
 z37 a2 (addI .i64 a4 1) a6 a8
 else
 z3s a4 0 a2 a4 a6 a8
 else
 some 0
 ) (z37 a2 a4 a6 a8) :=
 gL o0' (q01 Tryz.f83 [1,1,1,1,1,0,1,0,0])
theorem y2f (a1 : List Int) (a3 a5 : Int) (a7 : List Member) : Le (
 bif ltB a5 a3 then
 nth a1 a5 fun y0 =>
 Option.bind (z1a (Config.mk a7) y0) fun x1 =>
 bif !x1 then
 z3r a1 a3 (addI .i64 a5 1) a7
 else
 Option.bind (z4a (Config.mk a7)) fun x2 =>
 Option.bind (z57 (Config.mk a7) (subI .i64 x2 y0)) fun x3 =>
 bif neB x3 0 then
 some (y0, x3)
 else
 z3r a1 a3 (addI .i64 a5 1) a7
 else
 some (0, 0)
 ) (z3r a1 a3 a5 a7) :=
 gL o7' (q01 Tryz.f89 [1,0,1,0,0])
theorem y36 (a0 : Int) (a2 : List Int) (a4 : Int) : Le (
 Option.bind (z1j a0) fun x0 =>
 bif x0 then
 bif leB a4 a0 then
 bif eqB (q1o .i64 a4 a0) 0 then
 capOk (List.length a2 + List.length ([a4] : List Int)) <|
 z2g a0 (a2 ++ ([a4] : List Int)) (addI .i64 a4 1)
 else
 z2g a0 a2 (addI .i64 a4 1)
 else
 Option.bind (z0j a2) fun x1 =>
 some x1
 else
 Option.bind (z0j a2) fun x2 =>
 some x2
 ) (z2g a0 a2 a4) :=
 gL o2' (q01 Tryz.f98 [1,1,0,1,0,0])
theorem y9j (h0 : List Int) : Le (
 Option.bind (z71 (IntKind.wrap .u64 (h0.length : Int))) fun x0 =>
 Option.bind (z01 0 (h0.length : Int) x0 h0) fun x1 =>
 some x1
 ) (z0j h0) :=
 cL o3' Tryz.func124
theorem y89 (x_0 : Int) : Le (
 Option.bind (z6y x_0) fun x0 =>
 some x0
 ) (z71 x_0) :=
 cL o0' Tryz.func142
theorem y2g (a_1 b_2 limit_3 : Int) (h0 : List Int) : Le (
 z00 a_1 b_2 limit_3 true true h0
 ) (z01 a_1 b_2 limit_3 h0) :=
 cL o3' Tryz.func141
theorem y99 (x_0 : Int) : Le (
 bif leB 4294967296 x_0 then
 bif leB 65536 (shrI .u64 x_0 32) then
 bif (leB 256 (shrI .u64 (shrI .u64 x_0 32) 16)) then
 nth ([0, 1, 2, 2, 3, 3, 3, 3, 4, 4, 4, 4, 4, 4, 4, 4, 5, 5, 5, 5, 5, 5, 5, 5, 5, 5, 5, 5, 5, 5, 5, 5, 6, 6, 6, 6, 6, 6, 6, 6, 6, 6, 6, 6, 6, 6, 6, 6, 6, 6, 6, 6, 6, 6, 6, 6, 6, 6, 6, 6, 6, 6, 6, 6, 7, 7, 7, 7, 7, 7, 7, 7, 7, 7, 7, 7, 7, 7, 7, 7, 7, 7, 7, 7, 7, 7, 7, 7, 7, 7, 7, 7, 7, 7, 7, 7, 7, 7, 7, 7, 7, 7, 7, 7, 7, 7, 7, 7, 7, 7, 7, 7, 7, 7, 7, 7, 7, 7, 7, 7, 7, 7, 7, 7, 7, 7, 7, 7, 8, 8, 8, 8, 8, 8, 8, 8, 8, 8, 8, 8, 8, 8, 8, 8, 8, 8, 8, 8, 8, 8, 8, 8, 8, 8, 8, 8, 8, 8, 8, 8, 8, 8, 8, 8, 8, 8, 8, 8, 8, 8, 8, 8, 8, 8, 8, 8, 8, 8, 8, 8, 8, 8, 8, 8, 8, 8, 8, 8, 8, 8, 8, 8, 8, 8, 8, 8, 8, 8, 8, 8, 8, 8, 8, 8, 8, 8, 8, 8, 8, 8, 8, 8, 8, 8, 8, 8, 8, 8, 8, 8, 8, 8, 8, 8, 8, 8, 8, 8, 8, 8, 8, 8, 8, 8, 8, 8, 8, 8, 8, 8, 8, 8, 8, 8, 8, 8, 8, 8, 8, 8, 8, 8, 8, 8, 8, 8] : List UInt8) (IntKind.wrap .u8 (shrI .u64 (shrI .u64 (shrI .u64 x_0 32) 16) 8)) fun y0 =>
 some (addI .i64 56 (IntKind.wrap .i64 ((y0.toNat : Nat) : Int)))
 else
 nth ([0, 1, 2, 2, 3, 3, 3, 3, 4, 4, 4, 4, 4, 4, 4, 4, 5, 5, 5, 5, 5, 5, 5, 5, 5, 5, 5, 5, 5, 5, 5, 5, 6, 6, 6, 6, 6, 6, 6, 6, 6, 6, 6, 6, 6, 6, 6, 6, 6, 6, 6, 6, 6, 6, 6, 6, 6, 6, 6, 6, 6, 6, 6, 6, 7, 7, 7, 7, 7, 7, 7, 7, 7, 7, 7, 7, 7, 7, 7, 7, 7, 7, 7, 7, 7, 7, 7, 7, 7, 7, 7, 7, 7, 7, 7, 7, 7, 7, 7, 7, 7, 7, 7, 7, 7, 7, 7, 7, 7, 7, 7, 7, 7, 7, 7, 7, 7, 7, 7, 7, 7, 7, 7, 7, 7, 7, 7, 7, 8, 8, 8, 8, 8, 8, 8, 8, 8, 8, 8, 8, 8, 8, 8, 8, 8, 8, 8, 8, 8, 8, 8, 8, 8, 8, 8, 8, 8, 8, 8, 8, 8, 8, 8, 8, 8, 8, 8, 8, 8, 8, 8, 8, 8, 8, 8, 8, 8, 8, 8, 8, 8, 8, 8, 8, 8, 8, 8, 8, 8, 8, 8, 8, 8, 8, 8, 8, 8, 8, 8, 8, 8, 8, 8, 8, 8, 8, 8, 8, 8, 8, 8, 8, 8, 8, 8, 8, 8, 8, 8, 8, 8, 8, 8, 8, 8, 8, 8, 8, 8, 8, 8, 8, 8, 8, 8, 8, 8, 8, 8, 8, 8, 8, 8, 8, 8, 8, 8, 8, 8, 8, 8, 8, 8, 8, 8, 8] : List UInt8) (IntKind.wrap .u8 (shrI .u64 (shrI .u64 x_0 32) 16)) fun y1 =>
 some (addI .i64 48 (IntKind.wrap .i64 ((y1.toNat : Nat) : Int)))
 else
 bif leB 256 (shrI .u64 x_0 32) then
 nth ([0, 1, 2, 2, 3, 3, 3, 3, 4, 4, 4, 4, 4, 4, 4, 4, 5, 5, 5, 5, 5, 5, 5, 5, 5, 5, 5, 5, 5, 5, 5, 5, 6, 6, 6, 6, 6, 6, 6, 6, 6, 6, 6, 6, 6, 6, 6, 6, 6, 6, 6, 6, 6, 6, 6, 6, 6, 6, 6, 6, 6, 6, 6, 6, 7, 7, 7, 7, 7, 7, 7, 7, 7, 7, 7, 7, 7, 7, 7, 7, 7, 7, 7, 7, 7, 7, 7, 7, 7, 7, 7, 7, 7, 7, 7, 7, 7, 7, 7, 7, 7, 7, 7, 7, 7, 7, 7, 7, 7, 7, 7, 7, 7, 7, 7, 7, 7, 7, 7, 7, 7, 7, 7, 7, 7, 7, 7, 7, 8, 8, 8, 8, 8, 8, 8, 8, 8, 8, 8, 8, 8, 8, 8, 8, 8, 8, 8, 8, 8, 8, 8, 8, 8, 8, 8, 8, 8, 8, 8, 8, 8, 8, 8, 8, 8, 8, 8, 8, 8, 8, 8, 8, 8, 8, 8, 8, 8, 8, 8, 8, 8, 8, 8, 8, 8, 8, 8, 8, 8, 8, 8, 8, 8, 8, 8, 8, 8, 8, 8, 8, 8, 8, 8, 8, 8, 8, 8, 8, 8, 8, 8, 8, 8, 8, 8, 8, 8, 8, 8, 8, 8, 8, 8, 8, 8, 8, 8, 8, 8, 8, 8, 8, 8, 8, 8, 8, 8, 8, 8, 8, 8, 8, 8, 8, 8, 8, 8, 8, 8, 8, 8, 8, 8, 8, 8, 8] : List UInt8) (IntKind.wrap .u8 (shrI .u64 (shrI .u64 x_0 32) 8)) fun y2 =>
 some (addI .i64 40 (IntKind.wrap .i64 ((y2.toNat : Nat) : Int)))
 else
 nth ([0, 1, 2, 2, 3, 3, 3, 3, 4, 4, 4, 4, 4, 4, 4, 4, 5, 5, 5, 5, 5, 5, 5, 5, 5, 5, 5, 5, 5, 5, 5, 5, 6, 6, 6, 6, 6, 6, 6, 6, 6, 6, 6, 6, 6, 6, 6, 6, 6, 6, 6, 6, 6, 6, 6, 6, 6, 6, 6, 6, 6, 6, 6, 6, 7, 7, 7, 7, 7, 7, 7, 7, 7, 7, 7, 7, 7, 7, 7, 7, 7, 7, 7, 7, 7, 7, 7, 7, 7, 7, 7, 7, 7, 7, 7, 7, 7, 7, 7, 7, 7, 7, 7, 7, 7, 7, 7, 7, 7, 7, 7, 7, 7, 7, 7, 7, 7, 7, 7, 7, 7, 7, 7, 7, 7, 7, 7, 7, 8, 8, 8, 8, 8, 8, 8, 8, 8, 8, 8, 8, 8, 8, 8, 8, 8, 8, 8, 8, 8, 8, 8, 8, 8, 8, 8, 8, 8, 8, 8, 8, 8, 8, 8, 8, 8, 8, 8, 8, 8, 8, 8, 8, 8, 8, 8, 8, 8, 8, 8, 8, 8, 8, 8, 8, 8, 8, 8, 8, 8, 8, 8, 8, 8, 8, 8, 8, 8, 8, 8, 8, 8, 8, 8, 8, 8, 8, 8, 8, 8, 8, 8, 8, 8, 8, 8, 8, 8, 8, 8, 8, 8, 8, 8, 8, 8, 8, 8, 8, 8, 8, 8, 8, 8, 8, 8, 8, 8, 8, 8, 8, 8, 8, 8, 8, 8, 8, 8, 8, 8, 8, 8, 8, 8, 8, 8, 8] : List UInt8) (IntKind.wrap .u8 (shrI .u64 x_0 32)) fun y3 =>
 some (addI .i64 32 (IntKind.wrap .i64 ((y3.toNat : Nat) : Int)))
 else
 bif leB 65536 x_0 then
 bif leB 256 (shrI .u64 x_0 16) then
 nth ([0, 1, 2, 2, 3, 3, 3, 3, 4, 4, 4, 4, 4, 4, 4, 4, 5, 5, 5, 5, 5, 5, 5, 5, 5, 5, 5, 5, 5, 5, 5, 5, 6, 6, 6, 6, 6, 6, 6, 6, 6, 6, 6, 6, 6, 6, 6, 6, 6, 6, 6, 6, 6, 6, 6, 6, 6, 6, 6, 6, 6, 6, 6, 6, 7, 7, 7, 7, 7, 7, 7, 7, 7, 7, 7, 7, 7, 7, 7, 7, 7, 7, 7, 7, 7, 7, 7, 7, 7, 7, 7, 7, 7, 7, 7, 7, 7, 7, 7, 7, 7, 7, 7, 7, 7, 7, 7, 7, 7, 7, 7, 7, 7, 7, 7, 7, 7, 7, 7, 7, 7, 7, 7, 7, 7, 7, 7, 7, 8, 8, 8, 8, 8, 8, 8, 8, 8, 8, 8, 8, 8, 8, 8, 8, 8, 8, 8, 8, 8, 8, 8, 8, 8, 8, 8, 8, 8, 8, 8, 8, 8, 8, 8, 8, 8, 8, 8, 8, 8, 8, 8, 8, 8, 8, 8, 8, 8, 8, 8, 8, 8, 8, 8, 8, 8, 8, 8, 8, 8, 8, 8, 8, 8, 8, 8, 8, 8, 8, 8, 8, 8, 8, 8, 8, 8, 8, 8, 8, 8, 8, 8, 8, 8, 8, 8, 8, 8, 8, 8, 8, 8, 8, 8, 8, 8, 8, 8, 8, 8, 8, 8, 8, 8, 8, 8, 8, 8, 8, 8, 8, 8, 8, 8, 8, 8, 8, 8, 8, 8, 8, 8, 8, 8, 8, 8, 8] : List UInt8) (IntKind.wrap .u8 (shrI .u64 (shrI .u64 x_0 16) 8)) fun y4 =>
 some (addI .i64 24 (IntKind.wrap .i64 ((y4.toNat : Nat) : Int)))
 else
 nth ([0, 1, 2, 2, 3, 3, 3, 3, 4, 4, 4, 4, 4, 4, 4, 4, 5, 5, 5, 5, 5, 5, 5, 5, 5, 5, 5, 5, 5, 5, 5, 5, 6, 6, 6, 6, 6, 6, 6, 6, 6, 6, 6, 6, 6, 6, 6, 6, 6, 6, 6, 6, 6, 6, 6, 6, 6, 6, 6, 6, 6, 6, 6, 6, 7, 7, 7, 7, 7, 7, 7, 7, 7, 7, 7, 7, 7, 7, 7, 7, 7, 7, 7, 7, 7, 7, 7, 7, 7, 7, 7, 7, 7, 7, 7, 7, 7, 7, 7, 7, 7, 7, 7, 7, 7, 7, 7, 7, 7, 7, 7, 7, 7, 7, 7, 7, 7, 7, 7, 7, 7, 7, 7, 7, 7, 7, 7, 7, 8, 8, 8, 8, 8, 8, 8, 8, 8, 8, 8, 8, 8, 8, 8, 8, 8, 8, 8, 8, 8, 8, 8, 8, 8, 8, 8, 8, 8, 8, 8, 8, 8, 8, 8, 8, 8, 8, 8, 8, 8, 8, 8, 8, 8, 8, 8, 8, 8, 8, 8, 8, 8, 8, 8, 8, 8, 8, 8, 8, 8, 8, 8, 8, 8, 8, 8, 8, 8, 8, 8, 8, 8, 8, 8, 8, 8, 8, 8, 8, 8, 8, 8, 8, 8, 8, 8, 8, 8, 8, 8, 8, 8, 8, 8, 8, 8, 8, 8, 8, 8, 8, 8, 8, 8, 8, 8, 8, 8, 8, 8, 8, 8, 8, 8, 8, 8, 8, 8, 8, 8, 8, 8, 8, 8, 8, 8, 8] : List UInt8) (IntKind.wrap .u8 (shrI .u64 x_0 16)) fun y5 =>
 some (addI .i64 16 (IntKind.wrap .i64 ((y5.toNat : Nat) : Int)))
 else
 bif leB 256 x_0 then
 nth ([0, 1, 2, 2, 3, 3, 3, 3, 4, 4, 4, 4, 4, 4, 4, 4, 5, 5, 5, 5, 5, 5, 5, 5, 5, 5, 5, 5, 5, 5, 5, 5, 6, 6, 6, 6, 6, 6, 6, 6, 6, 6, 6, 6, 6, 6, 6, 6, 6, 6, 6, 6, 6, 6, 6, 6, 6, 6, 6, 6, 6, 6, 6, 6, 7, 7, 7, 7, 7, 7, 7, 7, 7, 7, 7, 7, 7, 7, 7, 7, 7, 7, 7, 7, 7, 7, 7, 7, 7, 7, 7, 7, 7, 7, 7, 7, 7, 7, 7, 7, 7, 7, 7, 7, 7, 7, 7, 7, 7, 7, 7, 7, 7, 7, 7, 7, 7, 7, 7, 7, 7, 7, 7, 7, 7, 7, 7, 7, 8, 8, 8, 8, 8, 8, 8, 8, 8, 8, 8, 8, 8, 8, 8, 8, 8, 8, 8, 8, 8, 8, 8, 8, 8, 8, 8, 8, 8, 8, 8, 8, 8, 8, 8, 8, 8, 8, 8, 8, 8, 8, 8, 8, 8, 8, 8, 8, 8, 8, 8, 8, 8, 8, 8, 8, 8, 8, 8, 8, 8, 8, 8, 8, 8, 8, 8, 8, 8, 8, 8, 8, 8, 8, 8, 8, 8, 8, 8, 8, 8, 8, 8, 8, 8, 8, 8, 8, 8, 8, 8, 8, 8, 8, 8, 8, 8, 8, 8, 8, 8, 8, 8, 8, 8, 8, 8, 8, 8, 8, 8, 8, 8, 8, 8, 8, 8, 8, 8, 8, 8, 8, 8, 8, 8, 8, 8, 8] : List UInt8) (IntKind.wrap .u8 (shrI .u64 x_0 8)) fun y6 =>
 some (addI .i64 8 (IntKind.wrap .i64 ((y6.toNat : Nat) : Int)))
 else
 nth ([0, 1, 2, 2, 3, 3, 3, 3, 4, 4, 4, 4, 4, 4, 4, 4, 5, 5, 5, 5, 5, 5, 5, 5, 5, 5, 5, 5, 5, 5, 5, 5, 6, 6, 6, 6, 6, 6, 6, 6, 6, 6, 6, 6, 6, 6, 6, 6, 6, 6, 6, 6, 6, 6, 6, 6, 6, 6, 6, 6, 6, 6, 6, 6, 7, 7, 7, 7, 7, 7, 7, 7, 7, 7, 7, 7, 7, 7, 7, 7, 7, 7, 7, 7, 7, 7, 7, 7, 7, 7, 7, 7, 7, 7, 7, 7, 7, 7, 7, 7, 7, 7, 7, 7, 7, 7, 7, 7, 7, 7, 7, 7, 7, 7, 7, 7, 7, 7, 7, 7, 7, 7, 7, 7, 7, 7, 7, 7, 8, 8, 8, 8, 8, 8, 8, 8, 8, 8, 8, 8, 8, 8, 8, 8, 8, 8, 8, 8, 8, 8, 8, 8, 8, 8, 8, 8, 8, 8, 8, 8, 8, 8, 8, 8, 8, 8, 8, 8, 8, 8, 8, 8, 8, 8, 8, 8, 8, 8, 8, 8, 8, 8, 8, 8, 8, 8, 8, 8, 8, 8, 8, 8, 8, 8, 8, 8, 8, 8, 8, 8, 8, 8, 8, 8, 8, 8, 8, 8, 8, 8, 8, 8, 8, 8, 8, 8, 8, 8, 8, 8, 8, 8, 8, 8, 8, 8, 8, 8, 8, 8, 8, 8, 8, 8, 8, 8, 8, 8, 8, 8, 8, 8, 8, 8, 8, 8, 8, 8, 8, 8, 8, 8, 8, 8, 8, 8] : List UInt8) (IntKind.wrap .u8 x_0) fun y7 =>
 some (addI .i64 0 (IntKind.wrap .i64 ((y7.toNat : Nat) : Int)))
 ) (z6y x_0) :=
 cL o0' Tryz.func162
theorem y2e (a0 : Int) (a4 : List Member) (a6 a8 : Int) (a10 a12 a14 : List Member) : Le (
 bif ltB a8 a6 then
 nth a4 a8 fun y0 =>
 Option.bind (z24 a0 a8) fun x1 =>
 bif x1 then
 capOk (List.length a14 + List.length ([(Member.mk false (Trust.mk 0 ([] : List Int) ([] : List Trust)))] : List Member)) <|
 z1m a0 a4 a6 (addI .i64 a8 1) a10 a12 (a14 ++ ([(Member.mk false (Trust.mk 0 ([] : List Int) ([] : List Trust)))] : List Member))
 else
 bif y0.Declared then
 Option.bind (z5x y0.Trust a8 a0) fun x2 =>
 capOk (List.length a14 + List.length ([(Member.mk y0.Declared (Trust.mk x2.Threshold x2.Nodes x2.Inner))] : List Member)) <|
 z1m a0 a4 a6 (addI .i64 a8 1) a10 a12 (a14 ++ ([(Member.mk y0.Declared (Trust.mk x2.Threshold x2.Nodes x2.Inner))] : List Member))
 else
 Option.bind (z3y y0.Trust) fun x3 =>
 capOk (List.length a14 + List.length ([(Member.mk y0.Declared (Trust.mk x3.Threshold x3.Nodes x3.Inner))] : List Member)) <|
 z1m a0 a4 a6 (addI .i64 a8 1) a10 a12 (a14 ++ ([(Member.mk y0.Declared (Trust.mk x3.Threshold x3.Nodes x3.Inner))] : List Member))
 else
 some (Config.mk a14)
 ) (z1m a0 a4 a6 a8 a10 a12 a14) :=
 gL o5' (q01 Tryz.f59 [1,1,0,1,0,0])
theorem y9r (t_0 : Trust) (node_1 s_2 : Int) : Le (
 Option.bind (z1j s_2) fun x0 =>
 bif !x0 then
 Option.bind (z3y t_0) fun x1 =>
 some (Trust.mk x1.Threshold x1.Nodes x1.Inner)
 else
 Option.bind (z5a t_0 s_2) fun x2 =>
 bif eqB x2.Threshold 0 then
 some (Trust.mk 1 ([node_1] : List Int) ([] : List Trust))
 else
 some (Trust.mk x2.Threshold x2.Nodes x2.Inner)
 ) (z5x t_0 node_1 s_2) :=
 cL o4' Tryz.func96
theorem y8f (t_0 : Trust) : Le (
 capOk (List.length ([] : List Int) + List.length t_0.Nodes) <|
 z32 t_0.Inner (t_0.Inner.length : Int) 0 t_0.Threshold t_0.Nodes t_0.Inner 0 ([] : List Int) ([] : List Trust) t_0.Threshold (([] : List Int) ++ t_0.Nodes) ([] : List Trust)
 ) (z3y t_0) :=
 cL o4' Tryz.func97
theorem y64 (t_0 : Trust) (s_1 : Int) : Le (
 z2s s_1 t_0.Nodes (t_0.Nodes.length : Int) 0 t_0.Threshold t_0.Nodes t_0.Inner 0 ([] : List Int) ([] : List Trust) (if 0 > t_0.Threshold then 0 else t_0.Threshold) ([] : List Int) ([] : List Trust)
 ) (z5a t_0 s_1) :=
 cL o4' Tryz.func123
theorem y2w (a1 : List Member) (a3 a5 : Int) (a7 a9 : List Member) : Le (
 bif ltB a5 a3 then
 nth a1 a5 fun y0 =>
 bif !y0.Declared then
 z1x a1 a3 (addI .i64 a5 1) a7 a9
 else
 nth a7 a5 fun y1 =>
 Option.bind (z5y y0.Trust y1.Trust) fun x2 =>
 bif !x2.1 then
 some 14
 else
 z1x a1 a3 (addI .i64 a5 1) a7 a9
 else
 some 0
 ) (z1x a1 a3 a5 a7 a9) :=
 gL o0' (q01 Tryz.f66 [1,1,1,1,1,0,1,0,0])
theorem y9i (a_0 b_1 : Trust) : Le (
 Option.bind (z6e a_0 b_1) fun x0 =>
 bif neB x0 0 then
 some (false, 0, x0)
 else
 Option.bind (z5p a_0.Threshold a_0.Nodes a_0.Inner b_1.Threshold b_1.Nodes b_1.Inner) fun x1 =>
 some ((!x1.2.1), x1.1, 0)
 ) (z5y a_0 b_1) :=
 cL ⟨[.lf .b, .lf (.i .i64), .lf (.i .i64)],[]⟩ Tryz.func103
theorem y66 (a_0 b_1 : Trust) : Le (
 Option.bind (z3z a_0) fun x0 =>
 bif neB x0 0 then
 some x0
 else
 Option.bind (z3z b_1) fun x1 =>
 some x1
 ) (z6e a_0 b_1) :=
 cL o0' Tryz.func126
theorem ya6 (t_0 : Trust) : Le (
 Option.bind (z4s t_0) fun x0 =>
 bif ltB 4 x0 then
 some 3
 else
 Option.bind (z5b t_0) fun x1 =>
 bif ltB 200 x1 then
 some 3
 else
 Option.bind (z4t t_0) fun x2 =>
 some x2
 ) (z3z t_0) :=
 cL o0' Tryz.func136
theorem y7o (s_0 h0 : Int) (h1 : List Int) (h2 : List Trust) (h3 : Int) (h4 : List Int) (h5 : List Trust) : Le (
 Option.bind (z1h (Trust.mk h0 h1 h2) s_0) fun x0 =>
 bif x0 then
 Option.bind (z1h (Trust.mk h3 h4 h5) s_0) fun x1 =>
 some ((!x1), h0, h1, h2, h3, h4, h5)
 else
 some (false, h0, h1, h2, h3, h4, h5)
 ) (z63 s_0 h0 h1 h2 h3 h4 h5) :=
 cL ⟨[.lf .b],[[.lf (.i .i64), .lf (.l .i64), .lf (.l .Trust)],[.lf (.i .i64), .lf (.l .i64), .lf (.l .Trust)]]⟩ Tryz.func128
theorem y5s (t_0 : Trust) : Le (
 z33 0 t_0.Inner (t_0.Inner.length : Int) 0 t_0.Threshold t_0.Nodes t_0.Inner
 ) (z4s t_0) :=
 cL o0' Tryz.func148
theorem y9q (t_0 : Trust) : Le (
 z3c (addI .i64 (t_0.Nodes.length : Int) (t_0.Inner.length : Int)) t_0.Inner (t_0.Inner.length : Int) 0 t_0.Threshold t_0.Nodes t_0.Inner
 ) (z5b t_0) :=
 cL o0' Tryz.func149
theorem y7k (t_0 : Trust) : Le (
 bif ltB t_0.Threshold 1 then
 some 4
 else
 bif (ltB (addI .i64 (t_0.Nodes.length : Int) (t_0.Inner.length : Int)) t_0.Threshold) then
 some 4
 else
 Option.bind (z13 t_0.Nodes) fun x0 =>
 bif x0 then
 some 5
 else
 Option.bind (z6z t_0.Nodes) fun x1 =>
 bif neB x1.2 0 then
 some x1.2
 else
 z34 t_0.Inner (t_0.Inner.length : Int) 0 t_0.Threshold t_0.Nodes t_0.Inner
 ) (z4t t_0) :=
 cL o0' Tryz.func150
theorem y8b (t_0 : Trust) (s_1 : Int) : Le (
 Option.bind (z1j s_1) fun x0 =>
 bif !x0 then
 some false
 else
 z1n s_1 0 t_0.Nodes (t_0.Nodes.length : Int) 0 t_0.Threshold t_0.Nodes t_0.Inner
 ) (z1h t_0 s_1) :=
 cL o1' Tryz.func93
theorem y75 (s_0 : List Int) : Le (
 Option.bind (z19 s_0) fun x0 =>
 some (leB 0 x0)
 ) (z13 s_0) :=
 cL o1' Tryz.func164
theorem y7t (nodes_0 : List Int) : Le (
 z3k 0 nodes_0 (nodes_0.length : Int) 0
 ) (z6z nodes_0) :=
 cL o7' Tryz.func166
theorem y5i (s_0 : List Int) : Le (
 z0e s_0 (s_0.length : Int) 0
 ) (z19 s_0) :=
 cL o0' Tryz.func174
theorem y0p (a1 : List Member) (a3 a5 : Int) (a7 : List Member) : Le (
 bif ltB a5 a3 then
 nth a1 a5 fun y0 =>
 Option.bind (z40 y0 (a7.length : Int)) fun x1 =>
 bif neB x1 0 then
 some x1
 else
 z26 a1 a3 (addI .i64 a5 1) a7
 else
 some 0
 ) (z26 a1 a3 a5 a7) :=
 gL o0' (q01 Tryz.f94 [1,1,0,1,0,0])
theorem y6k (m_0 : Member) (members_1 : Int) : Le (
 bif !m_0.Declared then
 Option.bind (z4e m_0.Trust) fun x0 =>
 bif !x0 then
 some 1
 else
 some 0
 else
 Option.bind (z3z m_0.Trust) fun x1 =>
 bif neB x1 0 then
 some x1
 else
 chk (0 ≤ members_1) <|
 Option.bind (z5c m_0.Trust) fun x2 =>
 bif leB (shlI .i64 1 members_1) x2 then
 some 5
 else
 some 0
 ) (z40 m_0 members_1) :=
 cL o0' Tryz.func119
theorem y8a (t_0 : Trust) : Le (
 bif eqB t_0.Threshold 0 then
 bif (eqB (t_0.Nodes.length : Int) 0) then
 some (eqB (t_0.Inner.length : Int) 0)
 else
 some false
 else
 some false
 ) (z4e t_0) :=
 cL o1' Tryz.func135
theorem y93 (t_0 : Trust) : Le (
 z2t 0 t_0.Nodes (t_0.Nodes.length : Int) 0 t_0.Threshold t_0.Nodes t_0.Inner
 ) (z5c t_0) :=
 cL o0' Tryz.func137
theorem qvk (a1 a3 : Int) (a5 : Bool) (a7 : List Member) : Le (
 bif a5 then
 Option.bind (z1t (Config.mk a7) a3) fun x0 =>
 bif !x0 then
 Option.bind (z5h a3 a1) fun x1 =>
 z1c a1 x1.1 x1.2 a7
 else
 Option.bind (z2j (Config.mk a7)) fun x2 =>
 Option.bind (z5i (Config.mk a7) (q1o .i64 x2 a3)) fun x3 =>
 bif neB x3 0 then
 some (a3, x3)
 else
 Option.bind (z5h a3 a1) fun x4 =>
 z1c a1 x4.1 x4.2 a7
 else
 some (0, 0)
 ) (z1c a1 a3 a5 a7) :=
 gL o7' (q01 Tryz.f95 [1,1,0,1,0,0])
theorem y9e (s_0 n_1 : Int) : Le (
 bif ltB n_1 0 then
 some (0, false)
 else
 bif ltB 10 n_1 then
 some (0, false)
 else
 Option.bind (z2o s_0 n_1) fun x0 =>
 bif !x0 then
 some (0, false)
 else
 Option.bind (z5j s_0) fun x1 =>
 z2x n_1 x1 (addI .i64 s_0 1)
 ) (z5h s_0 n_1) :=
 cL o17' Tryz.func120
theorem y0o (c_0 : Config) : Le (
 chk (0 ≤ (c_0.Members.length : Int)) <|
 some (subI .i64 (shlI .i64 1 (c_0.Members.length : Int)) 1)
 ) (z2j c_0) :=
 cL o0' Tryz.func122
theorem y5w (c_0 : Config) (s_1 : Int) : Le (
 Option.bind (z50 c_0 s_1) fun x0 =>
 some x0.1
 ) (z5i c_0 s_1) :=
 cL o0' Tryz.func121
theorem y5p (s_0 : Int) : Le (
 Option.bind (z1j s_0) fun x0 =>
 bif !x0 then
 some 0
 else
 Option.bind (z5z (IntKind.wrap .u64 s_0)) fun x1 =>
 some x1
 ) (z5j s_0) :=
 cL o0' Tryz.func138
theorem ya5 (c_0 : Config) (s_1 : Int) : Le (
 Option.bind (z1j s_1) fun x0 =>
 bif !x0 then
 some (0, ([] : List Int))
 else
 Option.bind (z1b c_0) fun x1 =>
 z2l (andI .i64 s_1 x1) ([] : List Int) c_0.Members
 ) (z50 c_0 s_1) :=
 cL o23' Tryz.func139
theorem y8n (x_0 : Int) : Le (
 Option.bind (z5k x_0) fun x0 =>
 some x0
 ) (z5z x_0) :=
 cL o0' Tryz.func152
theorem y1f (x_0 : Int) : Le (
 some (andI .i64 (IntKind.wrap .i64 (addI .u64 (addI .u64 (addI .u64 (andI .u64 (addI .u64 (shrI .u64 (addI .u64 (andI .u64 (shrI .u64 (addI .u64 (andI .u64 (shrI .u64 x_0 1) 6148914691236517205) (andI .u64 x_0 6148914691236517205)) 2) 3689348814741910323) (andI .u64 (addI .u64 (andI .u64 (shrI .u64 x_0 1) 6148914691236517205) (andI .u64 x_0 6148914691236517205)) 3689348814741910323)) 4) (addI .u64 (andI .u64 (shrI .u64 (addI .u64 (andI .u64 (shrI .u64 x_0 1) 6148914691236517205) (andI .u64 x_0 6148914691236517205)) 2) 3689348814741910323) (andI .u64 (addI .u64 (andI .u64 (shrI .u64 x_0 1) 6148914691236517205) (andI .u64 x_0 6148914691236517205)) 3689348814741910323))) 1085102592571150095) (shrI .u64 (andI .u64 (addI .u64 (shrI .u64 (addI .u64 (andI .u64 (shrI .u64 (addI .u64 (andI .u64 (shrI .u64 x_0 1) 6148914691236517205) (andI .u64 x_0 6148914691236517205)) 2) 3689348814741910323) (andI .u64 (addI .u64 (andI .u64 (shrI .u64 x_0 1) 6148914691236517205) (andI .u64 x_0 6148914691236517205)) 3689348814741910323)) 4) (addI .u64 (andI .u64 (shrI .u64 (addI .u64 (andI .u64 (shrI .u64 x_0 1) 6148914691236517205) (andI .u64 x_0 6148914691236517205)) 2) 3689348814741910323) (andI .u64 (addI .u64 (andI .u64 (shrI .u64 x_0 1) 6148914691236517205) (andI .u64 x_0 6148914691236517205)) 3689348814741910323))) 1085102592571150095) 8)) (shrI .u64 (addI .u64 (andI .u64 (addI .u64 (shrI .u64 (addI .u64 (andI .u64 (shrI .u64 (addI .u64 (andI .u64 (shrI .u64 x_0 1) 6148914691236517205) (andI .u64 x_0 6148914691236517205)) 2) 3689348814741910323) (andI .u64 (addI .u64 (andI .u64 (shrI .u64 x_0 1) 6148914691236517205) (andI .u64 x_0 6148914691236517205)) 3689348814741910323)) 4) (addI .u64 (andI .u64 (shrI .u64 (addI .u64 (andI .u64 (shrI .u64 x_0 1) 6148914691236517205) (andI .u64 x_0 6148914691236517205)) 2) 3689348814741910323) (andI .u64 (addI .u64 (andI .u64 (shrI .u64 x_0 1) 6148914691236517205) (andI .u64 x_0 6148914691236517205)) 3689348814741910323))) 1085102592571150095) (shrI .u64 (andI .u64 (addI .u64 (shrI .u64 (addI .u64 (andI .u64 (shrI .u64 (addI .u64 (andI .u64 (shrI .u64 x_0 1) 6148914691236517205) (andI .u64 x_0 6148914691236517205)) 2) 3689348814741910323) (andI .u64 (addI .u64 (andI .u64 (shrI .u64 x_0 1) 6148914691236517205) (andI .u64 x_0 6148914691236517205)) 3689348814741910323)) 4) (addI .u64 (andI .u64 (shrI .u64 (addI .u64 (andI .u64 (shrI .u64 x_0 1) 6148914691236517205) (andI .u64 x_0 6148914691236517205)) 2) 3689348814741910323) (andI .u64 (addI .u64 (andI .u64 (shrI .u64 x_0 1) 6148914691236517205) (andI .u64 x_0 6148914691236517205)) 3689348814741910323))) 1085102592571150095) 8)) 16)) (shrI .u64 (addI .u64 (addI .u64 (andI .u64 (addI .u64 (shrI .u64 (addI .u64 (andI .u64 (shrI .u64 (addI .u64 (andI .u64 (shrI .u64 x_0 1) 6148914691236517205) (andI .u64 x_0 6148914691236517205)) 2) 3689348814741910323) (andI .u64 (addI .u64 (andI .u64 (shrI .u64 x_0 1) 6148914691236517205) (andI .u64 x_0 6148914691236517205)) 3689348814741910323)) 4) (addI .u64 (andI .u64 (shrI .u64 (addI .u64 (andI .u64 (shrI .u64 x_0 1) 6148914691236517205) (andI .u64 x_0 6148914691236517205)) 2) 3689348814741910323) (andI .u64 (addI .u64 (andI .u64 (shrI .u64 x_0 1) 6148914691236517205) (andI .u64 x_0 6148914691236517205)) 3689348814741910323))) 1085102592571150095) (shrI .u64 (andI .u64 (addI .u64 (shrI .u64 (addI .u64 (andI .u64 (shrI .u64 (addI .u64 (andI .u64 (shrI .u64 x_0 1) 6148914691236517205) (andI .u64 x_0 6148914691236517205)) 2) 3689348814741910323) (andI .u64 (addI .u64 (andI .u64 (shrI .u64 x_0 1) 6148914691236517205) (andI .u64 x_0 6148914691236517205)) 3689348814741910323)) 4) (addI .u64 (andI .u64 (shrI .u64 (addI .u64 (andI .u64 (shrI .u64 x_0 1) 6148914691236517205) (andI .u64 x_0 6148914691236517205)) 2) 3689348814741910323) (andI .u64 (addI .u64 (andI .u64 (shrI .u64 x_0 1) 6148914691236517205) (andI .u64 x_0 6148914691236517205)) 3689348814741910323))) 1085102592571150095) 8)) (shrI .u64 (addI .u64 (andI .u64 (addI .u64 (shrI .u64 (addI .u64 (andI .u64 (shrI .u64 (addI .u64 (andI .u64 (shrI .u64 x_0 1) 6148914691236517205) (andI .u64 x_0 6148914691236517205)) 2) 3689348814741910323) (andI .u64 (addI .u64 (andI .u64 (shrI .u64 x_0 1) 6148914691236517205) (andI .u64 x_0 6148914691236517205)) 3689348814741910323)) 4) (addI .u64 (andI .u64 (shrI .u64 (addI .u64 (andI .u64 (shrI .u64 x_0 1) 6148914691236517205) (andI .u64 x_0 6148914691236517205)) 2) 3689348814741910323) (andI .u64 (addI .u64 (andI .u64 (shrI .u64 x_0 1) 6148914691236517205) (andI .u64 x_0 6148914691236517205)) 3689348814741910323))) 1085102592571150095) (shrI .u64 (andI .u64 (addI .u64 (shrI .u64 (addI .u64 (andI .u64 (shrI .u64 (addI .u64 (andI .u64 (shrI .u64 x_0 1) 6148914691236517205) (andI .u64 x_0 6148914691236517205)) 2) 3689348814741910323) (andI .u64 (addI .u64 (andI .u64 (shrI .u64 x_0 1) 6148914691236517205) (andI .u64 x_0 6148914691236517205)) 3689348814741910323)) 4) (addI .u64 (andI .u64 (shrI .u64 (addI .u64 (andI .u64 (shrI .u64 x_0 1) 6148914691236517205) (andI .u64 x_0 6148914691236517205)) 2) 3689348814741910323) (andI .u64 (addI .u64 (andI .u64 (shrI .u64 x_0 1) 6148914691236517205) (andI .u64 x_0 6148914691236517205)) 3689348814741910323))) 1085102592571150095) 8)) 16)) 32))) 127)
 ) (z5k x_0) :=
 cL o0' Tryz.func168
theorem y1t (a0 : Int) (a2 : List Member) (a4 a6 : Int) (a8 : List Member) : Le (
 bif ltB a6 a4 then
 nth a2 a6 fun y0 =>
 bif y0.Declared then
 bif ltB a6 10 then
 chk (0 ≤ a6) <|
 z18 (orI .i64 a0 (shlI .i64 1 a6)) a2 a4 (addI .i64 a6 1) a8
 else
 z18 a0 a2 a4 (addI .i64 a6 1) a8
 else
 z18 a0 a2 a4 (addI .i64 a6 1) a8
 else
 some a0
 ) (z18 a0 a2 a4 a6 a8) :=
 gL o0' (q01 Tryz.f92 [1,1,0,1,0,0])
end Go.Proofs.YtjfhnffdijlboaaGreat
