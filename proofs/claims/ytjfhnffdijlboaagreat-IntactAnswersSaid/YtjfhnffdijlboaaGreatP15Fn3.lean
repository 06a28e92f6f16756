/- What the functions come to, printed by a program and checked by the kernel. -/
import Derived.Test.YtjfhnffdijlboaaGreatP15Df
namespace Go.Proofs.YtjfhnffdijlboaaGreat
open Go Go.Ab
set_option maxRecDepth 100000
theorem y2g (a0 : Int) (a4 a6 : List Int) (a8 a10 : Int) (a12 a14 : List Member) : Le (
 bif ltB a10 a8 then
 nth a6 a10 fun y0 =>
 bif eqB (q1w .i64 a0 y0) 0 then
 Option.bind (z5o (Config.mk a12) (Config.mk a14) y0) fun x1 =>
 bif x1 then
 capOk (List.length a4 + List.length ([y0] : List Int)) <|
 z1x a0 (a4 ++ ([y0] : List Int)) a6 a8 (addI .i64 a10 1) a12 a14
 else
 z1x a0 a4 a6 a8 (addI .i64 a10 1) a12 a14
 else
 z1x a0 a4 a6 a8 (addI .i64 a10 1) a12 a14
 else
 some (a4, 0)
 ) (z1x a0 a4 a6 a8 a10 a12 a14) :=
 gL o16' (q0a Tryz.f82 [1,1,1,0,1,0,0])
theorem y0u (a2 a4 : Int) (a6 a8 : List Member) : Le (
 bif ltB a4 a2 then
 nth a6 a4 fun y0 =>
 bif !y0.Declared then
 z35 a2 (addI .i64 a4 1) a6 a8
 else
 z3y a4 0 a2 a4 a6 a8
 else
 some 0
 ) (z35 a2 a4 a6 a8) :=
 gL o0' (q0a Tryz.f83 [1,1,1,1,1,0,1,0,0])
theorem y3q (a1 : List Int) (a3 a5 : Int) (a7 : List Member) : Le (
 bif ltB a5 a3 then
 nth a1 a5 fun y0 =>
 Option.bind (z1q (Config.mk a7) y0) fun x1 =>
 bif !x1 then
 z3x a1 a3 (addI .i64 a5 1) a7
 else
 Option.bind (z4j (Config.mk a7)) fun x2 =>
 Option.bind (z67 (Config.mk a7) (subI .i64 x2 y0)) fun x3 =>
 bif neB x3 0 then
 some (y0, x3)
 else
 z3x a1 a3 (addI .i64 a5 1) a7
 else
 some (0, 0)
 ) (z3x a1 a3 a5 a7) :=
 gL o5' (q0a Tryz.f89 [1,0,1,0,0])
theorem y0l (a0 : Int) (a2 : List Int) (a4 : Int) : Le (
 Option.bind (z1j a0) fun x0 =>
 bif x0 then
 bif leB a4 a0 then
 bif eqB (q1w .i64 a4 a0) 0 then
 capOk (List.length a2 + List.length ([a4] : List Int)) <|
 z2d a0 (a2 ++ ([a4] : List Int)) (addI .i64 a4 1)
 else
 z2d a0 a2 (addI .i64 a4 1)
 else
 Option.bind (z0j a2) fun x1 =>
 some x1
 else
 Option.bind (z0j a2) fun x2 =>
 some x2
 ) (z2d a0 a2 a4) :=
 gL o2' (q0a Tryz.f98 [1,1,0,1,0,0])
theorem y9r (h0 : List Int) : Le (
 Option.bind (z7g (IntKind.wrap .u64 (h0.length : Int))) fun x0 =>
 Option.bind (z01 0 (h0.length : Int) x0 h0) fun x1 =>
 some x1
 ) (z0j h0) :=
 cL o3' Tryz.func124
theorem y9v (x_0 : Int) : Le (
 Option.bind (z7c x_0) fun x0 =>
 some x0
 ) (z7g x_0) :=
 cL o0' Tryz.func142
theorem y3y (a_1 b_2 limit_3 : Int) (h0 : List Int) : Le (
 z00 a_1 b_2 limit_3 true true h0
 ) (z01 a_1 b_2 limit_3 h0) :=
 cL o3' Tryz.func141
theorem y7o (x_0 : Int) : Le (
 bif leB 4294967296 x_0 then
 bif leB 65536 (shrI .u64 x_0 32) then
 bif (leB 256 (shrI .u64 (shrI .u64 x_0 32) 16)) then
 nth ([0, 1, 2, 2, 3, 3, 3, 3, 4, 4, 4, 4, 4, 4, 4, 4, 5, 5, 5, 5, 5, 5, 5, 5, 5, 5, 5, 5, 5, 5, 5, 5, 6, 6, 6, 6, 6, 6, 6, 6, 6, 6, 6, 6, 6, 6, 6, 6, 6, 6, 6, 6, 6, 6, 6, 6, 6, 6, 6, 6, 6, 6, 6, 6, 7, 7, 7, 7, 7, 7, 7, 7, 7, 7, 7, 7, 7, 7, 7, 7, 7, 7, 7, 7, 7, 7, 7, 7, 7, 7, 7, 7, 7, 7, 7, 7, 7, 7, 7, 7, 7, 7, 7, 7, 7, 7, 7, 7, 7, 7, 7, 7, 7, 7, 7, 7, 7, 7, 7, 7, 7, 7, 7, 7, 7, 7, 7, 7, 8, 8, 8, 8, 8, 8, 8, 8, 8, 8, 8, 8, 8, 8, 8, 8, 8, 8, 8, 8, 8, 8, 8, 8, 8, 8, 8, 8, 8, 8, 8, 8, 8, 8, 8, 8, 8, 8, 8, 8, 8, 8, 8, 8, 8, 8, 8, 8, 8, 8, 8, 8, 8, 8, 8, 8, 8, 8, 8, 8, 8, 8, 8, 8, 8, 8, 8, 8, 8, 8, 8, 8, 8, 8, 8, 8, 8, 8, 8, 8, 8, 8, 8, 8, 8, 8, 8, 8, 8, 8, 8, 8, 8, 8, 8, 8, 8, 8, 8, 8, 8, 8, 8, 8, 8, 8, 8, 8, 8, 8, 8, 8, 8, 8, 8, 8, 8, 8, 8, 8, 8, 8, 8, 8, 8, 8, 8, 8] : List UInt8) (IntKind.wrap .u8 (shrI .u64 (shrI .u64 (shrI .u64 x_0 32) 16) 8)) fun y0 =>
 some (addI .i64 56 (IntKind.wrap .i64 ((y0.toNat : Nat) : Int)))
 else
 nth ([0, 1, 2, 2, 3, 3, 3, 3, 4, 4, 4, 4, 4, 4, 4, 4, 5, 5, 5, 5, 5, 5, 5, 5, 5, 5, 5, 5, 5, 5, 5, 5, 6, 6, 6, 6, 6, 6, 6, 6, 6, 6, 6, 6, 6, 6, 6, 6, 6, 6, 6, 6, 6, 6, 6, 6, 6, 6, 6, 6, 6, 6, 6, 6, 7, 7, 7, 7, 7, 7, 7, 7, 7, 7, 7, 7, 7, 7, 7, 7, 7, 7, 7, 7, 7, 7, 7, 7, 7, 7, 7, 7, 7, 7, 7, 7, 7, 7, 7, 7, 7, 7, 7, 7, 7, 7, 7, 7, 7, 7, 7, 7, 7, 7, 7, 7, 7, 7, 7, 7, 7, 7, 7, 7, 7, 7, 7, 7, 8, 8, 8, 8, 8, 8, 8, 8, 8, 8, 8, 8, 8, 8, 8, 8, 8, 8, 8, 8, 8, 8, 8, 8, 8, 8, 8, 8, 8, 8, 8, 8, 8, 8, 8, 8, 8, 8, 8, 8, 8, 8, 8, 8, 8, 8, 8, 8, 8, 8, 8, 8, 8, 8, 8, 8, 8, 8, 8, 8, 8, 8, 8, 8, 8, 8, 8, 8, 8, 8, 8, 8, 8, 8, 8, 8, 8, 8, 8, 8, 8, 8, 8, 8, 8, 8, 8, 8, 8, 8, 8, 8, 8, 8, 8, 8, 8, 8, 8, 8, 8, 8, 8, 8, 8, 8, 8, 8, 8, 8, 8, 8, 8, 8, 8, 8, 8, 8, 8, 8, 8, 8, 8, 8, 8, 8, 8, 8] : List UInt8) (IntKind.wrap .u8 (shrI .u64 (shrI .u64 x_0 32) 16)) fun y1 =>
 some (addI .i64 48 (IntKind.wrap .i64 ((y1.toNat : Nat) : Int)))
 else
 bif leB 256 (shrI .u64 x_0 32) then
 nth ([0, 1, 2, 2, 3, 3, 3, 3, 4, 4, 4, 4, 4, 4, 4, 4, 5, 5, 5, 5, 5, 5, 5, 5, 5, 5, 5, 5, 5, 5, 5, 5, 6, 6, 6, 6, 6, 6, 6, 6, 6, 6, 6, 6, 6, 6, 6, 6, 6, 6, 6, 6, 6, 6, 6, 6, 6, 6, 6, 6, 6, 6, 6, 6, 7, 7, 7, 7, 7, 7, 7, 7, 7, 7, 7, 7, 7, 7, 7, 7, 7, 7, 7, 7, 7, 7, 7, 7, 7, 7, 7, 7, 7, 7, 7, 7, 7, 7, 7, 7, 7, 7, 7, 7, 7, 7, 7, 7, 7, 7, 7, 7, 7, 7, 7, 7, 7, 7, 7, 7, 7, 7, 7, 7, 7, 7, 7, 7, 8, 8, 8, 8, 8, 8, 8, 8, 8, 8, 8, 8, 8, 8, 8, 8, 8, 8, 8, 8, 8, 8, 8, 8, 8, 8, 8, 8, 8, 8, 8, 8, 8, 8, 8, 8, 8, 8, 8, 8, 8, 8, 8, 8, 8, 8, 8, 8, 8, 8, 8, 8, 8, 8, 8, 8, 8, 8, 8, 8, 8, 8, 8, 8, 8, 8, 8, 8, 8, 8, 8, 8, 8, 8, 8, 8, 8, 8, 8, 8, 8, 8, 8, 8, 8, 8, 8, 8, 8, 8, 8, 8, 8, 8, 8, 8, 8, 8, 8, 8, 8, 8, 8, 8, 8, 8, 8, 8, 8, 8, 8, 8, 8, 8, 8, 8, 8, 8, 8, 8, 8, 8, 8, 8, 8, 8, 8, 8] : List UInt8) (IntKind.wrap .u8 (shrI .u64 (shrI .u64 x_0 32) 8)) fun y2 =>
 some (addI .i64 40 (IntKind.wrap .i64 ((y2.toNat : Nat) : Int)))
 else
 nth ([0, 1, 2, 2, 3, 3, 3, 3, 4, 4, 4, 4, 4, 4, 4, 4, 5, 5, 5, 5, 5, 5, 5, 5, 5, 5, 5, 5, 5, 5, 5, 5, 6, 6, 6, 6, 6, 6, 6, 6, 6, 6, 6, 6, 6, 6, 6, 6, 6, 6, 6, 6, 6, 6, 6, 6, 6, 6, 6, 6, 6, 6, 6, 6, 7, 7, 7, 7, 7, 7, 7, 7, 7, 7, 7, 7, 7, 7, 7, 7, 7, 7, 7, 7, 7, 7, 7, 7, 7, 7, 7, 7, 7, 7, 7, 7, 7, 7, 7, 7, 7, 7, 7, 7, 7, 7, 7, 7, 7, 7, 7, 7, 7, 7, 7, 7, 7, 7, 7, 7, 7, 7, 7, 7, 7, 7, 7, 7, 8, 8, 8, 8, 8, 8, 8, 8, 8, 8, 8, 8, 8, 8, 8, 8, 8, 8, 8, 8, 8, 8, 8, 8, 8, 8, 8, 8, 8, 8, 8, 8, 8, 8, 8, 8, 8, 8, 8, 8, 8, 8, 8, 8, 8, 8, 8, 8, 8, 8, 8, 8, 8, 8, 8, 8, 8, 8, 8, 8, 8, 8, 8, 8, 8, 8, 8, 8, 8, 8, 8, 8, 8, 8, 8, 8, 8, 8, 8, 8, 8, 8, 8, 8, 8, 8, 8, 8, 8, 8, 8, 8, 8, 8, 8, 8, 8, 8, 8, 8, 8, 8, 8, 8, 8, 8, 8, 8, 8, 8, 8, 8, 8, 8, 8, 8, 8, 8, 8, 8, 8, 8, 8, 8, 8, 8, 8, 8] : List UInt8) (IntKind.wrap .u8 (shrI .u64 x_0 32)) fun y3 =>
 some (addI .i64 32 (IntKind.wrap .i64 ((y3.toNat : Nat) : Int)))
 else
 bif leB 65536 x_0 then
 bif leB 256 (shrI .u64 x_0 16) then
 nth ([0, 1, 2, 2, 3, 3, 3, 3, 4, 4, 4, 4, 4, 4, 4, 4, 5, 5, 5, 5, 5, 5, 5, 5, 5, 5, 5, 5, 5, 5, 5, 5, 6, 6, 6, 6, 6, 6, 6, 6, 6, 6, 6, 6, 6, 6, 6, 6, 6, 6, 6, 6, 6, 6, 6, 6, 6, 6, 6, 6, 6, 6, 6, 6, 7, 7, 7, 7, 7, 7, 7, 7, 7, 7, 7, 7, 7, 7, 7, 7, 7, 7, 7, 7, 7, 7, 7, 7, 7, 7, 7, 7, 7, 7, 7, 7, 7, 7, 7, 7, 7, 7, 7, 7, 7, 7, 7, 7, 7, 7, 7, 7, 7, 7, 7, 7, 7, 7, 7, 7, 7, 7, 7, 7, 7, 7, 7, 7, 8, 8, 8, 8, 8, 8, 8, 8, 8, 8, 8, 8, 8, 8, 8, 8, 8, 8, 8, 8, 8, 8, 8, 8, 8, 8, 8, 8, 8, 8, 8, 8, 8, 8, 8, 8, 8, 8, 8, 8, 8, 8, 8, 8, 8, 8, 8, 8, 8, 8, 8, 8, 8, 8, 8, 8, 8, 8, 8, 8, 8, 8, 8, 8, 8, 8, 8, 8, 8, 8, 8, 8, 8, 8, 8, 8, 8, 8, 8, 8, 8, 8, 8, 8, 8, 8, 8, 8, 8, 8, 8, 8, 8, 8, 8, 8, 8, 8, 8, 8, 8, 8, 8, 8, 8, 8, 8, 8, 8, 8, 8, 8, 8, 8, 8, 8, 8, 8, 8, 8, 8, 8, 8, 8, 8, 8, 8, 8] : List UInt8) (IntKind.wrap .u8 (shrI .u64 (shrI .u64 x_0 16) 8)) fun y4 =>
 some (addI .i64 24 (IntKind.wrap .i64 ((y4.toNat : Nat) : Int)))
 else
 nth ([0, 1, 2, 2, 3, 3, 3, 3, 4, 4, 4, 4, 4, 4, 4, 4, 5, 5, 5, 5, 5, 5, 5, 5, 5, 5, 5, 5, 5, 5, 5, 5, 6, 6, 6, 6, 6, 6, 6, 6, 6, 6, 6, 6, 6, 6, 6, 6, 6, 6, 6, 6, 6, 6, 6, 6, 6, 6, 6, 6, 6, 6, 6, 6, 7, 7, 7, 7, 7, 7, 7, 7, 7, 7, 7, 7, 7, 7, 7, 7, 7, 7, 7, 7, 7, 7, 7, 7, 7, 7, 7, 7, 7, 7, 7, 7, 7, 7, 7, 7, 7, 7, 7, 7, 7, 7, 7, 7, 7, 7, 7, 7, 7, 7, 7, 7, 7, 7, 7, 7, 7, 7, 7, 7, 7, 7, 7, 7, 8, 8, 8, 8, 8, 8, 8, 8, 8, 8, 8, 8, 8, 8, 8, 8, 8, 8, 8, 8, 8, 8, 8, 8, 8, 8, 8, 8, 8, 8, 8, 8, 8, 8, 8, 8, 8, 8, 8, 8, 8, 8, 8, 8, 8, 8, 8, 8, 8, 8, 8, 8, 8, 8, 8, 8, 8, 8, 8, 8, 8, 8, 8, 8, 8, 8, 8, 8, 8, 8, 8, 8, 8, 8, 8, 8, 8, 8, 8, 8, 8, 8, 8, 8, 8, 8, 8, 8, 8, 8, 8, 8, 8, 8, 8, 8, 8, 8, 8, 8, 8, 8, 8, 8, 8, 8, 8, 8, 8, 8, 8, 8, 8, 8, 8, 8, 8, 8, 8, 8, 8, 8, 8, 8, 8, 8, 8, 8] : List UInt8) (IntKind.wrap .u8 (shrI .u64 x_0 16)) fun y5 =>
 some (addI .i64 16 (IntKind.wrap .i64 ((y5.toNat : Nat) : Int)))
 else
 bif leB 256 x_0 then
 nth ([0, 1, 2, 2, 3, 3, 3, 3, 4, 4, 4, 4, 4, 4, 4, 4, 5, 5, 5, 5, 5, 5, 5, 5, 5, 5, 5, 5, 5, 5, 5, 5, 6, 6, 6, 6, 6, 6, 6, 6, 6, 6, 6, 6, 6, 6, 6, 6, 6, 6, 6, 6, 6, 6, 6, 6, 6, 6, 6, 6, 6, 6, 6, 6, 7, 7, 7, 7, 7, 7, 7, 7, 7, 7, 7, 7, 7, 7, 7, 7, 7, 7, 7, 7, 7, 7, 7, 7, 7, 7, 7, 7, 7, 7, 7, 7, 7, 7, 7, 7, 7, 7, 7, 7, 7, 7, 7, 7, 7, 7, 7, 7, 7, 7, 7, 7, 7, 7, 7, 7, 7, 7, 7, 7, 7, 7, 7, 7, 8, 8, 8, 8, 8, 8, 8, 8, 8, 8, 8, 8, 8, 8, 8, 8, 8, 8, 8, 8, 8, 8, 8, 8, 8, 8, 8, 8, 8, 8, 8, 8, 8, 8, 8, 8, 8, 8, 8, 8, 8, 8, 8, 8, 8, 8, 8, 8, 8, 8, 8, 8, 8, 8, 8, 8, 8, 8, 8, 8, 8, 8, 8, 8, 8, 8, 8, 8, 8, 8, 8, 8, 8, 8, 8, 8, 8, 8, 8, 8, 8, 8, 8, 8, 8, 8, 8, 8, 8, 8, 8, 8, 8, 8, 8, 8, 8, 8, 8, 8, 8, 8, 8, 8, 8, 8, 8, 8, 8, 8, 8, 8, 8, 8, 8, 8, 8, 8, 8, 8, 8, 8, 8, 8, 8, 8, 8, 8] : List UInt8) (IntKind.wrap .u8 (shrI .u64 x_0 8)) fun y6 =>
 some (addI .i64 8 (IntKind.wrap .i64 ((y6.toNat : Nat) : Int)))
 else
 nth ([0, 1, 2, 2, 3, 3, 3, 3, 4, 4, 4, 4, 4, 4, 4, 4, 5, 5, 5, 5, 5, 5, 5, 5, 5, 5, 5, 5, 5, 5, 5, 5, 6, 6, 6, 6, 6, 6, 6, 6, 6, 6, 6, 6, 6, 6, 6, 6, 6, 6, 6, 6, 6, 6, 6, 6, 6, 6, 6, 6, 6, 6, 6, 6, 7, 7, 7, 7, 7, 7, 7, 7, 7, 7, 7, 7, 7, 7, 7, 7, 7, 7, 7, 7, 7, 7, 7, 7, 7, 7, 7, 7, 7, 7, 7, 7, 7, 7, 7, 7, 7, 7, 7, 7, 7, 7, 7, 7, 7, 7, 7, 7, 7, 7, 7, 7, 7, 7, 7, 7, 7, 7, 7, 7, 7, 7, 7, 7, 8, 8, 8, 8, 8, 8, 8, 8, 8, 8, 8, 8, 8, 8, 8, 8, 8, 8, 8, 8, 8, 8, 8, 8, 8, 8, 8, 8, 8, 8, 8, 8, 8, 8, 8, 8, 8, 8, 8, 8, 8, 8, 8, 8, 8, 8, 8, 8, 8, 8, 8, 8, 8, 8, 8, 8, 8, 8, 8, 8, 8, 8, 8, 8, 8, 8, 8, 8, 8, 8, 8, 8, 8, 8, 8, 8, 8, 8, 8, 8, 8, 8, 8, 8, 8, 8, 8, 8, 8, 8, 8, 8, 8, 8, 8, 8, 8, 8, 8, 8, 8, 8, 8, 8, 8, 8, 8, 8, 8, 8, 8, 8, 8, 8, 8, 8, 8, 8, 8, 8, 8, 8, 8, 8, 8, 8, 8, 8] : List UInt8) (IntKind.wrap .u8 x_0) fun y7 =>
 some (addI .i64 0 (IntKind.wrap .i64 ((y7.toNat : Nat) : Int)))
 ) (z7c x_0) :=
 cL o0' Tryz.func162
theorem y34 (a0 : Int) (a4 : List Member) (a6 a8 : Int) (a10 a12 a14 : List Member) : Le (
 bif ltB a8 a6 then
 nth a4 a8 fun y0 =>
 Option.bind (z24 a0 a8) fun x1 =>
 bif x1 then
 capOk (List.length a14 + List.length ([(Member.mk false (Trust.mk 0 ([] : List Int) ([] : List Trust)))] : List Member)) <|
 z1k a0 a4 a6 (addI .i64 a8 1) a10 a12 (a14 ++ ([(Member.mk false (Trust.mk 0 ([] : List Int) ([] : List Trust)))] : List Member))
 else
 bif y0.Declared then
 Option.bind (z6d y0.Trust a8 a0) fun x2 =>
 capOk (List.length a14 + List.length ([(Member.mk y0.Declared (Trust.mk x2.Threshold x2.Nodes x2.Inner))] : List Member)) <|
 z1k a0 a4 a6 (addI .i64 a8 1) a10 a12 (a14 ++ ([(Member.mk y0.Declared (Trust.mk x2.Threshold x2.Nodes x2.Inner))] : List Member))
 else
 Option.bind (z45 y0.Trust) fun x3 =>
 capOk (List.length a14 + List.length ([(Member.mk y0.Declared (Trust.mk x3.Threshold x3.Nodes x3.Inner))] : List Member)) <|
 z1k a0 a4 a6 (addI .i64 a8 1) a10 a12 (a14 ++ ([(Member.mk y0.Declared (Trust.mk x3.Threshold x3.Nodes x3.Inner))] : List Member))
 else
 some (Config.mk a14)
 ) (z1k a0 a4 a6 a8 a10 a12 a14) :=
 gL o9' (q0a Tryz.f59 [1,1,0,1,0,0])
theorem y8n (t_0 : Trust) (node_1 s_2 : Int) : Le (
 Option.bind (z1j s_2) fun x0 =>
 bif !x0 then
 Option.bind (z45 t_0) fun x1 =>
 some (Trust.mk x1.Threshold x1.Nodes x1.Inner)
 else
 Option.bind (z5q t_0 s_2) fun x2 =>
 bif eqB x2.Threshold 0 then
 some (Trust.mk 1 ([node_1] : List Int) ([] : List Trust))
 else
 some (Trust.mk x2.Threshold x2.Nodes x2.Inner)
 ) (z6d t_0 node_1 s_2) :=
 cL o6' Tryz.func96
theorem y73 (t_0 : Trust) : Le (
 capOk (List.length ([] : List Int) + List.length t_0.Nodes) <|
 z31 t_0.Inner (t_0.Inner.length : Int) 0 t_0.Threshold t_0.Nodes t_0.Inner 0 ([] : List Int) ([] : List Trust) t_0.Threshold (([] : List Int) ++ t_0.Nodes) ([] : List Trust)
 ) (z45 t_0) :=
 cL o6' Tryz.func97
theorem y8v (t_0 : Trust) (s_1 : Int) : Le (
 z2p s_1 t_0.Nodes (t_0.Nodes.length : Int) 0 t_0.Threshold t_0.Nodes t_0.Inner 0 ([] : List Int) ([] : List Trust) (if 0 > t_0.Threshold then 0 else t_0.Threshold) ([] : List Int) ([] : List Trust)
 ) (z5q t_0 s_1) :=
 cL o6' Tryz.func123
theorem y1i (a1 : List Member) (a3 a5 : Int) (a7 a9 : List Member) : Le (
 bif ltB a5 a3 then
 nth a1 a5 fun y0 =>
 bif !y0.Declared then
 z1y a1 a3 (addI .i64 a5 1) a7 a9
 else
 nth a7 a5 fun y1 =>
 Option.bind (z6e y0.Trust y1.Trust) fun x2 =>
 bif !x2.1 then
 some 14
 else
 z1y a1 a3 (addI .i64 a5 1) a7 a9
 else
 some 0
 ) (z1y a1 a3 a5 a7 a9) :=
 gL o0' (q0a Tryz.f66 [1,1,1,1,1,0,1,0,0])
theorem y72 (a_0 b_1 : Trust) : Le (
 Option.bind (z6w a_0 b_1) fun x0 =>
 bif neB x0 0 then
 some (false, 0, x0)
 else
 Option.bind (z66 a_0.Threshold a_0.Nodes a_0.Inner b_1.Threshold b_1.Nodes b_1.Inner) fun x1 =>
 some ((!x1.2.1), x1.1, 0)
 ) (z6e a_0 b_1) :=
 cL o27' Tryz.func103
theorem y8g (a_0 b_1 : Trust) : Le (
 Option.bind (z46 a_0) fun x0 =>
 bif neB x0 0 then
 some x0
 else
 Option.bind (z46 b_1) fun x1 =>
 some x1
 ) (z6w a_0 b_1) :=
 cL o0' Tryz.func126
theorem yaz (t_0 : Trust) : Le (
 Option.bind (z53 t_0) fun x0 =>
 bif ltB 4 x0 then
 some 3
 else
 Option.bind (z5r t_0) fun x1 =>
 bif ltB 200 x1 then
 some 3
 else
 Option.bind (z54 t_0) fun x2 =>
 some x2
 ) (z46 t_0) :=
 cL o0' Tryz.func136
theorem y97 (s_0 h0 : Int) (h1 : List Int) (h2 : List Trust) (h3 : Int) (h4 : List Int) (h5 : List Trust) : Le (
 Option.bind (z1i (Trust.mk h0 h1 h2) s_0) fun x0 =>
 bif x0 then
 Option.bind (z1i (Trust.mk h3 h4 h5) s_0) fun x1 =>
 some ((!x1), h0, h1, h2, h3, h4, h5)
 else
 some (false, h0, h1, h2, h3, h4, h5)
 ) (z6i s_0 h0 h1 h2 h3 h4 h5) :=
 cL o28' Tryz.func128
theorem y7n (t_0 : Trust) : Le (
 z32 0 t_0.Inner (t_0.Inner.length : Int) 0 t_0.Threshold t_0.Nodes t_0.Inner
 ) (z53 t_0) :=
 cL o0' Tryz.func148
theorem y8w (t_0 : Trust) : Le (
 z3a (addI .i64 (t_0.Nodes.length : Int) (t_0.Inner.length : Int)) t_0.Inner (t_0.Inner.length : Int) 0 t_0.Threshold t_0.Nodes t_0.Inner
 ) (z5r t_0) :=
 cL o0' Tryz.func149
theorem y6y (t_0 : Trust) : Le (
 bif ltB t_0.Threshold 1 then
 some 4
 else
 bif (ltB (addI .i64 (t_0.Nodes.length : Int) (t_0.Inner.length : Int)) t_0.Threshold) then
 some 4
 else
 Option.bind (z14 t_0.Nodes) fun x0 =>
 bif x0 then
 some 5
 else
 Option.bind (z7d t_0.Nodes) fun x1 =>
 bif neB x1.2 0 then
 some x1.2
 else
 z33 t_0.Inner (t_0.Inner.length : Int) 0 t_0.Threshold t_0.Nodes t_0.Inner
 ) (z54 t_0) :=
 cL o0' Tryz.func150
theorem y86 (t_0 : Trust) (s_1 : Int) : Le (
 Option.bind (z1j s_1) fun x0 =>
 bif !x0 then
 some false
 else
 z1m s_1 0 t_0.Nodes (t_0.Nodes.length : Int) 0 t_0.Threshold t_0.Nodes t_0.Inner
 ) (z1i t_0 s_1) :=
 cL o1' Tryz.func93
theorem y79 (s_0 : List Int) : Le (
 Option.bind (z1b s_0) fun x0 =>
 some (leB 0 x0)
 ) (z14 s_0) :=
 cL o1' Tryz.func164
theorem y6s (nodes_0 : List Int) : Le (
 z3l 0 nodes_0 (nodes_0.length : Int) 0
 ) (z7d nodes_0) :=
 cL o5' Tryz.func166
theorem y7v (s_0 : List Int) : Le (
 z0e s_0 (s_0.length : Int) 0
 ) (z1b s_0) :=
 cL o0' Tryz.func174
theorem y0x (a1 : List Member) (a3 a5 : Int) (a7 : List Member) : Le (
 bif ltB a5 a3 then
 nth a1 a5 fun y0 =>
 Option.bind (z47 y0 (a7.length : Int)) fun x1 =>
 bif neB x1 0 then
 some x1
 else
 z25 a1 a3 (addI .i64 a5 1) a7
 else
 some 0
 ) (z25 a1 a3 a5 a7) :=
 gL o0' (q0a Tryz.f94 [1,1,0,1,0,0])
theorem y7k (m_0 : Member) (members_1 : Int) : Le (
 bif !m_0.Declared then
 Option.bind (z4o m_0.Trust) fun x0 =>
 bif !x0 then
 some 1
 else
 some 0
 else
 Option.bind (z46 m_0.Trust) fun x1 =>
 bif neB x1 0 then
 some x1
 else
 chk (0 <= members_1) <|
 Option.bind (z5s m_0.Trust) fun x2 =>
 bif leB (shlI .i64 1 members_1) x2 then
 some 5
 else
 some 0
 ) (z47 m_0 members_1) :=
 cL o0' Tryz.func119
theorem y6d (t_0 : Trust) : Le (
 bif eqB t_0.Threshold 0 then
 bif (eqB (t_0.Nodes.length : Int) 0) then
 some (eqB (t_0.Inner.length : Int) 0)
 else
 some false
 else
 some false
 ) (z4o t_0) :=
 cL o1' Tryz.func135
theorem ya3 (t_0 : Trust) : Le (
 z2q 0 t_0.Nodes (t_0.Nodes.length : Int) 0 t_0.Threshold t_0.Nodes t_0.Inner
 ) (z5s t_0) :=
 cL o0' Tryz.func137
theorem qvv (a1 a3 : Int) (a5 : Bool) (a7 : List Member) : Le (
 bif a5 then
 Option.bind (z1u (Config.mk a7) a3) fun x0 =>
 bif !x0 then
 Option.bind (z5x a3 a1) fun x1 =>
 z1d a1 x1.1 x1.2 a7
 else
 Option.bind (z2g (Config.mk a7)) fun x2 =>
 Option.bind (z5y (Config.mk a7) (q1w .i64 x2 a3)) fun x3 =>
 bif neB x3 0 then
 some (a3, x3)
 else
 Option.bind (z5x a3 a1) fun x4 =>
 z1d a1 x4.1 x4.2 a7
 else
 some (0, 0)
 ) (z1d a1 a3 a5 a7) :=
 gL o5' (q0a Tryz.f95 [1,1,0,1,0,0])
theorem y88 (s_0 n_1 : Int) : Le (
 bif ltB n_1 0 then
 some (0, false)
 else
 bif ltB 10 n_1 then
 some (0, false)
 else
 Option.bind (z2l s_0 n_1) fun x0 =>
 bif !x0 then
 some (0, false)
 else
 Option.bind (z5z s_0) fun x1 =>
 z2v n_1 x1 (addI .i64 s_0 1)
 ) (z5x s_0 n_1) :=
 cL o18' Tryz.func120
theorem y1z (c_0 : Config) : Le (
 chk (0 <= (c_0.Members.length : Int)) <|
 some (subI .i64 (shlI .i64 1 (c_0.Members.length : Int)) 1)
 ) (z2g c_0) :=
 cL o0' Tryz.func122
theorem y5x (c_0 : Config) (s_1 : Int) : Le (
 Option.bind (z5d c_0 s_1) fun x0 =>
 some x0.1
 ) (z5y c_0 s_1) :=
 cL o0' Tryz.func121
theorem yam (s_0 : Int) : Le (
 Option.bind (z1j s_0) fun x0 =>
 bif !x0 then
 some 0
 else
 Option.bind (z6f (IntKind.wrap .u64 s_0)) fun x1 =>
 some x1
 ) (z5z s_0) :=
 cL o0' Tryz.func138
theorem y9k (c_0 : Config) (s_1 : Int) : Le (
 Option.bind (z1j s_1) fun x0 =>
 bif !x0 then
 some (0, ([] : List Int))
 else
 Option.bind (z1c c_0) fun x1 =>
 z2i (andI .i64 s_1 x1) ([] : List Int) c_0.Members
 ) (z5d c_0 s_1) :=
 cL o24' Tryz.func139
theorem y95 (x_0 : Int) : Le (
 Option.bind (z60 x_0) fun x0 =>
 some x0
 ) (z6f x_0) :=
 cL o0' Tryz.func152
theorem y35 (x_0 : Int) : Le (
 some (andI .i64 (IntKind.wrap .i64 (addI .u64 (addI .u64 (addI .u64 (andI .u64 (addI .u64 (shrI .u64 (addI .u64 (andI .u64 (shrI .u64 (addI .u64 (andI .u64 (shrI .u64 x_0 1) 6148914691236517205) (andI .u64 x_0 6148914691236517205)) 2) 3689348814741910323) (andI .u64 (addI .u64 (andI .u64 (shrI .u64 x_0 1) 6148914691236517205) (andI .u64 x_0 6148914691236517205)) 3689348814741910323)) 4) (addI .u64 (andI .u64 (shrI .u64 (addI .u64 (andI .u64 (shrI .u64 x_0 1) 6148914691236517205) (andI .u64 x_0 6148914691236517205)) 2) 3689348814741910323) (andI .u64 (addI .u64 (andI .u64 (shrI .u64 x_0 1) 6148914691236517205) (andI .u64 x_0 6148914691236517205)) 3689348814741910323))) 1085102592571150095) (shrI .u64 (andI .u64 (addI .u64 (shrI .u64 (addI .u64 (andI .u64 (shrI .u64 (addI .u64 (andI .u64 (shrI .u64 x_0 1) 6148914691236517205) (andI .u64 x_0 6148914691236517205)) 2) 3689348814741910323) (andI .u64 (addI .u64 (andI .u64 (shrI .u64 x_0 1) 6148914691236517205) (andI .u64 x_0 6148914691236517205)) 3689348814741910323)) 4) (addI .u64 (andI .u64 (shrI .u64 (addI .u64 (andI .u64 (shrI .u64 x_0 1) 6148914691236517205) (andI .u64 x_0 6148914691236517205)) 2) 3689348814741910323) (andI .u64 (addI .u64 (andI .u64 (shrI .u64 x_0 1) 6148914691236517205) (andI .u64 x_0 6148914691236517205)) 3689348814741910323))) 1085102592571150095) 8)) (shrI .u64 (addI .u64 (andI .u64 (addI .u64 (shrI .u64 (addI .u64 (andI .u64 (shrI .u64 (addI .u64 (andI .u64 (shrI .u64 x_0 1) 6148914691236517205) (andI .u64 x_0 6148914691236517205)) 2) 3689348814741910323) (andI .u64 (addI .u64 (andI .u64 (shrI .u64 x_0 1) 6148914691236517205) (andI .u64 x_0 6148914691236517205)) 3689348814741910323)) 4) (addI .u64 (andI .u64 (shrI .u64 (addI .u64 (andI .u64 (shrI .u64 x_0 1) 6148914691236517205) (andI .u64 x_0 6148914691236517205)) 2) 3689348814741910323) (andI .u64 (addI .u64 (andI .u64 (shrI .u64 x_0 1) 6148914691236517205) (andI .u64 x_0 6148914691236517205)) 3689348814741910323))) 1085102592571150095) (shrI .u64 (andI .u64 (addI .u64 (shrI .u64 (addI .u64 (andI .u64 (shrI .u64 (addI .u64 (andI .u64 (shrI .u64 x_0 1) 6148914691236517205) (andI .u64 x_0 6148914691236517205)) 2) 3689348814741910323) (andI .u64 (addI .u64 (andI .u64 (shrI .u64 x_0 1) 6148914691236517205) (andI .u64 x_0 6148914691236517205)) 3689348814741910323)) 4) (addI .u64 (andI .u64 (shrI .u64 (addI .u64 (andI .u64 (shrI .u64 x_0 1) 6148914691236517205) (andI .u64 x_0 6148914691236517205)) 2) 3689348814741910323) (andI .u64 (addI .u64 (andI .u64 (shrI .u64 x_0 1) 6148914691236517205) (andI .u64 x_0 6148914691236517205)) 3689348814741910323))) 1085102592571150095) 8)) 16)) (shrI .u64 (addI .u64 (addI .u64 (andI .u64 (addI .u64 (shrI .u64 (addI .u64 (andI .u64 (shrI .u64 (addI .u64 (andI .u64 (shrI .u64 x_0 1) 6148914691236517205) (andI .u64 x_0 6148914691236517205)) 2) 3689348814741910323) (andI .u64 (addI .u64 (andI .u64 (shrI .u64 x_0 1) 6148914691236517205) (andI .u64 x_0 6148914691236517205)) 3689348814741910323)) 4) (addI .u64 (andI .u64 (shrI .u64 (addI .u64 (andI .u64 (shrI .u64 x_0 1) 6148914691236517205) (andI .u64 x_0 6148914691236517205)) 2) 3689348814741910323) (andI .u64 (addI .u64 (andI .u64 (shrI .u64 x_0 1) 6148914691236517205) (andI .u64 x_0 6148914691236517205)) 3689348814741910323))) 1085102592571150095) (shrI .u64 (andI .u64 (addI .u64 (shrI .u64 (addI .u64 (andI .u64 (shrI .u64 (addI .u64 (andI .u64 (shrI .u64 x_0 1) 6148914691236517205) (andI .u64 x_0 6148914691236517205)) 2) 3689348814741910323) (andI .u64 (addI .u64 (andI .u64 (shrI .u64 x_0 1) 6148914691236517205) (andI .u64 x_0 6148914691236517205)) 3689348814741910323)) 4) (addI .u64 (andI .u64 (shrI .u64 (addI .u64 (andI .u64 (shrI .u64 x_0 1) 6148914691236517205) (andI .u64 x_0 6148914691236517205)) 2) 3689348814741910323) (andI .u64 (addI .u64 (andI .u64 (shrI .u64 x_0 1) 6148914691236517205) (andI .u64 x_0 6148914691236517205)) 3689348814741910323))) 1085102592571150095) 8)) (shrI .u64 (addI .u64 (andI .u64 (addI .u64 (shrI .u64 (addI .u64 (andI .u64 (shrI .u64 (addI .u64 (andI .u64 (shrI .u64 x_0 1) 6148914691236517205) (andI .u64 x_0 6148914691236517205)) 2) 3689348814741910323) (andI .u64 (addI .u64 (andI .u64 (shrI .u64 x_0 1) 6148914691236517205) (andI .u64 x_0 6148914691236517205)) 3689348814741910323)) 4) (addI .u64 (andI .u64 (shrI .u64 (addI .u64 (andI .u64 (shrI .u64 x_0 1) 6148914691236517205) (andI .u64 x_0 6148914691236517205)) 2) 3689348814741910323) (andI .u64 (addI .u64 (andI .u64 (shrI .u64 x_0 1) 6148914691236517205) (andI .u64 x_0 6148914691236517205)) 3689348814741910323))) 1085102592571150095) (shrI .u64 (andI .u64 (addI .u64 (shrI .u64 (addI .u64 (andI .u64 (shrI .u64 (addI .u64 (andI .u64 (shrI .u64 x_0 1) 6148914691236517205) (andI .u64 x_0 6148914691236517205)) 2) 3689348814741910323) (andI .u64 (addI .u64 (andI .u64 (shrI .u64 x_0 1) 6148914691236517205) (andI .u64 x_0 6148914691236517205)) 3689348814741910323)) 4) (addI .u64 (andI .u64 (shrI .u64 (addI .u64 (andI .u64 (shrI .u64 x_0 1) 6148914691236517205) (andI .u64 x_0 6148914691236517205)) 2) 3689348814741910323) (andI .u64 (addI .u64 (andI .u64 (shrI .u64 x_0 1) 6148914691236517205) (andI .u64 x_0 6148914691236517205)) 3689348814741910323))) 1085102592571150095) 8)) 16)) 32))) 127)
 ) (z60 x_0) :=
 cL o0' Tryz.func168
theorem y33 (a0 : Int) (a2 : List Member) (a4 a6 : Int) (a8 : List Member) : Le (
 bif ltB a6 a4 then
 nth a2 a6 fun y0 =>
 bif y0.Declared then
 bif ltB a6 10 then
 chk (0 <= a6) <|
 z19 (orI .i64 a0 (shlI .i64 1 a6)) a2 a4 (addI .i64 a6 1) a8
 else
 z19 a0 a2 a4 (addI .i64 a6 1) a8
 else
 z19 a0 a2 a4 (addI .i64 a6 1) a8
 else
 some a0
 ) (z19 a0 a2 a4 a6 a8) :=
 gL o0' (q0a Tryz.f92 [1,1,0,1,0,0])
theorem y2m (a0 a2 a8 a10 : Int) (a12 : List Arr2_Config) (a14 a16 : Int) (a18 : List Int) (a20 a22 : Int) (a24 a26 : List Member) (a28 a30 a32 a34 : Int) (a36 : List Refutation) (a38 : List Int) (a40 : Int) (a42 a44 a46 a48 : List Member) : Le (
 bif ltB a22 a20 then
 nth a18 a22 fun y0 =>
 Option.bind (z5h (Config.mk a46) (Config.mk a48) y0) fun x1 =>
 Option.bind (z7h (Config.mk a46) (Config.mk a48) y0) fun x2 =>
 Option.bind (z41 (Config.mk a46) (Config.mk a48) y0) fun x3 =>
 Option.bind (z4q (Config.mk a46) (Config.mk a48) y0) fun x4 =>
 Option.bind (z5p (Config.mk a46) (Config.mk a48) y0 a2) fun x5 =>
 Option.bind (z6l (Config.mk a46) (Config.mk a48) y0 a2) fun x6 =>
 Option.bind (z5m (Config.mk a46) (Config.mk a48) y0 a2) fun x7 =>
 Option.bind (z61 (Config.mk a46) (Config.mk a48) y0 a2) fun x8 =>
 bif neB x1.1 x2.1 then
 some false
 else
 bif neB x1.2 x2.2 then
 some false
 else
 bif neB x3.1 x4.1 then
 some false
 else
 bif neB x3.2 x4.2 then
 some false
 else
 bif neB x5.1 x6.1 then
 some false
 else
 bif !(x5.2.1 == x6.2.1) then
 some false
 else
 bif neB x5.2.2 x6.2.2 then
 some false
 else
 bif neB x7.2 x8.2 then
 some false
 else
 z1l a0 a2 a8 a10 a12 a14 a16 a18 a20 (addI .i64 a22 1) a24 a26 a28 a30 a32 a34 a36 a38 a40 a42 a44 a46 a48
 else
 Option.bind (z5m (Config.mk a46) (Config.mk a48) a8 a10) fun x9 =>
 Option.bind (z61 (Config.mk a46) (Config.mk a48) a8 a10) fun x10 =>
 Option.bind (z10 16 a38 a40) fun x11 =>
 Option.bind (z5p (Config.mk a46) (Config.mk a48) a8 x11.1) fun x12 =>
 bif neB x9.2 x10.2 then
 some false
 else
 Option.bind (z7e x9.1 x10.1) fun x13 =>
 bif !x13 then
 some false
 else
 bif eqB x12.2.2 0 then
 bif (!(x12.2.1 == (leB 0 x12.1))) then
 some false
 else
 Option.bind (z18 ([x10.1.Kind, 1, 2, 3, 4] : List Int) x11.2.1 x11.2.2) fun x14 =>
 Option.bind (z10 2 x14.2.1 x14.2.2) fun x15 =>
 z1n a0 a2 a8 a10 a12 a14 a16 ([(Explanation.mk x10.1.Kind x10.1.Set x10.1.A x10.1.B x10.1.Refutations), (Explanation.mk x14.1 (xorI .i64 x10.1.Set x15.1) x10.1.A x10.1.B x10.1.Refutations), (Explanation.mk a28 a30 a32 a34 a36)] : List Explanation) ((List.length ([(Explanation.mk x10.1.Kind x10.1.Set x10.1.A x10.1.B x10.1.Refutations), (Explanation.mk x14.1 (xorI .i64 x10.1.Set x15.1) x10.1.A x10.1.B x10.1.Refutations), (Explanation.mk a28 a30 a32 a34 a36)] : List Explanation) : Nat) : Int) 0 a24 a26 a28 a30 a32 a34 a36 x15.2.1 x15.2.2 a42 a44 a46 a48 x9.1.Kind x9.1.Set x9.1.A x9.1.B x9.1.Refutations x10.1.Kind x10.1.Set x10.1.A x10.1.B x10.1.Refutations x14.1 (xorI .i64 x10.1.Set x15.1) x10.1.A x10.1.B x10.1.Refutations
 else
 Option.bind (z18 ([x10.1.Kind, 1, 2, 3, 4] : List Int) x11.2.1 x11.2.2) fun x16 =>
 Option.bind (z10 2 x16.2.1 x16.2.2) fun x17 =>
 z1n a0 a2 a8 a10 a12 a14 a16 ([(Explanation.mk x10.1.Kind x10.1.Set x10.1.A x10.1.B x10.1.Refutations), (Explanation.mk x16.1 (xorI .i64 x10.1.Set x17.1) x10.1.A x10.1.B x10.1.Refutations), (Explanation.mk a28 a30 a32 a34 a36)] : List Explanation) ((List.length ([(Explanation.mk x10.1.Kind x10.1.Set x10.1.A x10.1.B x10.1.Refutations), (Explanation.mk x16.1 (xorI .i64 x10.1.Set x17.1) x10.1.A x10.1.B x10.1.Refutations), (Explanation.mk a28 a30 a32 a34 a36)] : List Explanation) : Nat) : Int) 0 a24 a26 a28 a30 a32 a34 a36 x17.2.1 x17.2.2 a42 a44 a46 a48 x9.1.Kind x9.1.Set x9.1.A x9.1.B x9.1.Refutations x10.1.Kind x10.1.Set x10.1.A x10.1.B x10.1.Refutations x16.1 (xorI .i64 x10.1.Set x17.1) x10.1.A x10.1.B x10.1.Refutations
 ) (z1l a0 a2 a8 a10 a12 a14 a16 a18 a20 a22 a24 a26 a28 a30 a32 a34 a36 a38 a40 a42 a44 a46 a48) :=
 gL o1' (q0a Tryz.f8 [1,1,1,1,0,1,0,0,1,1,0,0,1,1,1,0,1,0,0])
theorem y75 (low_0 high_1 : Config) (ill_2 : Int) : Le (
 Option.bind (z4q low_0 high_1 ill_2) fun x0 =>
 bif neB x0.2 0 then
 some (0, x0.2)
 else
 Option.bind (z3h low_0) fun x1 =>
 some ((subI .i64 x1 x0.1), 0)
 ) (z7h low_0 high_1 ill_2) :=
 cL o5' Tryz.func30
theorem y6p (low_0 high_1 : Config) (ill_2 : Int) : Le (
 Option.bind (z6o low_0 high_1 ill_2) fun x0 =>
 bif neB x0 0 then
 some (0, x0)
 else
 Option.bind (z3h low_0) fun x1 =>
 Option.bind (z3n low_0 ill_2) fun x2 =>
 bif !x2.1 then
 some (x1, 0)
 else
 Option.bind (z7j low_0 high_1 ill_2) fun x3 =>
 z3b x1 x3.1 (x3.1.length : Int) 0 low_0.Members high_1.Members
 ) (z4q low_0 high_1 ill_2) :=
 cL o5' Tryz.func31
end Go.Proofs.YtjfhnffdijlboaaGreat
