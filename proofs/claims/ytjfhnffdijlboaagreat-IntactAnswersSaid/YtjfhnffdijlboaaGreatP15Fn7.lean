/- What the functions come to, printed by a program and checked by the kernel. -/
import Derived.Test.YtjfhnffdijlboaaGreatP15Df
namespace Go.Proofs.YtjfhnffdijlboaaGreat
open Go Go.Ab
set_option maxRecDepth 100000
theorem y6n (a_0 b_1 : Trust) : Le (
 Option.bind (z4z a_0.Threshold b_1.Threshold) fun x0 =>
 bif neB x0 0 then
 some x0
 else
 z2k 0 a_0.Threshold a_0.Nodes a_0.Inner b_1.Threshold b_1.Nodes b_1.Inner
 ) (z63 a_0 b_1) :=
 cL o0' Tryz.func132
theorem y6u (a_0 b_1 : Int) : Le (
 bif ltB a_0 b_1 then
 some (-1)
 else
 bif ltB b_1 a_0 then
 some 1
 else
 some 0
 ) (z4z a_0 b_1) :=
 cL o0' Tryz.func147
theorem y7a (a1 a3 a6 a8 : Int) (a10 : List Int) : Le (
 bif ltB a6 a3 then
 nth a10 a6 fun _ =>
 nth a10 (subI .i64 a6 1) fun _ =>
 nthN a10 (Int.toNat a6) fun y0 =>
 nthN a10 (Int.toNat (subI .i64 a6 1)) fun y1 =>
 Option.bind (z08 y0 y1) fun x2 =>
 bif !(ltB x2 0) then
 z0h a1 a3 (addI .i64 a6 1) a8 a10
 else
 bif eqB a6 a3 then
 some (true, a10)
 else
 bif ltB (subI .i64 a3 a1) 50 then
 some (false, a10)
 else
 nth a10 (subI .i64 a6 1) fun _ =>
 nth a10 a6 fun _ =>
 nthN a10 (Int.toNat (subI .i64 a6 1)) fun y3 =>
 nthN a10 (Int.toNat a6) fun y4 =>
 nth a10 a6 fun _ =>
 nthN a10 (Int.toNat a6) fun _y5 =>
 nth (List.set a10 (Int.toNat a6) y3) (subI .i64 a6 1) fun _ =>
 nthN (List.set a10 (Int.toNat a6) y3) (Int.toNat (subI .i64 a6 1)) fun _y6 =>
 bif leB 2 (subI .i64 a6 a1) then
 z07 a1 a3 a6 a8 (subI .i64 a6 1) (List.set (List.set a10 (Int.toNat a6) y3) (Int.toNat (subI .i64 a6 1)) y4)
 else
 bif leB 2 (subI .i64 a3 a6) then
 z05 a1 a3 a6 a8 (addI .i64 a6 1) (List.set (List.set a10 (Int.toNat a6) y3) (Int.toNat (subI .i64 a6 1)) y4)
 else
 z03 a1 a3 a6 (addI .i64 a8 1) (List.set (List.set a10 (Int.toNat a6) y3) (Int.toNat (subI .i64 a6 1)) y4)
 else
 bif eqB a6 a3 then
 some (true, a10)
 else
 bif ltB (subI .i64 a3 a1) 50 then
 some (false, a10)
 else
 nth a10 (subI .i64 a6 1) fun _ =>
 nth a10 a6 fun _ =>
 nthN a10 (Int.toNat (subI .i64 a6 1)) fun y7 =>
 nthN a10 (Int.toNat a6) fun y8 =>
 nth a10 a6 fun _ =>
 nthN a10 (Int.toNat a6) fun _y9 =>
 nth (List.set a10 (Int.toNat a6) y7) (subI .i64 a6 1) fun _ =>
 nthN (List.set a10 (Int.toNat a6) y7) (Int.toNat (subI .i64 a6 1)) fun _y10 =>
 bif leB 2 (subI .i64 a6 a1) then
 z07 a1 a3 a6 a8 (subI .i64 a6 1) (List.set (List.set a10 (Int.toNat a6) y7) (Int.toNat (subI .i64 a6 1)) y8)
 else
 bif leB 2 (subI .i64 a3 a6) then
 z05 a1 a3 a6 a8 (addI .i64 a6 1) (List.set (List.set a10 (Int.toNat a6) y7) (Int.toNat (subI .i64 a6 1)) y8)
 else
 z03 a1 a3 a6 (addI .i64 a8 1) (List.set (List.set a10 (Int.toNat a6) y7) (Int.toNat (subI .i64 a6 1)) y8)
 ) (z0h a1 a3 a6 a8 a10) :=
 gL o11' (q0a Tryz.f158 [1,1,0,1,0,0,1,0,0,0,0,0])
theorem y2w (a1 a3 a6 a8 a10 : Int) (a12 : List Int) : Le (
 bif leB 1 a10 then
 nth a12 a10 fun _ =>
 nth a12 (subI .i64 a10 1) fun _ =>
 nthN a12 (Int.toNat a10) fun y0 =>
 nthN a12 (Int.toNat (subI .i64 a10 1)) fun y1 =>
 Option.bind (z08 y0 y1) fun x2 =>
 bif !(ltB x2 0) then
 bif leB 2 (subI .i64 a3 a6) then
 z05 a1 a3 a6 a8 (addI .i64 a6 1) a12
 else
 z03 a1 a3 a6 (addI .i64 a8 1) a12
 else
 nth a12 (subI .i64 a10 1) fun _ =>
 nth a12 a10 fun _ =>
 nthN a12 (Int.toNat (subI .i64 a10 1)) fun y3 =>
 nthN a12 (Int.toNat a10) fun y4 =>
 nth a12 a10 fun _ =>
 nthN a12 (Int.toNat a10) fun _y5 =>
 nth (List.set a12 (Int.toNat a10) y3) (subI .i64 a10 1) fun _ =>
 nthN (List.set a12 (Int.toNat a10) y3) (Int.toNat (subI .i64 a10 1)) fun _y6 =>
 z07 a1 a3 a6 a8 (subI .i64 a10 1) (List.set (List.set a12 (Int.toNat a10) y3) (Int.toNat (subI .i64 a10 1)) y4)
 else
 bif leB 2 (subI .i64 a3 a6) then
 z05 a1 a3 a6 a8 (addI .i64 a6 1) a12
 else
 z03 a1 a3 a6 (addI .i64 a8 1) a12
 ) (z07 a1 a3 a6 a8 a10 a12) :=
 gL o11' (q0a Tryz.f158 [1,1,0,1,0,0,1,0,0,1,1,1,1,0,1,0,1,0,0])
theorem y5u (a1 a3 a6 a8 a10 : Int) (a12 : List Int) : Le (
 bif ltB a10 a3 then
 nth a12 a10 fun _ =>
 nth a12 (subI .i64 a10 1) fun _ =>
 nthN a12 (Int.toNat a10) fun y0 =>
 nthN a12 (Int.toNat (subI .i64 a10 1)) fun y1 =>
 Option.bind (z08 y0 y1) fun x2 =>
 bif !(ltB x2 0) then
 z03 a1 a3 a6 (addI .i64 a8 1) a12
 else
 nth a12 (subI .i64 a10 1) fun _ =>
 nth a12 a10 fun _ =>
 nthN a12 (Int.toNat (subI .i64 a10 1)) fun y3 =>
 nthN a12 (Int.toNat a10) fun y4 =>
 nth a12 a10 fun _ =>
 nthN a12 (Int.toNat a10) fun _y5 =>
 nth (List.set a12 (Int.toNat a10) y3) (subI .i64 a10 1) fun _ =>
 nthN (List.set a12 (Int.toNat a10) y3) (Int.toNat (subI .i64 a10 1)) fun _y6 =>
 z05 a1 a3 a6 a8 (addI .i64 a10 1) (List.set (List.set a12 (Int.toNat a10) y3) (Int.toNat (subI .i64 a10 1)) y4)
 else
 z03 a1 a3 a6 (addI .i64 a8 1) a12
 ) (z05 a1 a3 a6 a8 a10 a12) :=
 gL o11' (q0a Tryz.f158 [1,1,0,1,0,0,1,0,0,1,1,1,1,1,1,0,1,0,0])
theorem y6h (a1 a4 a6 : Int) (a8 : Bool) (a10 : List Int) : Le (
 bif leB a4 a6 then
 nth a10 a1 fun _ =>
 nth a10 a6 fun _ =>
 nthN a10 (Int.toNat a1) fun y0 =>
 nthN a10 (Int.toNat a6) fun y1 =>
 Option.bind (z08 y0 y1) fun x2 =>
 bif ltB x2 0 then
 z0r a1 a4 (subI .i64 a6 1) a10
 else
 bif ltB a6 a4 then
 some (a4, a10)
 else
 nth a10 a6 fun _ =>
 nth a10 a4 fun _ =>
 nthN a10 (Int.toNat a6) fun y3 =>
 nthN a10 (Int.toNat a4) fun y4 =>
 nth a10 a4 fun _ =>
 nthN a10 (Int.toNat a4) fun _y5 =>
 nth (List.set a10 (Int.toNat a4) y3) a6 fun _ =>
 nthN (List.set a10 (Int.toNat a4) y3) (Int.toNat a6) fun _y6 =>
 z0a a1 (addI .i64 a4 1) (subI .i64 a6 1) (List.set (List.set a10 (Int.toNat a4) y3) (Int.toNat a6) y4)
 else
 bif ltB a6 a4 then
 some (a4, a10)
 else
 nth a10 a6 fun _ =>
 nth a10 a4 fun _ =>
 nthN a10 (Int.toNat a6) fun y7 =>
 nthN a10 (Int.toNat a4) fun y8 =>
 nth a10 a4 fun _ =>
 nthN a10 (Int.toNat a4) fun _y9 =>
 nth (List.set a10 (Int.toNat a4) y7) a6 fun _ =>
 nthN (List.set a10 (Int.toNat a4) y7) (Int.toNat a6) fun _y10 =>
 z0a a1 (addI .i64 a4 1) (subI .i64 a6 1) (List.set (List.set a10 (Int.toNat a4) y7) (Int.toNat a6) y8)
 ) (z0f a1 a4 a6 a8 a10) :=
 gL o15' (q0a Tryz.f159 [1,1,1,0,0,0,0,1,0,0,0])
theorem y8m (a1 a4 a6 : Int) (a8 : List Int) : Le (
 bif leB a4 a6 then
 nth a8 a6 fun _ =>
 nth a8 a1 fun _ =>
 nthN a8 (Int.toNat a6) fun y0 =>
 nthN a8 (Int.toNat a1) fun y1 =>
 Option.bind (z08 y0 y1) fun x2 =>
 bif !(ltB x2 0) then
 z0x a1 a4 (subI .i64 a6 1) a8
 else
 bif ltB a6 a4 then
 nth a8 a1 fun _ =>
 nth a8 a6 fun _ =>
 nthN a8 (Int.toNat a1) fun y3 =>
 nthN a8 (Int.toNat a6) fun y4 =>
 nth a8 a6 fun _ =>
 nthN a8 (Int.toNat a6) fun _y5 =>
 nth (List.set a8 (Int.toNat a6) y3) a1 fun _ =>
 nthN (List.set a8 (Int.toNat a6) y3) (Int.toNat a1) fun _y6 =>
 some (a6, true, (List.set (List.set a8 (Int.toNat a6) y3) (Int.toNat a1) y4))
 else
 nth a8 a6 fun _ =>
 nth a8 a4 fun _ =>
 nthN a8 (Int.toNat a6) fun y7 =>
 nthN a8 (Int.toNat a4) fun y8 =>
 nth a8 a4 fun _ =>
 nthN a8 (Int.toNat a4) fun _y9 =>
 nth (List.set a8 (Int.toNat a4) y7) a6 fun _ =>
 nthN (List.set a8 (Int.toNat a4) y7) (Int.toNat a6) fun _y10 =>
 z06 a1 (addI .i64 a4 1) (subI .i64 a6 1) (List.set (List.set a8 (Int.toNat a4) y7) (Int.toNat a6) y8)
 else
 bif ltB a6 a4 then
 nth a8 a1 fun _ =>
 nth a8 a6 fun _ =>
 nthN a8 (Int.toNat a1) fun y11 =>
 nthN a8 (Int.toNat a6) fun y12 =>
 nth a8 a6 fun _ =>
 nthN a8 (Int.toNat a6) fun _y13 =>
 nth (List.set a8 (Int.toNat a6) y11) a1 fun _ =>
 nthN (List.set a8 (Int.toNat a6) y11) (Int.toNat a1) fun _y14 =>
 some (a6, true, (List.set (List.set a8 (Int.toNat a6) y11) (Int.toNat a1) y12))
 else
 nth a8 a6 fun _ =>
 nth a8 a4 fun _ =>
 nthN a8 (Int.toNat a6) fun y15 =>
 nthN a8 (Int.toNat a4) fun y16 =>
 nth a8 a4 fun _ =>
 nthN a8 (Int.toNat a4) fun _y17 =>
 nth (List.set a8 (Int.toNat a4) y15) a6 fun _ =>
 nthN (List.set a8 (Int.toNat a4) y15) (Int.toNat a6) fun _y18 =>
 z06 a1 (addI .i64 a4 1) (subI .i64 a6 1) (List.set (List.set a8 (Int.toNat a4) y15) (Int.toNat a6) y16)
 ) (z0x a1 a4 a6 a8) :=
 gL o8' (q0a Tryz.f160 [1,1,1,1,0,0,0])
theorem y6x (a1 a4 a6 : Int) (a8 : List Int) : Le (
 z0y a1 a4 a6 a8
 ) (z06 a1 a4 a6 a8) :=
 gL o8' (q0a Tryz.f160 [1,1,1,1,1,1,1,1,1,0,0,0])
theorem qsd (a2 a4 : Int) (a6 : List Int) (a8 : List Trust) (a10 : Int) (a12 : List Int) (a14 : List Trust) : Le (
 bif (ltB a2 (a6.length : Int)) then
 bif (ltB a2 (a12.length : Int)) then
 nth a6 a2 fun y0 =>
 nth a12 a2 fun y1 =>
 Option.bind (z4z y0 y1) fun x2 =>
 bif neB x2 0 then
 some x2
 else
 z2k (addI .i64 a2 1) a4 a6 a8 a10 a12 a14
 else
 Option.bind (z4z (a6.length : Int) (a12.length : Int)) fun x3 =>
 bif neB x3 0 then
 some x3
 else
 z1r 0 a4 a6 a8 a10 a12 a14
 else
 Option.bind (z4z (a6.length : Int) (a12.length : Int)) fun x4 =>
 bif neB x4 0 then
 some x4
 else
 z1r 0 a4 a6 a8 a10 a12 a14
 ) (z2k a2 a4 a6 a8 a10 a12 a14) :=
 gL o0' (q0a Tryz.f132 [1,1,0,1,0,0])
theorem y8k (a1 a4 a6 : Int) (a8 : List Int) : Le (
 bif leB a4 a6 then
 nth a8 a1 fun _ =>
 nth a8 a6 fun _ =>
 nthN a8 (Int.toNat a1) fun y0 =>
 nthN a8 (Int.toNat a6) fun y1 =>
 Option.bind (z08 y0 y1) fun x2 =>
 bif ltB x2 0 then
 z0r a1 a4 (subI .i64 a6 1) a8
 else
 bif ltB a6 a4 then
 some (a4, a8)
 else
 nth a8 a6 fun _ =>
 nth a8 a4 fun _ =>
 nthN a8 (Int.toNat a6) fun y3 =>
 nthN a8 (Int.toNat a4) fun y4 =>
 nth a8 a4 fun _ =>
 nthN a8 (Int.toNat a4) fun _y5 =>
 nth (List.set a8 (Int.toNat a4) y3) a6 fun _ =>
 nthN (List.set a8 (Int.toNat a4) y3) (Int.toNat a6) fun _y6 =>
 z0a a1 (addI .i64 a4 1) (subI .i64 a6 1) (List.set (List.set a8 (Int.toNat a4) y3) (Int.toNat a6) y4)
 else
 bif ltB a6 a4 then
 some (a4, a8)
 else
 nth a8 a6 fun _ =>
 nth a8 a4 fun _ =>
 nthN a8 (Int.toNat a6) fun y7 =>
 nthN a8 (Int.toNat a4) fun y8 =>
 nth a8 a4 fun _ =>
 nthN a8 (Int.toNat a4) fun _y9 =>
 nth (List.set a8 (Int.toNat a4) y7) a6 fun _ =>
 nthN (List.set a8 (Int.toNat a4) y7) (Int.toNat a6) fun _y10 =>
 z0a a1 (addI .i64 a4 1) (subI .i64 a6 1) (List.set (List.set a8 (Int.toNat a4) y7) (Int.toNat a6) y8)
 ) (z0r a1 a4 a6 a8) :=
 gL o15' (q0a Tryz.f159 [1,1,1,0,0,0,0,1,0,0,0])
theorem y7r (a1 a4 a6 : Int) (a8 : List Int) : Le (
 bif leB a4 a6 then
 nth a8 a4 fun _ =>
 nth a8 a1 fun _ =>
 nthN a8 (Int.toNat a4) fun y0 =>
 nthN a8 (Int.toNat a1) fun y1 =>
 Option.bind (z08 y0 y1) fun x2 =>
 bif ltB x2 0 then
 z0y a1 (addI .i64 a4 1) a6 a8
 else
 z0m a1 a4 a6 false a8
 else
 z0m a1 a4 a6 false a8
 ) (z0y a1 a4 a6 a8) :=
 gL o8' (q0a Tryz.f160 [1,1,1,1,1,1,1,1,1,0,0,0,0,0,0,0])
theorem qse (a2 a4 : Int) (a6 : List Int) (a8 : List Trust) (a10 : Int) (a12 : List Int) (a14 : List Trust) : Le (
 bif (ltB a2 (a8.length : Int)) then
 bif (ltB a2 (a14.length : Int)) then
 nth a8 a2 fun y0 =>
 nth a14 a2 fun y1 =>
 Option.bind (z63 y0 y1) fun x2 =>
 bif neB x2 0 then
 some x2
 else
 z1r (addI .i64 a2 1) a4 a6 a8 a10 a12 a14
 else
 Option.bind (z4z (a8.length : Int) (a14.length : Int)) fun x3 =>
 some x3
 else
 Option.bind (z4z (a8.length : Int) (a14.length : Int)) fun x4 =>
 some x4
 ) (z1r a2 a4 a6 a8 a10 a12 a14) :=
 gL o0' (q0a Tryz.f132 [1,1,1,1,0,1,0,0])
theorem y66 (a1 a4 a6 : Int) (a8 : Bool) (a10 : List Int) : Le (
 bif leB a4 a6 then
 nth a10 a6 fun _ =>
 nth a10 a1 fun _ =>
 nthN a10 (Int.toNat a6) fun y0 =>
 nthN a10 (Int.toNat a1) fun y1 =>
 Option.bind (z08 y0 y1) fun x2 =>
 bif !(ltB x2 0) then
 z0z a1 a4 (subI .i64 a6 1) a10
 else
 bif ltB a6 a4 then
 nth a10 a1 fun _ =>
 nth a10 a6 fun _ =>
 nthN a10 (Int.toNat a1) fun y3 =>
 nthN a10 (Int.toNat a6) fun y4 =>
 nth a10 a6 fun _ =>
 nthN a10 (Int.toNat a6) fun _y5 =>
 nth (List.set a10 (Int.toNat a6) y3) a1 fun _ =>
 nthN (List.set a10 (Int.toNat a6) y3) (Int.toNat a1) fun _y6 =>
 some (a6, false, (List.set (List.set a10 (Int.toNat a6) y3) (Int.toNat a1) y4))
 else
 nth a10 a6 fun _ =>
 nth a10 a4 fun _ =>
 nthN a10 (Int.toNat a6) fun y7 =>
 nthN a10 (Int.toNat a4) fun y8 =>
 nth a10 a4 fun _ =>
 nthN a10 (Int.toNat a4) fun _y9 =>
 nth (List.set a10 (Int.toNat a4) y7) a6 fun _ =>
 nthN (List.set a10 (Int.toNat a4) y7) (Int.toNat a6) fun _y10 =>
 z06 a1 (addI .i64 a4 1) (subI .i64 a6 1) (List.set (List.set a10 (Int.toNat a4) y7) (Int.toNat a6) y8)
 else
 bif ltB a6 a4 then
 nth a10 a1 fun _ =>
 nth a10 a6 fun _ =>
 nthN a10 (Int.toNat a1) fun y11 =>
 nthN a10 (Int.toNat a6) fun y12 =>
 nth a10 a6 fun _ =>
 nthN a10 (Int.toNat a6) fun _y13 =>
 nth (List.set a10 (Int.toNat a6) y11) a1 fun _ =>
 nthN (List.set a10 (Int.toNat a6) y11) (Int.toNat a1) fun _y14 =>
 some (a6, false, (List.set (List.set a10 (Int.toNat a6) y11) (Int.toNat a1) y12))
 else
 nth a10 a6 fun _ =>
 nth a10 a4 fun _ =>
 nthN a10 (Int.toNat a6) fun y15 =>
 nthN a10 (Int.toNat a4) fun y16 =>
 nth a10 a4 fun _ =>
 nthN a10 (Int.toNat a4) fun _y17 =>
 nth (List.set a10 (Int.toNat a4) y15) a6 fun _ =>
 nthN (List.set a10 (Int.toNat a4) y15) (Int.toNat a6) fun _y18 =>
 z06 a1 (addI .i64 a4 1) (subI .i64 a6 1) (List.set (List.set a10 (Int.toNat a4) y15) (Int.toNat a6) y16)
 ) (z0m a1 a4 a6 a8 a10) :=
 gL o8' (q0a Tryz.f160 [1,1,1,1,1,1,1,1,1,0,0,0,0,1,0,0,0])
theorem y6z (a1 a4 a6 : Int) (a8 : List Int) : Le (
 bif leB a4 a6 then
 nth a8 a6 fun _ =>
 nth a8 a1 fun _ =>
 nthN a8 (Int.toNat a6) fun y0 =>
 nthN a8 (Int.toNat a1) fun y1 =>
 Option.bind (z08 y0 y1) fun x2 =>
 bif !(ltB x2 0) then
 z0z a1 a4 (subI .i64 a6 1) a8
 else
 bif ltB a6 a4 then
 nth a8 a1 fun _ =>
 nth a8 a6 fun _ =>
 nthN a8 (Int.toNat a1) fun y3 =>
 nthN a8 (Int.toNat a6) fun y4 =>
 nth a8 a6 fun _ =>
 nthN a8 (Int.toNat a6) fun _y5 =>
 nth (List.set a8 (Int.toNat a6) y3) a1 fun _ =>
 nthN (List.set a8 (Int.toNat a6) y3) (Int.toNat a1) fun _y6 =>
 some (a6, false, (List.set (List.set a8 (Int.toNat a6) y3) (Int.toNat a1) y4))
 else
 nth a8 a6 fun _ =>
 nth a8 a4 fun _ =>
 nthN a8 (Int.toNat a6) fun y7 =>
 nthN a8 (Int.toNat a4) fun y8 =>
 nth a8 a4 fun _ =>
 nthN a8 (Int.toNat a4) fun _y9 =>
 nth (List.set a8 (Int.toNat a4) y7) a6 fun _ =>
 nthN (List.set a8 (Int.toNat a4) y7) (Int.toNat a6) fun _y10 =>
 z06 a1 (addI .i64 a4 1) (subI .i64 a6 1) (List.set (List.set a8 (Int.toNat a4) y7) (Int.toNat a6) y8)
 else
 bif ltB a6 a4 then
 nth a8 a1 fun _ =>
 nth a8 a6 fun _ =>
 nthN a8 (Int.toNat a1) fun y11 =>
 nthN a8 (Int.toNat a6) fun y12 =>
 nth a8 a6 fun _ =>
 nthN a8 (Int.toNat a6) fun _y13 =>
 nth (List.set a8 (Int.toNat a6) y11) a1 fun _ =>
 nthN (List.set a8 (Int.toNat a6) y11) (Int.toNat a1) fun _y14 =>
 some (a6, false, (List.set (List.set a8 (Int.toNat a6) y11) (Int.toNat a1) y12))
 else
 nth a8 a6 fun _ =>
 nth a8 a4 fun _ =>
 nthN a8 (Int.toNat a6) fun y15 =>
 nthN a8 (Int.toNat a4) fun y16 =>
 nth a8 a4 fun _ =>
 nthN a8 (Int.toNat a4) fun _y17 =>
 nth (List.set a8 (Int.toNat a4) y15) a6 fun _ =>
 nthN (List.set a8 (Int.toNat a4) y15) (Int.toNat a6) fun _y18 =>
 z06 a1 (addI .i64 a4 1) (subI .i64 a6 1) (List.set (List.set a8 (Int.toNat a4) y15) (Int.toNat a6) y16)
 ) (z0z a1 a4 a6 a8) :=
 gL o8' (q0a Tryz.f160 [1,1,1,1,1,1,1,1,1,0,0,0,0,1,0,0,0])
end Go.Proofs.YtjfhnffdijlboaaGreat
