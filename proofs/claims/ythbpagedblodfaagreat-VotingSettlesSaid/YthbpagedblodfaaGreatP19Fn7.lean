/- What the functions come to, printed by a program and checked by the kernel. -/
import Derived.Test.YthbpagedblodfaaGreatP19Df
namespace Go.Proofs.YthbpagedblodfaaGreat
open Go Go.Ab
set_option maxRecDepth 100000
theorem y62 (a1 a4 a6 : Int) (a8 : List Claim) : Le (
 z13 a1 a4 a6 a8
 ) (z06 a1 a4 a6 a8) :=
 gL o4' (q08 Tryz.f163 [1,1,1,1,1,1,1,1,1,0,0,0])
theorem y63 (a1 : Int) (a3 : List Int) (a5 : Bool) (a7 : List Int) (a9 a11 : Int) (a13 : Bool) (a15 : List Member) : Le (
 bif a5 then
 Option.bind (z65 a1) fun x0 =>
 z24 a1 a3 false x0 (x0.length : Int) 0 a15
 else
 some a3
 ) (z3y a1 a3 a5 a7 a9 a11 a13 a15) :=
 gL o5' (q08 Tryz.f112 [1,1,1,1,0,1,0,0])
theorem y7s (a1 a4 a6 : Int) (a8 : List Claim) : Le (
 bif leB a4 a6 then
 nth a8 a1 fun _ =>
 nth a8 a6 fun _ =>
 nthN a8 (Int.toNat a1) fun y0 =>
 nthN a8 (Int.toNat a6) fun y1 =>
 Option.bind (z09 y0 y1) fun x2 =>
 bif ltB x2 0 then
 z0t a1 a4 (subI .i64 a6 1) a8
 else
 bif ltB a6 a4 then
 some (a4, a8)
 else
 nth a8 a6 fun _ =>
 nth a8 a4 fun _ =>
 nthN a8 (Int.toNat a6) fun y3 =>
 nthN a8 (Int.toNat a4) fun y4 =>
 nth a8 a4 fun _ =>
 nthN a8 (Int.toNat a4) fun _y5 =>
 nth (List.set a8 (Int.toNat a4) y3) a6 fun _ =>
 nthN (List.set a8 (Int.toNat a4) y3) (Int.toNat a6) fun _y6 =>
 z0a a1 (addI .i64 a4 1) (subI .i64 a6 1) (List.set (List.set a8 (Int.toNat a4) y3) (Int.toNat a6) y4)
 else
 bif ltB a6 a4 then
 some (a4, a8)
 else
 nth a8 a6 fun _ =>
 nth a8 a4 fun _ =>
 nthN a8 (Int.toNat a6) fun y7 =>
 nthN a8 (Int.toNat a4) fun y8 =>
 nth a8 a4 fun _ =>
 nthN a8 (Int.toNat a4) fun _y9 =>
 nth (List.set a8 (Int.toNat a4) y7) a6 fun _ =>
 nthN (List.set a8 (Int.toNat a4) y7) (Int.toNat a6) fun _y10 =>
 z0a a1 (addI .i64 a4 1) (subI .i64 a6 1) (List.set (List.set a8 (Int.toNat a4) y7) (Int.toNat a6) y8)
 ) (z0t a1 a4 a6 a8) :=
 gL o6' (q08 Tryz.f162 [1,1,1,0,0,0,0,1,0,0,0])
theorem y5k (a1 a4 a6 : Int) (a8 : List Claim) : Le (
 bif leB a4 a6 then
 nth a8 a4 fun _ =>
 nth a8 a1 fun _ =>
 nthN a8 (Int.toNat a4) fun y0 =>
 nthN a8 (Int.toNat a1) fun y1 =>
 Option.bind (z09 y0 y1) fun x2 =>
 bif ltB x2 0 then
 z13 a1 (addI .i64 a4 1) a6 a8
 else
 z0n a1 a4 a6 false a8
 else
 z0n a1 a4 a6 false a8
 ) (z13 a1 a4 a6 a8) :=
 gL o4' (q08 Tryz.f163 [1,1,1,1,1,1,1,1,1,0,0,0,0,0,0,0])
theorem y4n (a1 a4 a6 : Int) (a8 : Bool) (a10 : List Claim) : Le (
 bif leB a4 a6 then
 nth a10 a6 fun _ =>
 nth a10 a1 fun _ =>
 nthN a10 (Int.toNat a6) fun y0 =>
 nthN a10 (Int.toNat a1) fun y1 =>
 Option.bind (z09 y0 y1) fun x2 =>
 bif !(ltB x2 0) then
 z14 a1 a4 (subI .i64 a6 1) a10
 else
 bif ltB a6 a4 then
 nth a10 a1 fun _ =>
 nth a10 a6 fun _ =>
 nthN a10 (Int.toNat a1) fun y3 =>
 nthN a10 (Int.toNat a6) fun y4 =>
 nth a10 a6 fun _ =>
 nthN a10 (Int.toNat a6) fun _y5 =>
 nth (List.set a10 (Int.toNat a6) y3) a1 fun _ =>
 nthN (List.set a10 (Int.toNat a6) y3) (Int.toNat a1) fun _y6 =>
 some (a6, false, (List.set (List.set a10 (Int.toNat a6) y3) (Int.toNat a1) y4))
 else
 nth a10 a6 fun _ =>
 nth a10 a4 fun _ =>
 nthN a10 (Int.toNat a6) fun y7 =>
 nthN a10 (Int.toNat a4) fun y8 =>
 nth a10 a4 fun _ =>
 nthN a10 (Int.toNat a4) fun _y9 =>
 nth (List.set a10 (Int.toNat a4) y7) a6 fun _ =>
 nthN (List.set a10 (Int.toNat a4) y7) (Int.toNat a6) fun _y10 =>
 z06 a1 (addI .i64 a4 1) (subI .i64 a6 1) (List.set (List.set a10 (Int.toNat a4) y7) (Int.toNat a6) y8)
 else
 bif ltB a6 a4 then
 nth a10 a1 fun _ =>
 nth a10 a6 fun _ =>
 nthN a10 (Int.toNat a1) fun y11 =>
 nthN a10 (Int.toNat a6) fun y12 =>
 nth a10 a6 fun _ =>
 nthN a10 (Int.toNat a6) fun _y13 =>
 nth (List.set a10 (Int.toNat a6) y11) a1 fun _ =>
 nthN (List.set a10 (Int.toNat a6) y11) (Int.toNat a1) fun _y14 =>
 some (a6, false, (List.set (List.set a10 (Int.toNat a6) y11) (Int.toNat a1) y12))
 else
 nth a10 a6 fun _ =>
 nth a10 a4 fun _ =>
 nthN a10 (Int.toNat a6) fun y15 =>
 nthN a10 (Int.toNat a4) fun y16 =>
 nth a10 a4 fun _ =>
 nthN a10 (Int.toNat a4) fun _y17 =>
 nth (List.set a10 (Int.toNat a4) y15) a6 fun _ =>
 nthN (List.set a10 (Int.toNat a4) y15) (Int.toNat a6) fun _y18 =>
 z06 a1 (addI .i64 a4 1) (subI .i64 a6 1) (List.set (List.set a10 (Int.toNat a4) y15) (Int.toNat a6) y16)
 ) (z0n a1 a4 a6 a8 a10) :=
 gL o4' (q08 Tryz.f163 [1,1,1,1,1,1,1,1,1,0,0,0,0,1,0,0,0])
theorem y5j (a1 a4 a6 : Int) (a8 : List Claim) : Le (
 bif leB a4 a6 then
 nth a8 a6 fun _ =>
 nth a8 a1 fun _ =>
 nthN a8 (Int.toNat a6) fun y0 =>
 nthN a8 (Int.toNat a1) fun y1 =>
 Option.bind (z09 y0 y1) fun x2 =>
 bif !(ltB x2 0) then
 z14 a1 a4 (subI .i64 a6 1) a8
 else
 bif ltB a6 a4 then
 nth a8 a1 fun _ =>
 nth a8 a6 fun _ =>
 nthN a8 (Int.toNat a1) fun y3 =>
 nthN a8 (Int.toNat a6) fun y4 =>
 nth a8 a6 fun _ =>
 nthN a8 (Int.toNat a6) fun _y5 =>
 nth (List.set a8 (Int.toNat a6) y3) a1 fun _ =>
 nthN (List.set a8 (Int.toNat a6) y3) (Int.toNat a1) fun _y6 =>
 some (a6, false, (List.set (List.set a8 (Int.toNat a6) y3) (Int.toNat a1) y4))
 else
 nth a8 a6 fun _ =>
 nth a8 a4 fun _ =>
 nthN a8 (Int.toNat a6) fun y7 =>
 nthN a8 (Int.toNat a4) fun y8 =>
 nth a8 a4 fun _ =>
 nthN a8 (Int.toNat a4) fun _y9 =>
 nth (List.set a8 (Int.toNat a4) y7) a6 fun _ =>
 nthN (List.set a8 (Int.toNat a4) y7) (Int.toNat a6) fun _y10 =>
 z06 a1 (addI .i64 a4 1) (subI .i64 a6 1) (List.set (List.set a8 (Int.toNat a4) y7) (Int.toNat a6) y8)
 else
 bif ltB a6 a4 then
 nth a8 a1 fun _ =>
 nth a8 a6 fun _ =>
 nthN a8 (Int.toNat a1) fun y11 =>
 nthN a8 (Int.toNat a6) fun y12 =>
 nth a8 a6 fun _ =>
 nthN a8 (Int.toNat a6) fun _y13 =>
 nth (List.set a8 (Int.toNat a6) y11) a1 fun _ =>
 nthN (List.set a8 (Int.toNat a6) y11) (Int.toNat a1) fun _y14 =>
 some (a6, false, (List.set (List.set a8 (Int.toNat a6) y11) (Int.toNat a1) y12))
 else
 nth a8 a6 fun _ =>
 nth a8 a4 fun _ =>
 nthN a8 (Int.toNat a6) fun y15 =>
 nthN a8 (Int.toNat a4) fun y16 =>
 nth a8 a4 fun _ =>
 nthN a8 (Int.toNat a4) fun _y17 =>
 nth (List.set a8 (Int.toNat a4) y15) a6 fun _ =>
 nthN (List.set a8 (Int.toNat a4) y15) (Int.toNat a6) fun _y18 =>
 z06 a1 (addI .i64 a4 1) (subI .i64 a6 1) (List.set (List.set a8 (Int.toNat a4) y15) (Int.toNat a6) y16)
 ) (z14 a1 a4 a6 a8) :=
 gL o4' (q08 Tryz.f163 [1,1,1,1,1,1,1,1,1,0,0,0,0,1,0,0,0])
end Go.Proofs.YthbpagedblodfaaGreat
