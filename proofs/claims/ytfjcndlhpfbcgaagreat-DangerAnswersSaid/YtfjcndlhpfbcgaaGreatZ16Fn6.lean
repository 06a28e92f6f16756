/- What the functions come to, printed by a program and checked by the kernel. -/
import Derived.Test.YtfjcndlhpfbcgaaGreatZ16Df
namespace Go.Proofs.YtfjcndlhpfbcgaaGreat
open Go Go.Ab
set_option maxRecDepth 100000
theorem qxv (a0 : Int) (a2 : List Int) (a4 a6 : Int) : Le (
 bif (leB a6 a0) then
 bif (eqB (andI .i64 a6 a0) a6) then
 Option.bind (z4p a6) fun x0 =>
 bif (eqB x0 a4) then
 capOk (List.length a2 + List.length ([a6] : List (Int))) <|
 z2m a0 (a2 ++ ([a6] : List (Int))) a4 (addI .i64 a6 1)
 else
 z2m a0 a2 a4 (addI .i64 a6 1)
 else
 z2m a0 a2 a4 (addI .i64 a6 1)
 else
 z33 a0 a2 (addI .i64 a4 1)
 ) (z2m a0 a2 a4 a6) :=
 q00 (T := tn) (o := ⟨[.lf (.l .i64)],[]⟩) sigOk 100000 (b := q03 Tryz.f104 [1,1,0,1,0,0,1,0,0,1,0,0]) (by kernel_rfl) (by kernel_rfl)
theorem qx4 (a0 a3 : Int) (a5 : List Trust) (a7 a9 a11 : Int) (a13 : List Int) (a15 : List Trust) : Le (
 bif (ltB a9 a7) then
 nth a5 a9 fun y0 =>
 Option.bind (z40 y0 a0) fun x1 =>
 bif x1 then
 z25 a0 (addI .i64 a3 1) a5 a7 (addI .i64 a9 1) a11 a13 a15
 else
 z25 a0 a3 a5 a7 (addI .i64 a9 1) a11 a13 a15
 else
 some (leB a11 a3)
 ) (z25 a0 a3 a5 a7 a9 a11 a13 a15) :=
 q00 (T := tn) (o := ⟨[.lf .b],[]⟩) sigOk 100000 (b := q03 Tryz.f52 [1,1,1,1,0,1,0,0]) (by kernel_rfl) (by kernel_rfl)
theorem y44 (a1 : Int) (a3 : List Int) (a5 : Bool) (a7 : List Int) (a9 a11 : Int) (a13 : Bool) (a15 : List Member) : Le (
 bif a5 then
 Option.bind (z5a a1) fun x0 =>
 z24 a1 a3 false x0 ((List.length x0 : Nat) : Int) 0 a15
 else
 some a3
 ) (z44 a1 a3 a5 a7 a9 a11 a13 a15) :=
 q00 (T := tn) (o := ⟨[.lf (.l .i64)],[]⟩) sigOk 100000 (b := q03 Tryz.f53 [1,1,1,1,0,1,0,0]) (by kernel_rfl) (by kernel_rfl)
theorem qz8 (a1 a3 a6 a8 : Int) (a10 : List Int) : Le (
 bif (ltB a1 a8) then
 nth a10 a8 fun _ =>
 nth a10 (subI .i64 a8 1) fun _ =>
 nthN a10 (Int.toNat a8) fun y0 =>
 nthN a10 (Int.toNat (subI .i64 a8 1)) fun y1 =>
 Option.bind (z08 y0 y1) fun x2 =>
 bif (ltB x2 0) then
 nth a10 (subI .i64 a8 1) fun _ =>
 nth a10 a8 fun _ =>
 nthN a10 (Int.toNat (subI .i64 a8 1)) fun y3 =>
 nthN a10 (Int.toNat a8) fun y4 =>
 nth a10 a8 fun _ =>
 nthN a10 (Int.toNat a8) fun _y5 =>
 nth (List.set a10 (Int.toNat a8) y3) (subI .i64 a8 1) fun _ =>
 nthN (List.set a10 (Int.toNat a8) y3) (Int.toNat (subI .i64 a8 1)) fun _y6 =>
 z0h a1 a3 a6 (subI .i64 a8 1) (List.set (List.set a10 (Int.toNat a8) y3) (Int.toNat (subI .i64 a8 1)) y4)
 else
 z0d a1 a3 (addI .i64 a6 1) a10
 else
 z0d a1 a3 (addI .i64 a6 1) a10
 ) (z0h a1 a3 a6 a8 a10) :=
 q00 (T := tn) (o := ⟨[],[[.own .i64 false]]⟩) sigOk 100000 (b := q03 Tryz.f127 [1,0,0,1,0,0,1,0,0]) (by kernel_rfl) (by kernel_rfl)
theorem qyp (a2 a4 a6 : Int) (a8 : List Int) : Le (
 bif (leB 0 a6) then
 nth a8 (addI .i64 a2 a6) fun _ =>
 nth a8 a2 fun _ =>
 nthN a8 (Int.toNat (addI .i64 a2 a6)) fun y0 =>
 nthN a8 (Int.toNat a2) fun y1 =>
 nth a8 a2 fun _ =>
 nthN a8 (Int.toNat a2) fun _y2 =>
 nth (List.set a8 (Int.toNat a2) y0) (addI .i64 a2 a6) fun _ =>
 nthN (List.set a8 (Int.toNat a2) y0) (Int.toNat (addI .i64 a2 a6)) fun _y3 =>
 Option.bind (z13 a4 a6 a2 (List.set (List.set a8 (Int.toNat a2) y0) (Int.toNat (addI .i64 a2 a6)) y1)) fun x4 =>
 z0r a2 a4 (subI .i64 a6 1) x4
 else
 some a8
 ) (z0r a2 a4 a6 a8) :=
 q00 (T := tn) (o := ⟨[],[[.own .i64 false]]⟩) sigOk 100000 (b := q03 Tryz.f128 [1,1,1,1,1,0,0]) (by kernel_rfl) (by kernel_rfl)
theorem y2k (a1 a3 a6 : Int) (a8 : List Int) : Le (
 bif (leB a1 (addI .i64 (mulI .i64 2 a6) 1)) then
 some a8
 else
 bif (ltB (addI .i64 (addI .i64 (mulI .i64 2 a6) 1) 1) a1) then
 nth a8 (addI .i64 a3 (addI .i64 (mulI .i64 2 a6) 1)) fun _ =>
 nth a8 (addI .i64 (addI .i64 a3 (addI .i64 (mulI .i64 2 a6) 1)) 1) fun _ =>
 nthN a8 (Int.toNat (addI .i64 a3 (addI .i64 (mulI .i64 2 a6) 1))) fun y0 =>
 nthN a8 (Int.toNat (addI .i64 (addI .i64 a3 (addI .i64 (mulI .i64 2 a6) 1)) 1)) fun y1 =>
 Option.bind (z08 y0 y1) fun x2 =>
 bif (ltB x2 0) then
 nth a8 (addI .i64 a3 a6) fun _ =>
 nth a8 (addI .i64 a3 (addI .i64 (addI .i64 (mulI .i64 2 a6) 1) 1)) fun _ =>
 nthN a8 (Int.toNat (addI .i64 a3 a6)) fun y3 =>
 nthN a8 (Int.toNat (addI .i64 a3 (addI .i64 (addI .i64 (mulI .i64 2 a6) 1) 1))) fun y4 =>
 Option.bind (z08 y3 y4) fun x5 =>
 bif (!(ltB x5 0)) then
 some a8
 else
 nth a8 (addI .i64 a3 (addI .i64 (addI .i64 (mulI .i64 2 a6) 1) 1)) fun _ =>
 nth a8 (addI .i64 a3 a6) fun _ =>
 nthN a8 (Int.toNat (addI .i64 a3 (addI .i64 (addI .i64 (mulI .i64 2 a6) 1) 1))) fun y6 =>
 nthN a8 (Int.toNat (addI .i64 a3 a6)) fun y7 =>
 nth a8 (addI .i64 a3 a6) fun _ =>
 nthN a8 (Int.toNat (addI .i64 a3 a6)) fun _y8 =>
 nth (List.set a8 (Int.toNat (addI .i64 a3 a6)) y6) (addI .i64 a3 (addI .i64 (addI .i64 (mulI .i64 2 a6) 1) 1)) fun _ =>
 nthN (List.set a8 (Int.toNat (addI .i64 a3 a6)) y6) (Int.toNat (addI .i64 a3 (addI .i64 (addI .i64 (mulI .i64 2 a6) 1) 1))) fun _y9 =>
 z0c a1 a3 (addI .i64 (addI .i64 (mulI .i64 2 a6) 1) 1) (List.set (List.set a8 (Int.toNat (addI .i64 a3 a6)) y6) (Int.toNat (addI .i64 a3 (addI .i64 (addI .i64 (mulI .i64 2 a6) 1) 1))) y7)
 else
 nth a8 (addI .i64 a3 a6) fun _ =>
 nth a8 (addI .i64 a3 (addI .i64 (mulI .i64 2 a6) 1)) fun _ =>
 nthN a8 (Int.toNat (addI .i64 a3 a6)) fun y10 =>
 nthN a8 (Int.toNat (addI .i64 a3 (addI .i64 (mulI .i64 2 a6) 1))) fun y11 =>
 Option.bind (z08 y10 y11) fun x12 =>
 bif (!(ltB x12 0)) then
 some a8
 else
 nth a8 (addI .i64 a3 (addI .i64 (mulI .i64 2 a6) 1)) fun _ =>
 nth a8 (addI .i64 a3 a6) fun _ =>
 nthN a8 (Int.toNat (addI .i64 a3 (addI .i64 (mulI .i64 2 a6) 1))) fun y13 =>
 nthN a8 (Int.toNat (addI .i64 a3 a6)) fun y14 =>
 nth a8 (addI .i64 a3 a6) fun _ =>
 nthN a8 (Int.toNat (addI .i64 a3 a6)) fun _y15 =>
 nth (List.set a8 (Int.toNat (addI .i64 a3 a6)) y13) (addI .i64 a3 (addI .i64 (mulI .i64 2 a6) 1)) fun _ =>
 nthN (List.set a8 (Int.toNat (addI .i64 a3 a6)) y13) (Int.toNat (addI .i64 a3 (addI .i64 (mulI .i64 2 a6) 1))) fun _y16 =>
 z0c a1 a3 (addI .i64 (mulI .i64 2 a6) 1) (List.set (List.set a8 (Int.toNat (addI .i64 a3 a6)) y13) (Int.toNat (addI .i64 a3 (addI .i64 (mulI .i64 2 a6) 1))) y14)
 else
 nth a8 (addI .i64 a3 a6) fun _ =>
 nth a8 (addI .i64 a3 (addI .i64 (mulI .i64 2 a6) 1)) fun _ =>
 nthN a8 (Int.toNat (addI .i64 a3 a6)) fun y17 =>
 nthN a8 (Int.toNat (addI .i64 a3 (addI .i64 (mulI .i64 2 a6) 1))) fun y18 =>
 Option.bind (z08 y17 y18) fun x19 =>
 bif (!(ltB x19 0)) then
 some a8
 else
 nth a8 (addI .i64 a3 (addI .i64 (mulI .i64 2 a6) 1)) fun _ =>
 nth a8 (addI .i64 a3 a6) fun _ =>
 nthN a8 (Int.toNat (addI .i64 a3 (addI .i64 (mulI .i64 2 a6) 1))) fun y20 =>
 nthN a8 (Int.toNat (addI .i64 a3 a6)) fun y21 =>
 nth a8 (addI .i64 a3 a6) fun _ =>
 nthN a8 (Int.toNat (addI .i64 a3 a6)) fun _y22 =>
 nth (List.set a8 (Int.toNat (addI .i64 a3 a6)) y20) (addI .i64 a3 (addI .i64 (mulI .i64 2 a6) 1)) fun _ =>
 nthN (List.set a8 (Int.toNat (addI .i64 a3 a6)) y20) (Int.toNat (addI .i64 a3 (addI .i64 (mulI .i64 2 a6) 1))) fun _y23 =>
 z0c a1 a3 (addI .i64 (mulI .i64 2 a6) 1) (List.set (List.set a8 (Int.toNat (addI .i64 a3 a6)) y20) (Int.toNat (addI .i64 a3 (addI .i64 (mulI .i64 2 a6) 1))) y21)
 ) (z0c a1 a3 a6 a8) :=
 q00 (T := tn) (o := ⟨[],[[.own .i64 false]]⟩) sigOk 100000 (b := q03 Tryz.f140 [1,0,0]) (by kernel_rfl) (by kernel_rfl)
theorem y3z (a1 a3 a6 a8 : Int) (a10 : Bool) (a12 : List Int) : Le (
 bif (ltB a6 a3) then
 nth a12 a6 fun _ =>
 nth a12 (subI .i64 a6 1) fun _ =>
 nthN a12 (Int.toNat a6) fun y0 =>
 nthN a12 (Int.toNat (subI .i64 a6 1)) fun y1 =>
 Option.bind (z08 y0 y1) fun x2 =>
 bif (!(ltB x2 0)) then
 z0i a1 a3 (addI .i64 a6 1) a8 a12
 else
 bif (eqB a6 a3) then
 some (true, a12)
 else
 bif (ltB (subI .i64 a3 a1) 50) then
 some (false, a12)
 else
 nth a12 (subI .i64 a6 1) fun _ =>
 nth a12 a6 fun _ =>
 nthN a12 (Int.toNat (subI .i64 a6 1)) fun y3 =>
 nthN a12 (Int.toNat a6) fun y4 =>
 nth a12 a6 fun _ =>
 nthN a12 (Int.toNat a6) fun _y5 =>
 nth (List.set a12 (Int.toNat a6) y3) (subI .i64 a6 1) fun _ =>
 nthN (List.set a12 (Int.toNat a6) y3) (Int.toNat (subI .i64 a6 1)) fun _y6 =>
 bif (leB 2 (subI .i64 a6 a1)) then
 z07 a1 a3 a6 a8 (subI .i64 a6 1) (List.set (List.set a12 (Int.toNat a6) y3) (Int.toNat (subI .i64 a6 1)) y4)
 else
 bif (leB 2 (subI .i64 a3 a6)) then
 z05 a1 a3 a6 a8 (addI .i64 a6 1) (List.set (List.set a12 (Int.toNat a6) y3) (Int.toNat (subI .i64 a6 1)) y4)
 else
 z03 a1 a3 a6 (addI .i64 a8 1) (List.set (List.set a12 (Int.toNat a6) y3) (Int.toNat (subI .i64 a6 1)) y4)
 else
 bif (eqB a6 a3) then
 some (true, a12)
 else
 bif (ltB (subI .i64 a3 a1) 50) then
 some (false, a12)
 else
 nth a12 (subI .i64 a6 1) fun _ =>
 nth a12 a6 fun _ =>
 nthN a12 (Int.toNat (subI .i64 a6 1)) fun y7 =>
 nthN a12 (Int.toNat a6) fun y8 =>
 nth a12 a6 fun _ =>
 nthN a12 (Int.toNat a6) fun _y9 =>
 nth (List.set a12 (Int.toNat a6) y7) (subI .i64 a6 1) fun _ =>
 nthN (List.set a12 (Int.toNat a6) y7) (Int.toNat (subI .i64 a6 1)) fun _y10 =>
 bif (leB 2 (subI .i64 a6 a1)) then
 z07 a1 a3 a6 a8 (subI .i64 a6 1) (List.set (List.set a12 (Int.toNat a6) y7) (Int.toNat (subI .i64 a6 1)) y8)
 else
 bif (leB 2 (subI .i64 a3 a6)) then
 z05 a1 a3 a6 a8 (addI .i64 a6 1) (List.set (List.set a12 (Int.toNat a6) y7) (Int.toNat (subI .i64 a6 1)) y8)
 else
 z03 a1 a3 a6 (addI .i64 a8 1) (List.set (List.set a12 (Int.toNat a6) y7) (Int.toNat (subI .i64 a6 1)) y8)
 ) (z0v a1 a3 a6 a8 a10 a12) :=
 q00 (T := tn) (o := ⟨[.lf .b],[[.own .i64 false]]⟩) sigOk 100000 (b := q03 Tryz.f132 [1,1,0,1,0,0,1,0,0,0,0,0]) (by kernel_rfl) (by kernel_rfl)
theorem y4n (a1 a4 a6 : Int) (a8 : List Int) : Le (
 bif (leB a4 a6) then
 nth a8 a1 fun _ =>
 nth a8 a4 fun _ =>
 nthN a8 (Int.toNat a1) fun y0 =>
 nthN a8 (Int.toNat a4) fun y1 =>
 Option.bind (z08 y0 y1) fun x2 =>
 bif (!(ltB x2 0)) then
 z0s a1 (addI .i64 a4 1) a6 a8
 else
 z0g a1 a4 a6 false a8
 else
 z0g a1 a4 a6 false a8
 ) (z0s a1 a4 a6 a8) :=
 q00 (T := tn) (o := ⟨[.lf (.i .i64)],[[.own .i64 false]]⟩) sigOk 100000 (b := q03 Tryz.f133 [1,1,1,0,0,0,0,0,0,0]) (by kernel_rfl) (by kernel_rfl)
theorem y3p (a1 a4 a6 : Int) (a8 : Bool) (a10 : List Int) : Le (
 bif (leB a4 a6) then
 nth a10 a6 fun _ =>
 nth a10 a1 fun _ =>
 nthN a10 (Int.toNat a6) fun y0 =>
 nthN a10 (Int.toNat a1) fun y1 =>
 Option.bind (z08 y0 y1) fun x2 =>
 bif (!(ltB x2 0)) then
 z0z a1 a4 (subI .i64 a6 1) a10
 else
 bif (ltB a6 a4) then
 nth a10 a1 fun _ =>
 nth a10 a6 fun _ =>
 nthN a10 (Int.toNat a1) fun y3 =>
 nthN a10 (Int.toNat a6) fun y4 =>
 nth a10 a6 fun _ =>
 nthN a10 (Int.toNat a6) fun _y5 =>
 nth (List.set a10 (Int.toNat a6) y3) a1 fun _ =>
 nthN (List.set a10 (Int.toNat a6) y3) (Int.toNat a1) fun _y6 =>
 some (a6, true, (List.set (List.set a10 (Int.toNat a6) y3) (Int.toNat a1) y4))
 else
 nth a10 a6 fun _ =>
 nth a10 a4 fun _ =>
 nthN a10 (Int.toNat a6) fun y7 =>
 nthN a10 (Int.toNat a4) fun y8 =>
 nth a10 a4 fun _ =>
 nthN a10 (Int.toNat a4) fun _y9 =>
 nth (List.set a10 (Int.toNat a4) y7) a6 fun _ =>
 nthN (List.set a10 (Int.toNat a4) y7) (Int.toNat a6) fun _y10 =>
 z06 a1 (addI .i64 a4 1) (subI .i64 a6 1) (List.set (List.set a10 (Int.toNat a4) y7) (Int.toNat a6) y8)
 else
 bif (ltB a6 a4) then
 nth a10 a1 fun _ =>
 nth a10 a6 fun _ =>
 nthN a10 (Int.toNat a1) fun y11 =>
 nthN a10 (Int.toNat a6) fun y12 =>
 nth a10 a6 fun _ =>
 nthN a10 (Int.toNat a6) fun _y13 =>
 nth (List.set a10 (Int.toNat a6) y11) a1 fun _ =>
 nthN (List.set a10 (Int.toNat a6) y11) (Int.toNat a1) fun _y14 =>
 some (a6, true, (List.set (List.set a10 (Int.toNat a6) y11) (Int.toNat a1) y12))
 else
 nth a10 a6 fun _ =>
 nth a10 a4 fun _ =>
 nthN a10 (Int.toNat a6) fun y15 =>
 nthN a10 (Int.toNat a4) fun y16 =>
 nth a10 a4 fun _ =>
 nthN a10 (Int.toNat a4) fun _y17 =>
 nth (List.set a10 (Int.toNat a4) y15) a6 fun _ =>
 nthN (List.set a10 (Int.toNat a4) y15) (Int.toNat a6) fun _y18 =>
 z06 a1 (addI .i64 a4 1) (subI .i64 a6 1) (List.set (List.set a10 (Int.toNat a4) y15) (Int.toNat a6) y16)
 ) (z0m a1 a4 a6 a8 a10) :=
 q00 (T := tn) (o := ⟨[.lf (.i .i64), .lf .b],[[.own .i64 false]]⟩) sigOk 100000 (b := q03 Tryz.f134 [1,1,1,1,0,0,0]) (by kernel_rfl) (by kernel_rfl)
theorem qy8 (a0 a3 : Int) (a5 : List Trust) (a7 a9 a11 : Int) (a13 : List Int) (a15 : List Trust) : Le (
 bif (ltB a9 a7) then
 nth a5 a9 fun y0 =>
 Option.bind (z3d y0 a0) fun x1 =>
 bif x1 then
 z1l a0 (addI .i64 a3 1) a5 a7 (addI .i64 a9 1) a11 a13 a15
 else
 z1l a0 a3 a5 a7 (addI .i64 a9 1) a11 a13 a15
 else
 some (leB a11 a3)
 ) (z1l a0 a3 a5 a7 a9 a11 a13 a15) :=
 q00 (T := tn) (o := ⟨[.lf .b],[]⟩) sigOk 100000 (b := q03 Tryz.f145 [1,1,1,1,0,1,0,0]) (by kernel_rfl) (by kernel_rfl)
theorem y23 (a1 a3 a6 a8 : Int) (a10 : List Int) : Le (
 bif (ltB a6 a3) then
 nth a10 a6 fun _ =>
 nth a10 (subI .i64 a6 1) fun _ =>
 nthN a10 (Int.toNat a6) fun y0 =>
 nthN a10 (Int.toNat (subI .i64 a6 1)) fun y1 =>
 Option.bind (z08 y0 y1) fun x2 =>
 bif (!(ltB x2 0)) then
 z0i a1 a3 (addI .i64 a6 1) a8 a10
 else
 bif (eqB a6 a3) then
 some (true, a10)
 else
 bif (ltB (subI .i64 a3 a1) 50) then
 some (false, a10)
 else
 nth a10 (subI .i64 a6 1) fun _ =>
 nth a10 a6 fun _ =>
 nthN a10 (Int.toNat (subI .i64 a6 1)) fun y3 =>
 nthN a10 (Int.toNat a6) fun y4 =>
 nth a10 a6 fun _ =>
 nthN a10 (Int.toNat a6) fun _y5 =>
 nth (List.set a10 (Int.toNat a6) y3) (subI .i64 a6 1) fun _ =>
 nthN (List.set a10 (Int.toNat a6) y3) (Int.toNat (subI .i64 a6 1)) fun _y6 =>
 bif (leB 2 (subI .i64 a6 a1)) then
 z07 a1 a3 a6 a8 (subI .i64 a6 1) (List.set (List.set a10 (Int.toNat a6) y3) (Int.toNat (subI .i64 a6 1)) y4)
 else
 bif (leB 2 (subI .i64 a3 a6)) then
 z05 a1 a3 a6 a8 (addI .i64 a6 1) (List.set (List.set a10 (Int.toNat a6) y3) (Int.toNat (subI .i64 a6 1)) y4)
 else
 z03 a1 a3 a6 (addI .i64 a8 1) (List.set (List.set a10 (Int.toNat a6) y3) (Int.toNat (subI .i64 a6 1)) y4)
 else
 bif (eqB a6 a3) then
 some (true, a10)
 else
 bif (ltB (subI .i64 a3 a1) 50) then
 some (false, a10)
 else
 nth a10 (subI .i64 a6 1) fun _ =>
 nth a10 a6 fun _ =>
 nthN a10 (Int.toNat (subI .i64 a6 1)) fun y7 =>
 nthN a10 (Int.toNat a6) fun y8 =>
 nth a10 a6 fun _ =>
 nthN a10 (Int.toNat a6) fun _y9 =>
 nth (List.set a10 (Int.toNat a6) y7) (subI .i64 a6 1) fun _ =>
 nthN (List.set a10 (Int.toNat a6) y7) (Int.toNat (subI .i64 a6 1)) fun _y10 =>
 bif (leB 2 (subI .i64 a6 a1)) then
 z07 a1 a3 a6 a8 (subI .i64 a6 1) (List.set (List.set a10 (Int.toNat a6) y7) (Int.toNat (subI .i64 a6 1)) y8)
 else
 bif (leB 2 (subI .i64 a3 a6)) then
 z05 a1 a3 a6 a8 (addI .i64 a6 1) (List.set (List.set a10 (Int.toNat a6) y7) (Int.toNat (subI .i64 a6 1)) y8)
 else
 z03 a1 a3 a6 (addI .i64 a8 1) (List.set (List.set a10 (Int.toNat a6) y7) (Int.toNat (subI .i64 a6 1)) y8)
 ) (z0i a1 a3 a6 a8 a10) :=
 q00 (T := tn) (o := ⟨[.lf .b],[[.own .i64 false]]⟩) sigOk 100000 (b := q03 Tryz.f132 [1,1,0,1,0,0,1,0,0,0,0,0]) (by kernel_rfl) (by kernel_rfl)
theorem qyk (a1 a3 a6 a8 a10 : Int) (a12 : List Int) : Le (
 bif (leB 1 a10) then
 nth a12 a10 fun _ =>
 nth a12 (subI .i64 a10 1) fun _ =>
 nthN a12 (Int.toNat a10) fun y0 =>
 nthN a12 (Int.toNat (subI .i64 a10 1)) fun y1 =>
 Option.bind (z08 y0 y1) fun x2 =>
 bif (!(ltB x2 0)) then
 bif (leB 2 (subI .i64 a3 a6)) then
 z05 a1 a3 a6 a8 (addI .i64 a6 1) a12
 else
 z03 a1 a3 a6 (addI .i64 a8 1) a12
 else
 nth a12 (subI .i64 a10 1) fun _ =>
 nth a12 a10 fun _ =>
 nthN a12 (Int.toNat (subI .i64 a10 1)) fun y3 =>
 nthN a12 (Int.toNat a10) fun y4 =>
 nth a12 a10 fun _ =>
 nthN a12 (Int.toNat a10) fun _y5 =>
 nth (List.set a12 (Int.toNat a10) y3) (subI .i64 a10 1) fun _ =>
 nthN (List.set a12 (Int.toNat a10) y3) (Int.toNat (subI .i64 a10 1)) fun _y6 =>
 z07 a1 a3 a6 a8 (subI .i64 a10 1) (List.set (List.set a12 (Int.toNat a10) y3) (Int.toNat (subI .i64 a10 1)) y4)
 else
 bif (leB 2 (subI .i64 a3 a6)) then
 z05 a1 a3 a6 a8 (addI .i64 a6 1) a12
 else
 z03 a1 a3 a6 (addI .i64 a8 1) a12
 ) (z07 a1 a3 a6 a8 a10 a12) :=
 q00 (T := tn) (o := ⟨[.lf .b],[[.own .i64 false]]⟩) sigOk 100000 (b := q03 Tryz.f132 [1,1,0,1,0,0,1,0,0,1,1,1,1,0,1,0,1,0,0]) (by kernel_rfl) (by kernel_rfl)
theorem y1t (a1 a3 a6 a8 a10 : Int) (a12 : List Int) : Le (
 bif (ltB a10 a3) then
 nth a12 a10 fun _ =>
 nth a12 (subI .i64 a10 1) fun _ =>
 nthN a12 (Int.toNat a10) fun y0 =>
 nthN a12 (Int.toNat (subI .i64 a10 1)) fun y1 =>
 Option.bind (z08 y0 y1) fun x2 =>
 bif (!(ltB x2 0)) then
 z03 a1 a3 a6 (addI .i64 a8 1) a12
 else
 nth a12 (subI .i64 a10 1) fun _ =>
 nth a12 a10 fun _ =>
 nthN a12 (Int.toNat (subI .i64 a10 1)) fun y3 =>
 nthN a12 (Int.toNat a10) fun y4 =>
 nth a12 a10 fun _ =>
 nthN a12 (Int.toNat a10) fun _y5 =>
 nth (List.set a12 (Int.toNat a10) y3) (subI .i64 a10 1) fun _ =>
 nthN (List.set a12 (Int.toNat a10) y3) (Int.toNat (subI .i64 a10 1)) fun _y6 =>
 z05 a1 a3 a6 a8 (addI .i64 a10 1) (List.set (List.set a12 (Int.toNat a10) y3) (Int.toNat (subI .i64 a10 1)) y4)
 else
 z03 a1 a3 a6 (addI .i64 a8 1) a12
 ) (z05 a1 a3 a6 a8 a10 a12) :=
 q00 (T := tn) (o := ⟨[.lf .b],[[.own .i64 false]]⟩) sigOk 100000 (b := q03 Tryz.f132 [1,1,0,1,0,0,1,0,0,1,1,1,1,1,1,0,1,0,0]) (by kernel_rfl) (by kernel_rfl)
theorem y4w (a1 a4 a6 : Int) (a8 : Bool) (a10 : List Int) : Le (
 bif (leB a4 a6) then
 nth a10 a1 fun _ =>
 nth a10 a6 fun _ =>
 nthN a10 (Int.toNat a1) fun y0 =>
 nthN a10 (Int.toNat a6) fun y1 =>
 Option.bind (z08 y0 y1) fun x2 =>
 bif (ltB x2 0) then
 z0t a1 a4 (subI .i64 a6 1) a10
 else
 bif (ltB a6 a4) then
 some (a4, a10)
 else
 nth a10 a6 fun _ =>
 nth a10 a4 fun _ =>
 nthN a10 (Int.toNat a6) fun y3 =>
 nthN a10 (Int.toNat a4) fun y4 =>
 nth a10 a4 fun _ =>
 nthN a10 (Int.toNat a4) fun _y5 =>
 nth (List.set a10 (Int.toNat a4) y3) a6 fun _ =>
 nthN (List.set a10 (Int.toNat a4) y3) (Int.toNat a6) fun _y6 =>
 z0a a1 (addI .i64 a4 1) (subI .i64 a6 1) (List.set (List.set a10 (Int.toNat a4) y3) (Int.toNat a6) y4)
 else
 bif (ltB a6 a4) then
 some (a4, a10)
 else
 nth a10 a6 fun _ =>
 nth a10 a4 fun _ =>
 nthN a10 (Int.toNat a6) fun y7 =>
 nthN a10 (Int.toNat a4) fun y8 =>
 nth a10 a4 fun _ =>
 nthN a10 (Int.toNat a4) fun _y9 =>
 nth (List.set a10 (Int.toNat a4) y7) a6 fun _ =>
 nthN (List.set a10 (Int.toNat a4) y7) (Int.toNat a6) fun _y10 =>
 z0a a1 (addI .i64 a4 1) (subI .i64 a6 1) (List.set (List.set a10 (Int.toNat a4) y7) (Int.toNat a6) y8)
 ) (z0g a1 a4 a6 a8 a10) :=
 q00 (T := tn) (o := ⟨[.lf (.i .i64)],[[.own .i64 false]]⟩) sigOk 100000 (b := q03 Tryz.f133 [1,1,1,0,0,0,0,1,0,0,0]) (by kernel_rfl) (by kernel_rfl)
theorem y5t (a1 a4 a6 : Int) (a8 : List Int) : Le (
 bif (leB a4 a6) then
 nth a8 a6 fun _ =>
 nth a8 a1 fun _ =>
 nthN a8 (Int.toNat a6) fun y0 =>
 nthN a8 (Int.toNat a1) fun y1 =>
 Option.bind (z08 y0 y1) fun x2 =>
 bif (!(ltB x2 0)) then
 z0z a1 a4 (subI .i64 a6 1) a8
 else
 bif (ltB a6 a4) then
 nth a8 a1 fun _ =>
 nth a8 a6 fun _ =>
 nthN a8 (Int.toNat a1) fun y3 =>
 nthN a8 (Int.toNat a6) fun y4 =>
 nth a8 a6 fun _ =>
 nthN a8 (Int.toNat a6) fun _y5 =>
 nth (List.set a8 (Int.toNat a6) y3) a1 fun _ =>
 nthN (List.set a8 (Int.toNat a6) y3) (Int.toNat a1) fun _y6 =>
 some (a6, true, (List.set (List.set a8 (Int.toNat a6) y3) (Int.toNat a1) y4))
 else
 nth a8 a6 fun _ =>
 nth a8 a4 fun _ =>
 nthN a8 (Int.toNat a6) fun y7 =>
 nthN a8 (Int.toNat a4) fun y8 =>
 nth a8 a4 fun _ =>
 nthN a8 (Int.toNat a4) fun _y9 =>
 nth (List.set a8 (Int.toNat a4) y7) a6 fun _ =>
 nthN (List.set a8 (Int.toNat a4) y7) (Int.toNat a6) fun _y10 =>
 z06 a1 (addI .i64 a4 1) (subI .i64 a6 1) (List.set (List.set a8 (Int.toNat a4) y7) (Int.toNat a6) y8)
 else
 bif (ltB a6 a4) then
 nth a8 a1 fun _ =>
 nth a8 a6 fun _ =>
 nthN a8 (Int.toNat a1) fun y11 =>
 nthN a8 (Int.toNat a6) fun y12 =>
 nth a8 a6 fun _ =>
 nthN a8 (Int.toNat a6) fun _y13 =>
 nth (List.set a8 (Int.toNat a6) y11) a1 fun _ =>
 nthN (List.set a8 (Int.toNat a6) y11) (Int.toNat a1) fun _y14 =>
 some (a6, true, (List.set (List.set a8 (Int.toNat a6) y11) (Int.toNat a1) y12))
 else
 nth a8 a6 fun _ =>
 nth a8 a4 fun _ =>
 nthN a8 (Int.toNat a6) fun y15 =>
 nthN a8 (Int.toNat a4) fun y16 =>
 nth a8 a4 fun _ =>
 nthN a8 (Int.toNat a4) fun _y17 =>
 nth (List.set a8 (Int.toNat a4) y15) a6 fun _ =>
 nthN (List.set a8 (Int.toNat a4) y15) (Int.toNat a6) fun _y18 =>
 z06 a1 (addI .i64 a4 1) (subI .i64 a6 1) (List.set (List.set a8 (Int.toNat a4) y15) (Int.toNat a6) y16)
 ) (z0z a1 a4 a6 a8) :=
 q00 (T := tn) (o := ⟨[.lf (.i .i64), .lf .b],[[.own .i64 false]]⟩) sigOk 100000 (b := q03 Tryz.f134 [1,1,1,1,0,0,0]) (by kernel_rfl) (by kernel_rfl)
theorem y25 (a1 a4 a6 : Int) (a8 : List Int) : Le (
 z10 a1 a4 a6 a8
 ) (z06 a1 a4 a6 a8) :=
 q00 (T := tn) (o := ⟨[.lf (.i .i64), .lf .b],[[.own .i64 false]]⟩) sigOk 100000 (b := q03 Tryz.f134 [1,1,1,1,1,1,1,1,1,0,0,0]) (by kernel_rfl) (by kernel_rfl)
theorem y2u (a1 a4 a6 : Int) (a8 : List Int) : Le (
 bif (leB a4 a6) then
 nth a8 a1 fun _ =>
 nth a8 a6 fun _ =>
 nthN a8 (Int.toNat a1) fun y0 =>
 nthN a8 (Int.toNat a6) fun y1 =>
 Option.bind (z08 y0 y1) fun x2 =>
 bif (ltB x2 0) then
 z0t a1 a4 (subI .i64 a6 1) a8
 else
 bif (ltB a6 a4) then
 some (a4, a8)
 else
 nth a8 a6 fun _ =>
 nth a8 a4 fun _ =>
 nthN a8 (Int.toNat a6) fun y3 =>
 nthN a8 (Int.toNat a4) fun y4 =>
 nth a8 a4 fun _ =>
 nthN a8 (Int.toNat a4) fun _y5 =>
 nth (List.set a8 (Int.toNat a4) y3) a6 fun _ =>
 nthN (List.set a8 (Int.toNat a4) y3) (Int.toNat a6) fun _y6 =>
 z0a a1 (addI .i64 a4 1) (subI .i64 a6 1) (List.set (List.set a8 (Int.toNat a4) y3) (Int.toNat a6) y4)
 else
 bif (ltB a6 a4) then
 some (a4, a8)
 else
 nth a8 a6 fun _ =>
 nth a8 a4 fun _ =>
 nthN a8 (Int.toNat a6) fun y7 =>
 nthN a8 (Int.toNat a4) fun y8 =>
 nth a8 a4 fun _ =>
 nthN a8 (Int.toNat a4) fun _y9 =>
 nth (List.set a8 (Int.toNat a4) y7) a6 fun _ =>
 nthN (List.set a8 (Int.toNat a4) y7) (Int.toNat a6) fun _y10 =>
 z0a a1 (addI .i64 a4 1) (subI .i64 a6 1) (List.set (List.set a8 (Int.toNat a4) y7) (Int.toNat a6) y8)
 ) (z0t a1 a4 a6 a8) :=
 q00 (T := tn) (o := ⟨[.lf (.i .i64)],[[.own .i64 false]]⟩) sigOk 100000 (b := q03 Tryz.f133 [1,1,1,0,0,0,0,1,0,0,0]) (by kernel_rfl) (by kernel_rfl)
theorem y3y (a1 a4 a6 : Int) (a8 : List Int) : Le (
 bif (leB a4 a6) then
 nth a8 a4 fun _ =>
 nth a8 a1 fun _ =>
 nthN a8 (Int.toNat a4) fun y0 =>
 nthN a8 (Int.toNat a1) fun y1 =>
 Option.bind (z08 y0 y1) fun x2 =>
 bif (ltB x2 0) then
 z10 a1 (addI .i64 a4 1) a6 a8
 else
 z0n a1 a4 a6 false a8
 else
 z0n a1 a4 a6 false a8
 ) (z10 a1 a4 a6 a8) :=
 q00 (T := tn) (o := ⟨[.lf (.i .i64), .lf .b],[[.own .i64 false]]⟩) sigOk 100000 (b := q03 Tryz.f134 [1,1,1,1,1,1,1,1,1,0,0,0,0,0,0,0]) (by kernel_rfl) (by kernel_rfl)
theorem y41 (a1 a4 a6 : Int) (a8 : Bool) (a10 : List Int) : Le (
 bif (leB a4 a6) then
 nth a10 a6 fun _ =>
 nth a10 a1 fun _ =>
 nthN a10 (Int.toNat a6) fun y0 =>
 nthN a10 (Int.toNat a1) fun y1 =>
 Option.bind (z08 y0 y1) fun x2 =>
 bif (!(ltB x2 0)) then
 z11 a1 a4 (subI .i64 a6 1) a10
 else
 bif (ltB a6 a4) then
 nth a10 a1 fun _ =>
 nth a10 a6 fun _ =>
 nthN a10 (Int.toNat a1) fun y3 =>
 nthN a10 (Int.toNat a6) fun y4 =>
 nth a10 a6 fun _ =>
 nthN a10 (Int.toNat a6) fun _y5 =>
 nth (List.set a10 (Int.toNat a6) y3) a1 fun _ =>
 nthN (List.set a10 (Int.toNat a6) y3) (Int.toNat a1) fun _y6 =>
 some (a6, false, (List.set (List.set a10 (Int.toNat a6) y3) (Int.toNat a1) y4))
 else
 nth a10 a6 fun _ =>
 nth a10 a4 fun _ =>
 nthN a10 (Int.toNat a6) fun y7 =>
 nthN a10 (Int.toNat a4) fun y8 =>
 nth a10 a4 fun _ =>
 nthN a10 (Int.toNat a4) fun _y9 =>
 nth (List.set a10 (Int.toNat a4) y7) a6 fun _ =>
 nthN (List.set a10 (Int.toNat a4) y7) (Int.toNat a6) fun _y10 =>
 z06 a1 (addI .i64 a4 1) (subI .i64 a6 1) (List.set (List.set a10 (Int.toNat a4) y7) (Int.toNat a6) y8)
 else
 bif (ltB a6 a4) then
 nth a10 a1 fun _ =>
 nth a10 a6 fun _ =>
 nthN a10 (Int.toNat a1) fun y11 =>
 nthN a10 (Int.toNat a6) fun y12 =>
 nth a10 a6 fun _ =>
 nthN a10 (Int.toNat a6) fun _y13 =>
 nth (List.set a10 (Int.toNat a6) y11) a1 fun _ =>
 nthN (List.set a10 (Int.toNat a6) y11) (Int.toNat a1) fun _y14 =>
 some (a6, false, (List.set (List.set a10 (Int.toNat a6) y11) (Int.toNat a1) y12))
 else
 nth a10 a6 fun _ =>
 nth a10 a4 fun _ =>
 nthN a10 (Int.toNat a6) fun y15 =>
 nthN a10 (Int.toNat a4) fun y16 =>
 nth a10 a4 fun _ =>
 nthN a10 (Int.toNat a4) fun _y17 =>
 nth (List.set a10 (Int.toNat a4) y15) a6 fun _ =>
 nthN (List.set a10 (Int.toNat a4) y15) (Int.toNat a6) fun _y18 =>
 z06 a1 (addI .i64 a4 1) (subI .i64 a6 1) (List.set (List.set a10 (Int.toNat a4) y15) (Int.toNat a6) y16)
 ) (z0n a1 a4 a6 a8 a10) :=
 q00 (T := tn) (o := ⟨[.lf (.i .i64), .lf .b],[[.own .i64 false]]⟩) sigOk 100000 (b := q03 Tryz.f134 [1,1,1,1,1,1,1,1,1,0,0,0,0,1,0,0,0]) (by kernel_rfl) (by kernel_rfl)
theorem y5w (a1 a4 a6 : Int) (a8 : List Int) : Le (
 bif (leB a4 a6) then
 nth a8 a6 fun _ =>
 nth a8 a1 fun _ =>
 nthN a8 (Int.toNat a6) fun y0 =>
 nthN a8 (Int.toNat a1) fun y1 =>
 Option.bind (z08 y0 y1) fun x2 =>
 bif (!(ltB x2 0)) then
 z11 a1 a4 (subI .i64 a6 1) a8
 else
 bif (ltB a6 a4) then
 nth a8 a1 fun _ =>
 nth a8 a6 fun _ =>
 nthN a8 (Int.toNat a1) fun y3 =>
 nthN a8 (Int.toNat a6) fun y4 =>
 nth a8 a6 fun _ =>
 nthN a8 (Int.toNat a6) fun _y5 =>
 nth (List.set a8 (Int.toNat a6) y3) a1 fun _ =>
 nthN (List.set a8 (Int.toNat a6) y3) (Int.toNat a1) fun _y6 =>
 some (a6, false, (List.set (List.set a8 (Int.toNat a6) y3) (Int.toNat a1) y4))
 else
 nth a8 a6 fun _ =>
 nth a8 a4 fun _ =>
 nthN a8 (Int.toNat a6) fun y7 =>
 nthN a8 (Int.toNat a4) fun y8 =>
 nth a8 a4 fun _ =>
 nthN a8 (Int.toNat a4) fun _y9 =>
 nth (List.set a8 (Int.toNat a4) y7) a6 fun _ =>
 nthN (List.set a8 (Int.toNat a4) y7) (Int.toNat a6) fun _y10 =>
 z06 a1 (addI .i64 a4 1) (subI .i64 a6 1) (List.set (List.set a8 (Int.toNat a4) y7) (Int.toNat a6) y8)
 else
 bif (ltB a6 a4) then
 nth a8 a1 fun _ =>
 nth a8 a6 fun _ =>
 nthN a8 (Int.toNat a1) fun y11 =>
 nthN a8 (Int.toNat a6) fun y12 =>
 nth a8 a6 fun _ =>
 nthN a8 (Int.toNat a6) fun _y13 =>
 nth (List.set a8 (Int.toNat a6) y11) a1 fun _ =>
 nthN (List.set a8 (Int.toNat a6) y11) (Int.toNat a1) fun _y14 =>
 some (a6, false, (List.set (List.set a8 (Int.toNat a6) y11) (Int.toNat a1) y12))
 else
 nth a8 a6 fun _ =>
 nth a8 a4 fun _ =>
 nthN a8 (Int.toNat a6) fun y15 =>
 nthN a8 (Int.toNat a4) fun y16 =>
 nth a8 a4 fun _ =>
 nthN a8 (Int.toNat a4) fun _y17 =>
 nth (List.set a8 (Int.toNat a4) y15) a6 fun _ =>
 nthN (List.set a8 (Int.toNat a4) y15) (Int.toNat a6) fun _y18 =>
 z06 a1 (addI .i64 a4 1) (subI .i64 a6 1) (List.set (List.set a8 (Int.toNat a4) y15) (Int.toNat a6) y16)
 ) (z11 a1 a4 a6 a8) :=
 q00 (T := tn) (o := ⟨[.lf (.i .i64), .lf .b],[[.own .i64 false]]⟩) sigOk 100000 (b := q03 Tryz.f134 [1,1,1,1,1,1,1,1,1,0,0,0,0,1,0,0,0]) (by kernel_rfl) (by kernel_rfl)
end Go.Proofs.YtfjcndlhpfbcgaaGreat
