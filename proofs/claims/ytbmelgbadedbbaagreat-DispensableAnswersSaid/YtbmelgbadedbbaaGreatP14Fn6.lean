/- What the functions come to, printed by a program and checked by the kernel. -/
import Derived.Test.YtbmelgbadedbbaaGreatP14Df
namespace Go.Proofs.YtbmelgbadedbbaaGreat
open Go Go.Ab
set_option maxRecDepth 100000
theorem qz0 (a1 a3 a6 a8 : Int) (a10 : List Int) : Le (
 bif (ltB a1 a8) then
 nth a10 a8 fun _ =>
 nth a10 (subI .i64 a8 1) fun _ =>
 nthN a10 (Int.toNat a8) fun y0 =>
 nthN a10 (Int.toNat (subI .i64 a8 1)) fun y1 =>
 Option.bind (z08 y0 y1) fun x2 =>
 bif (ltB x2 0) then
 nth a10 (subI .i64 a8 1) fun _ =>
 nth a10 a8 fun _ =>
 nthN a10 (Int.toNat (subI .i64 a8 1)) fun y3 =>
 nthN a10 (Int.toNat a8) fun y4 =>
 nth a10 a8 fun _ =>
 nthN a10 (Int.toNat a8) fun _y5 =>
 nth (List.set a10 (Int.toNat a8) y3) (subI .i64 a8 1) fun _ =>
 nthN (List.set a10 (Int.toNat a8) y3) (Int.toNat (subI .i64 a8 1)) fun _y6 =>
 z0g a1 a3 a6 (subI .i64 a8 1) (List.set (List.set a10 (Int.toNat a8) y3) (Int.toNat (subI .i64 a8 1)) y4)
 else
 z0d a1 a3 (addI .i64 a6 1) a10
 else
 z0d a1 a3 (addI .i64 a6 1) a10
 ) (z0g a1 a3 a6 a8 a10) :=
 gL o2' (q01 Tryz.f122 [1,0,0,1,0,0,1,0,0])
theorem qzk (a2 a4 a6 : Int) (a8 : List Int) : Le (
 bif (leB 0 a6) then
 nth a8 (addI .i64 a2 a6) fun _ =>
 nth a8 a2 fun _ =>
 nthN a8 (Int.toNat (addI .i64 a2 a6)) fun y0 =>
 nthN a8 (Int.toNat a2) fun y1 =>
 nth a8 a2 fun _ =>
 nthN a8 (Int.toNat a2) fun _y2 =>
 nth (List.set a8 (Int.toNat a2) y0) (addI .i64 a2 a6) fun _ =>
 nthN (List.set a8 (Int.toNat a2) y0) (Int.toNat (addI .i64 a2 a6)) fun _y3 =>
 Option.bind (z10 a4 a6 a2 (List.set (List.set a8 (Int.toNat a2) y0) (Int.toNat (addI .i64 a2 a6)) y1)) fun x4 =>
 z0p a2 a4 (subI .i64 a6 1) x4
 else
 some a8
 ) (z0p a2 a4 a6 a8) :=
 gL o2' (q01 Tryz.f123 [1,1,1,1,1,0,0])
theorem y4w (a1 a3 a6 : Int) (a8 : List Int) : Le (
 bif (leB a1 (addI .i64 (mulI .i64 2 a6) 1)) then
 some a8
 else
 bif (ltB (addI .i64 (addI .i64 (mulI .i64 2 a6) 1) 1) a1) then
 nth a8 (addI .i64 a3 (addI .i64 (mulI .i64 2 a6) 1)) fun _ =>
 nth a8 (addI .i64 (addI .i64 a3 (addI .i64 (mulI .i64 2 a6) 1)) 1) fun _ =>
 nthN a8 (Int.toNat (addI .i64 a3 (addI .i64 (mulI .i64 2 a6) 1))) fun y0 =>
 nthN a8 (Int.toNat (addI .i64 (addI .i64 a3 (addI .i64 (mulI .i64 2 a6) 1)) 1)) fun y1 =>
 Option.bind (z08 y0 y1) fun x2 =>
 bif (ltB x2 0) then
 nth a8 (addI .i64 a3 a6) fun _ =>
 nth a8 (addI .i64 a3 (addI .i64 (addI .i64 (mulI .i64 2 a6) 1) 1)) fun _ =>
 nthN a8 (Int.toNat (addI .i64 a3 a6)) fun y3 =>
 nthN a8 (Int.toNat (addI .i64 a3 (addI .i64 (addI .i64 (mulI .i64 2 a6) 1) 1))) fun y4 =>
 Option.bind (z08 y3 y4) fun x5 =>
 bif (!(ltB x5 0)) then
 some a8
 else
 nth a8 (addI .i64 a3 (addI .i64 (addI .i64 (mulI .i64 2 a6) 1) 1)) fun _ =>
 nth a8 (addI .i64 a3 a6) fun _ =>
 nthN a8 (Int.toNat (addI .i64 a3 (addI .i64 (addI .i64 (mulI .i64 2 a6) 1) 1))) fun y6 =>
 nthN a8 (Int.toNat (addI .i64 a3 a6)) fun y7 =>
 nth a8 (addI .i64 a3 a6) fun _ =>
 nthN a8 (Int.toNat (addI .i64 a3 a6)) fun _y8 =>
 nth (List.set a8 (Int.toNat (addI .i64 a3 a6)) y6) (addI .i64 a3 (addI .i64 (addI .i64 (mulI .i64 2 a6) 1) 1)) fun _ =>
 nthN (List.set a8 (Int.toNat (addI .i64 a3 a6)) y6) (Int.toNat (addI .i64 a3 (addI .i64 (addI .i64 (mulI .i64 2 a6) 1) 1))) fun _y9 =>
 z0c a1 a3 (addI .i64 (addI .i64 (mulI .i64 2 a6) 1) 1) (List.set (List.set a8 (Int.toNat (addI .i64 a3 a6)) y6) (Int.toNat (addI .i64 a3 (addI .i64 (addI .i64 (mulI .i64 2 a6) 1) 1))) y7)
 else
 nth a8 (addI .i64 a3 a6) fun _ =>
 nth a8 (addI .i64 a3 (addI .i64 (mulI .i64 2 a6) 1)) fun _ =>
 nthN a8 (Int.toNat (addI .i64 a3 a6)) fun y10 =>
 nthN a8 (Int.toNat (addI .i64 a3 (addI .i64 (mulI .i64 2 a6) 1))) fun y11 =>
 Option.bind (z08 y10 y11) fun x12 =>
 bif (!(ltB x12 0)) then
 some a8
 else
 nth a8 (addI .i64 a3 (addI .i64 (mulI .i64 2 a6) 1)) fun _ =>
 nth a8 (addI .i64 a3 a6) fun _ =>
 nthN a8 (Int.toNat (addI .i64 a3 (addI .i64 (mulI .i64 2 a6) 1))) fun y13 =>
 nthN a8 (Int.toNat (addI .i64 a3 a6)) fun y14 =>
 nth a8 (addI .i64 a3 a6) fun _ =>
 nthN a8 (Int.toNat (addI .i64 a3 a6)) fun _y15 =>
 nth (List.set a8 (Int.toNat (addI .i64 a3 a6)) y13) (addI .i64 a3 (addI .i64 (mulI .i64 2 a6) 1)) fun _ =>
 nthN (List.set a8 (Int.toNat (addI .i64 a3 a6)) y13) (Int.toNat (addI .i64 a3 (addI .i64 (mulI .i64 2 a6) 1))) fun _y16 =>
 z0c a1 a3 (addI .i64 (mulI .i64 2 a6) 1) (List.set (List.set a8 (Int.toNat (addI .i64 a3 a6)) y13) (Int.toNat (addI .i64 a3 (addI .i64 (mulI .i64 2 a6) 1))) y14)
 else
 nth a8 (addI .i64 a3 a6) fun _ =>
 nth a8 (addI .i64 a3 (addI .i64 (mulI .i64 2 a6) 1)) fun _ =>
 nthN a8 (Int.toNat (addI .i64 a3 a6)) fun y17 =>
 nthN a8 (Int.toNat (addI .i64 a3 (addI .i64 (mulI .i64 2 a6) 1))) fun y18 =>
 Option.bind (z08 y17 y18) fun x19 =>
 bif (!(ltB x19 0)) then
 some a8
 else
 nth a8 (addI .i64 a3 (addI .i64 (mulI .i64 2 a6) 1)) fun _ =>
 nth a8 (addI .i64 a3 a6) fun _ =>
 nthN a8 (Int.toNat (addI .i64 a3 (addI .i64 (mulI .i64 2 a6) 1))) fun y20 =>
 nthN a8 (Int.toNat (addI .i64 a3 a6)) fun y21 =>
 nth a8 (addI .i64 a3 a6) fun _ =>
 nthN a8 (Int.toNat (addI .i64 a3 a6)) fun _y22 =>
 nth (List.set a8 (Int.toNat (addI .i64 a3 a6)) y20) (addI .i64 a3 (addI .i64 (mulI .i64 2 a6) 1)) fun _ =>
 nthN (List.set a8 (Int.toNat (addI .i64 a3 a6)) y20) (Int.toNat (addI .i64 a3 (addI .i64 (mulI .i64 2 a6) 1))) fun _y23 =>
 z0c a1 a3 (addI .i64 (mulI .i64 2 a6) 1) (List.set (List.set a8 (Int.toNat (addI .i64 a3 a6)) y20) (Int.toNat (addI .i64 a3 (addI .i64 (mulI .i64 2 a6) 1))) y21)
 ) (z0c a1 a3 a6 a8) :=
 gL o2' (q01 Tryz.f142 [1,0,0])
theorem y7b (a1 a3 a6 a8 : Int) (a10 : Bool) (a12 : List Int) : Le (
 bif (ltB a6 a3) then
 nth a12 a6 fun _ =>
 nth a12 (subI .i64 a6 1) fun _ =>
 nthN a12 (Int.toNat a6) fun y0 =>
 nthN a12 (Int.toNat (subI .i64 a6 1)) fun y1 =>
 Option.bind (z08 y0 y1) fun x2 =>
 bif (!(ltB x2 0)) then
 z0h a1 a3 (addI .i64 a6 1) a8 a12
 else
 bif (eqB a6 a3) then
 some (true, a12)
 else
 bif (ltB (subI .i64 a3 a1) 50) then
 some (false, a12)
 else
 nth a12 (subI .i64 a6 1) fun _ =>
 nth a12 a6 fun _ =>
 nthN a12 (Int.toNat (subI .i64 a6 1)) fun y3 =>
 nthN a12 (Int.toNat a6) fun y4 =>
 nth a12 a6 fun _ =>
 nthN a12 (Int.toNat a6) fun _y5 =>
 nth (List.set a12 (Int.toNat a6) y3) (subI .i64 a6 1) fun _ =>
 nthN (List.set a12 (Int.toNat a6) y3) (Int.toNat (subI .i64 a6 1)) fun _y6 =>
 bif (leB 2 (subI .i64 a6 a1)) then
 z07 a1 a3 a6 a8 (subI .i64 a6 1) (List.set (List.set a12 (Int.toNat a6) y3) (Int.toNat (subI .i64 a6 1)) y4)
 else
 bif (leB 2 (subI .i64 a3 a6)) then
 z05 a1 a3 a6 a8 (addI .i64 a6 1) (List.set (List.set a12 (Int.toNat a6) y3) (Int.toNat (subI .i64 a6 1)) y4)
 else
 z03 a1 a3 a6 (addI .i64 a8 1) (List.set (List.set a12 (Int.toNat a6) y3) (Int.toNat (subI .i64 a6 1)) y4)
 else
 bif (eqB a6 a3) then
 some (true, a12)
 else
 bif (ltB (subI .i64 a3 a1) 50) then
 some (false, a12)
 else
 nth a12 (subI .i64 a6 1) fun _ =>
 nth a12 a6 fun _ =>
 nthN a12 (Int.toNat (subI .i64 a6 1)) fun y7 =>
 nthN a12 (Int.toNat a6) fun y8 =>
 nth a12 a6 fun _ =>
 nthN a12 (Int.toNat a6) fun _y9 =>
 nth (List.set a12 (Int.toNat a6) y7) (subI .i64 a6 1) fun _ =>
 nthN (List.set a12 (Int.toNat a6) y7) (Int.toNat (subI .i64 a6 1)) fun _y10 =>
 bif (leB 2 (subI .i64 a6 a1)) then
 z07 a1 a3 a6 a8 (subI .i64 a6 1) (List.set (List.set a12 (Int.toNat a6) y7) (Int.toNat (subI .i64 a6 1)) y8)
 else
 bif (leB 2 (subI .i64 a3 a6)) then
 z05 a1 a3 a6 a8 (addI .i64 a6 1) (List.set (List.set a12 (Int.toNat a6) y7) (Int.toNat (subI .i64 a6 1)) y8)
 else
 z03 a1 a3 a6 (addI .i64 a8 1) (List.set (List.set a12 (Int.toNat a6) y7) (Int.toNat (subI .i64 a6 1)) y8)
 ) (z0t a1 a3 a6 a8 a10 a12) :=
 gL o7' (q01 Tryz.f127 [1,1,0,1,0,0,1,0,0,0,0,0])
theorem y7z (a1 a4 a6 : Int) (a8 : List Int) : Le (
 bif (leB a4 a6) then
 nth a8 a1 fun _ =>
 nth a8 a4 fun _ =>
 nthN a8 (Int.toNat a1) fun y0 =>
 nthN a8 (Int.toNat a4) fun y1 =>
 Option.bind (z08 y0 y1) fun x2 =>
 bif (!(ltB x2 0)) then
 z0q a1 (addI .i64 a4 1) a6 a8
 else
 z0f a1 a4 a6 false a8
 else
 z0f a1 a4 a6 false a8
 ) (z0q a1 a4 a6 a8) :=
 gL o8' (q01 Tryz.f128 [1,1,1,0,0,0,0,0,0,0])
theorem y8a (a1 a4 a6 : Int) (a8 : Bool) (a10 : List Int) : Le (
 bif (leB a4 a6) then
 nth a10 a6 fun _ =>
 nth a10 a1 fun _ =>
 nthN a10 (Int.toNat a6) fun y0 =>
 nthN a10 (Int.toNat a1) fun y1 =>
 Option.bind (z08 y0 y1) fun x2 =>
 bif (!(ltB x2 0)) then
 z0x a1 a4 (subI .i64 a6 1) a10
 else
 bif (ltB a6 a4) then
 nth a10 a1 fun _ =>
 nth a10 a6 fun _ =>
 nthN a10 (Int.toNat a1) fun y3 =>
 nthN a10 (Int.toNat a6) fun y4 =>
 nth a10 a6 fun _ =>
 nthN a10 (Int.toNat a6) fun _y5 =>
 nth (List.set a10 (Int.toNat a6) y3) a1 fun _ =>
 nthN (List.set a10 (Int.toNat a6) y3) (Int.toNat a1) fun _y6 =>
 some (a6, true, (List.set (List.set a10 (Int.toNat a6) y3) (Int.toNat a1) y4))
 else
 nth a10 a6 fun _ =>
 nth a10 a4 fun _ =>
 nthN a10 (Int.toNat a6) fun y7 =>
 nthN a10 (Int.toNat a4) fun y8 =>
 nth a10 a4 fun _ =>
 nthN a10 (Int.toNat a4) fun _y9 =>
 nth (List.set a10 (Int.toNat a4) y7) a6 fun _ =>
 nthN (List.set a10 (Int.toNat a4) y7) (Int.toNat a6) fun _y10 =>
 z06 a1 (addI .i64 a4 1) (subI .i64 a6 1) (List.set (List.set a10 (Int.toNat a4) y7) (Int.toNat a6) y8)
 else
 bif (ltB a6 a4) then
 nth a10 a1 fun _ =>
 nth a10 a6 fun _ =>
 nthN a10 (Int.toNat a1) fun y11 =>
 nthN a10 (Int.toNat a6) fun y12 =>
 nth a10 a6 fun _ =>
 nthN a10 (Int.toNat a6) fun _y13 =>
 nth (List.set a10 (Int.toNat a6) y11) a1 fun _ =>
 nthN (List.set a10 (Int.toNat a6) y11) (Int.toNat a1) fun _y14 =>
 some (a6, true, (List.set (List.set a10 (Int.toNat a6) y11) (Int.toNat a1) y12))
 else
 nth a10 a6 fun _ =>
 nth a10 a4 fun _ =>
 nthN a10 (Int.toNat a6) fun y15 =>
 nthN a10 (Int.toNat a4) fun y16 =>
 nth a10 a4 fun _ =>
 nthN a10 (Int.toNat a4) fun _y17 =>
 nth (List.set a10 (Int.toNat a4) y15) a6 fun _ =>
 nthN (List.set a10 (Int.toNat a4) y15) (Int.toNat a6) fun _y18 =>
 z06 a1 (addI .i64 a4 1) (subI .i64 a6 1) (List.set (List.set a10 (Int.toNat a4) y15) (Int.toNat a6) y16)
 ) (z0l a1 a4 a6 a8 a10) :=
 gL o11' (q01 Tryz.f129 [1,1,1,1,0,0,0])
theorem y4v (a1 : Int) (a3 : List Int) (a5 : Bool) (a7 : List Int) (a9 a11 : Int) (a13 : Bool) (a15 : List Member) : Le (
 bif a5 then
 Option.bind (z5i a1) fun x0 =>
 z1w a1 a3 false x0 ((List.length x0 : Nat) : Int) 0 a15
 else
 some a3
 ) (z42 a1 a3 a5 a7 a9 a11 a13 a15) :=
 gL o3' (q01 Tryz.f118 [1,1,1,1,0,1,0,0])
theorem qpf (a0 : List Trust) (a3 : Int) (a5 : Bool) (a7 : List Trust) (a9 a11 a14 a16 a18 : Int) (a20 : List Int) (a22 : List Trust) : Le (
 bif (ltB a16 a14) then
 nth a0 a16 fun _ =>
 nthN a0 (Int.toNat a16) fun y0 =>
 Option.bind (z5e y0 (Trust.mk a18 a20 a22)) fun x1 =>
 bif a5 then
 bif (ltB x1 0) then
 z16 a0 (addI .i64 a16 1) true a7 a9 a11 a14 (addI .i64 a16 1) a18 a20 a22
 else
 z16 a0 a3 true a7 a9 a11 a14 (addI .i64 a16 1) a18 a20 a22
 else
 bif (ltB x1 0) then
 z16 a0 (addI .i64 a16 1) (eqB x1 0) a7 a9 a11 a14 (addI .i64 a16 1) a18 a20 a22
 else
 z16 a0 a3 (eqB x1 0) a7 a9 a11 a14 (addI .i64 a16 1) a18 a20 a22
 else
 bif a5 then
 z1x a0 a7 a9 (addI .i64 a11 1)
 else
 capOk (List.length a0 + List.length ([(Trust.mk 0 ([] : List (Int)) ([] : List (Trust)))] : List (Trust))) <|
 hiK (List.length (a0 ++ ([(Trust.mk 0 ([] : List (Int)) ([] : List (Trust)))] : List (Trust)))) (addI .i64 a3 1) fun b2 =>
 hiK (List.length (a0 ++ ([(Trust.mk 0 ([] : List (Int)) ([] : List (Trust)))] : List (Trust)))) a3 fun b3 =>
 chk ((List.length (a0 ++ ([(Trust.mk 0 ([] : List (Int)) ([] : List (Trust)))] : List (Trust)))) ≤ List.length (a0 ++ ([(Trust.mk 0 ([] : List (Int)) ([] : List (Trust)))] : List (Trust)))) <|
 chk ((List.length (a0 ++ ([(Trust.mk 0 ([] : List (Int)) ([] : List (Trust)))] : List (Trust)))) ≤ List.length (a0 ++ ([(Trust.mk 0 ([] : List (Int)) ([] : List (Trust)))] : List (Trust)))) <|
 nth (List.take b2 (a0 ++ ([(Trust.mk 0 ([] : List (Int)) ([] : List (Trust)))] : List (Trust))) ++ List.take ((List.length (a0 ++ ([(Trust.mk 0 ([] : List (Int)) ([] : List (Trust)))] : List (Trust)))) - b2) (List.drop b3 (List.take (List.length (a0 ++ ([(Trust.mk 0 ([] : List (Int)) ([] : List (Trust)))] : List (Trust)))) (a0 ++ ([(Trust.mk 0 ([] : List (Int)) ([] : List (Trust)))] : List (Trust))))) ++ List.drop (b2 + (min ((List.length (a0 ++ ([(Trust.mk 0 ([] : List (Int)) ([] : List (Trust)))] : List (Trust)))) - b2) (List.length (List.drop b3 (List.take (List.length (a0 ++ ([(Trust.mk 0 ([] : List (Int)) ([] : List (Trust)))] : List (Trust)))) (a0 ++ ([(Trust.mk 0 ([] : List (Int)) ([] : List (Trust)))] : List (Trust)))))))) (a0 ++ ([(Trust.mk 0 ([] : List (Int)) ([] : List (Trust)))] : List (Trust)))) a3 fun _ =>
 nthN (List.take b2 (a0 ++ ([(Trust.mk 0 ([] : List (Int)) ([] : List (Trust)))] : List (Trust))) ++ List.take ((List.length (a0 ++ ([(Trust.mk 0 ([] : List (Int)) ([] : List (Trust)))] : List (Trust)))) - b2) (List.drop b3 (List.take (List.length (a0 ++ ([(Trust.mk 0 ([] : List (Int)) ([] : List (Trust)))] : List (Trust)))) (a0 ++ ([(Trust.mk 0 ([] : List (Int)) ([] : List (Trust)))] : List (Trust))))) ++ List.drop (b2 + (min ((List.length (a0 ++ ([(Trust.mk 0 ([] : List (Int)) ([] : List (Trust)))] : List (Trust)))) - b2) (List.length (List.drop b3 (List.take (List.length (a0 ++ ([(Trust.mk 0 ([] : List (Int)) ([] : List (Trust)))] : List (Trust)))) (a0 ++ ([(Trust.mk 0 ([] : List (Int)) ([] : List (Trust)))] : List (Trust)))))))) (a0 ++ ([(Trust.mk 0 ([] : List (Int)) ([] : List (Trust)))] : List (Trust)))) (Int.toNat a3) fun _y4 =>
 z1x (List.set (List.take b2 (a0 ++ ([(Trust.mk 0 ([] : List (Int)) ([] : List (Trust)))] : List (Trust))) ++ List.take ((List.length (a0 ++ ([(Trust.mk 0 ([] : List (Int)) ([] : List (Trust)))] : List (Trust)))) - b2) (List.drop b3 (List.take (List.length (a0 ++ ([(Trust.mk 0 ([] : List (Int)) ([] : List (Trust)))] : List (Trust)))) (a0 ++ ([(Trust.mk 0 ([] : List (Int)) ([] : List (Trust)))] : List (Trust))))) ++ List.drop (b2 + (min ((List.length (a0 ++ ([(Trust.mk 0 ([] : List (Int)) ([] : List (Trust)))] : List (Trust)))) - b2) (List.length (List.drop b3 (List.take (List.length (a0 ++ ([(Trust.mk 0 ([] : List (Int)) ([] : List (Trust)))] : List (Trust)))) (a0 ++ ([(Trust.mk 0 ([] : List (Int)) ([] : List (Trust)))] : List (Trust)))))))) (a0 ++ ([(Trust.mk 0 ([] : List (Int)) ([] : List (Trust)))] : List (Trust)))) (Int.toNat a3) (Trust.mk a18 a20 a22)) a7 a9 (addI .i64 a11 1)
 ) (z16 a0 a3 a5 a7 a9 a11 a14 a16 a18 a20 a22) :=
 gL o12' (q01 Tryz.f98 [1,1,0,1,0,0,1,1,0,0,1,1,0,1,0,0])
theorem y87 (a_0 b_1 : Trust) : Le (
 Option.bind (z4m a_0.Threshold b_1.Threshold) fun x0 =>
 bif (neB x0 0) then
 some x0
 else
 z2d 0 a_0.Threshold a_0.Nodes a_0.Inner b_1.Threshold b_1.Nodes b_1.Inner
 ) (z5e a_0 b_1) :=
 cL o0' Tryz.func121
theorem y41 (a_0 b_1 : Int) : Le (
 bif (ltB a_0 b_1) then
 some (-1)
 else
 bif (ltB b_1 a_0) then
 some 1
 else
 some 0
 ) (z4m a_0 b_1) :=
 cL o0' Tryz.func141
theorem y7w (a1 a3 a6 a8 : Int) (a10 : List Int) : Le (
 bif (ltB a6 a3) then
 nth a10 a6 fun _ =>
 nth a10 (subI .i64 a6 1) fun _ =>
 nthN a10 (Int.toNat a6) fun y0 =>
 nthN a10 (Int.toNat (subI .i64 a6 1)) fun y1 =>
 Option.bind (z08 y0 y1) fun x2 =>
 bif (!(ltB x2 0)) then
 z0h a1 a3 (addI .i64 a6 1) a8 a10
 else
 bif (eqB a6 a3) then
 some (true, a10)
 else
 bif (ltB (subI .i64 a3 a1) 50) then
 some (false, a10)
 else
 nth a10 (subI .i64 a6 1) fun _ =>
 nth a10 a6 fun _ =>
 nthN a10 (Int.toNat (subI .i64 a6 1)) fun y3 =>
 nthN a10 (Int.toNat a6) fun y4 =>
 nth a10 a6 fun _ =>
 nthN a10 (Int.toNat a6) fun _y5 =>
 nth (List.set a10 (Int.toNat a6) y3) (subI .i64 a6 1) fun _ =>
 nthN (List.set a10 (Int.toNat a6) y3) (Int.toNat (subI .i64 a6 1)) fun _y6 =>
 bif (leB 2 (subI .i64 a6 a1)) then
 z07 a1 a3 a6 a8 (subI .i64 a6 1) (List.set (List.set a10 (Int.toNat a6) y3) (Int.toNat (subI .i64 a6 1)) y4)
 else
 bif (leB 2 (subI .i64 a3 a6)) then
 z05 a1 a3 a6 a8 (addI .i64 a6 1) (List.set (List.set a10 (Int.toNat a6) y3) (Int.toNat (subI .i64 a6 1)) y4)
 else
 z03 a1 a3 a6 (addI .i64 a8 1) (List.set (List.set a10 (Int.toNat a6) y3) (Int.toNat (subI .i64 a6 1)) y4)
 else
 bif (eqB a6 a3) then
 some (true, a10)
 else
 bif (ltB (subI .i64 a3 a1) 50) then
 some (false, a10)
 else
 nth a10 (subI .i64 a6 1) fun _ =>
 nth a10 a6 fun _ =>
 nthN a10 (Int.toNat (subI .i64 a6 1)) fun y7 =>
 nthN a10 (Int.toNat a6) fun y8 =>
 nth a10 a6 fun _ =>
 nthN a10 (Int.toNat a6) fun _y9 =>
 nth (List.set a10 (Int.toNat a6) y7) (subI .i64 a6 1) fun _ =>
 nthN (List.set a10 (Int.toNat a6) y7) (Int.toNat (subI .i64 a6 1)) fun _y10 =>
 bif (leB 2 (subI .i64 a6 a1)) then
 z07 a1 a3 a6 a8 (subI .i64 a6 1) (List.set (List.set a10 (Int.toNat a6) y7) (Int.toNat (subI .i64 a6 1)) y8)
 else
 bif (leB 2 (subI .i64 a3 a6)) then
 z05 a1 a3 a6 a8 (addI .i64 a6 1) (List.set (List.set a10 (Int.toNat a6) y7) (Int.toNat (subI .i64 a6 1)) y8)
 else
 z03 a1 a3 a6 (addI .i64 a8 1) (List.set (List.set a10 (Int.toNat a6) y7) (Int.toNat (subI .i64 a6 1)) y8)
 ) (z0h a1 a3 a6 a8 a10) :=
 gL o7' (q01 Tryz.f127 [1,1,0,1,0,0,1,0,0,0,0,0])
theorem y0g (a1 a3 a6 a8 a10 : Int) (a12 : List Int) : Le (
 bif (leB 1 a10) then
 nth a12 a10 fun _ =>
 nth a12 (subI .i64 a10 1) fun _ =>
 nthN a12 (Int.toNat a10) fun y0 =>
 nthN a12 (Int.toNat (subI .i64 a10 1)) fun y1 =>
 Option.bind (z08 y0 y1) fun x2 =>
 bif (!(ltB x2 0)) then
 bif (leB 2 (subI .i64 a3 a6)) then
 z05 a1 a3 a6 a8 (addI .i64 a6 1) a12
 else
 z03 a1 a3 a6 (addI .i64 a8 1) a12
 else
 nth a12 (subI .i64 a10 1) fun _ =>
 nth a12 a10 fun _ =>
 nthN a12 (Int.toNat (subI .i64 a10 1)) fun y3 =>
 nthN a12 (Int.toNat a10) fun y4 =>
 nth a12 a10 fun _ =>
 nthN a12 (Int.toNat a10) fun _y5 =>
 nth (List.set a12 (Int.toNat a10) y3) (subI .i64 a10 1) fun _ =>
 nthN (List.set a12 (Int.toNat a10) y3) (Int.toNat (subI .i64 a10 1)) fun _y6 =>
 z07 a1 a3 a6 a8 (subI .i64 a10 1) (List.set (List.set a12 (Int.toNat a10) y3) (Int.toNat (subI .i64 a10 1)) y4)
 else
 bif (leB 2 (subI .i64 a3 a6)) then
 z05 a1 a3 a6 a8 (addI .i64 a6 1) a12
 else
 z03 a1 a3 a6 (addI .i64 a8 1) a12
 ) (z07 a1 a3 a6 a8 a10 a12) :=
 gL o7' (q01 Tryz.f127 [1,1,0,1,0,0,1,0,0,1,1,1,1,0,1,0,1,0,0])
theorem y62 (a1 a3 a6 a8 a10 : Int) (a12 : List Int) : Le (
 bif (ltB a10 a3) then
 nth a12 a10 fun _ =>
 nth a12 (subI .i64 a10 1) fun _ =>
 nthN a12 (Int.toNat a10) fun y0 =>
 nthN a12 (Int.toNat (subI .i64 a10 1)) fun y1 =>
 Option.bind (z08 y0 y1) fun x2 =>
 bif (!(ltB x2 0)) then
 z03 a1 a3 a6 (addI .i64 a8 1) a12
 else
 nth a12 (subI .i64 a10 1) fun _ =>
 nth a12 a10 fun _ =>
 nthN a12 (Int.toNat (subI .i64 a10 1)) fun y3 =>
 nthN a12 (Int.toNat a10) fun y4 =>
 nth a12 a10 fun _ =>
 nthN a12 (Int.toNat a10) fun _y5 =>
 nth (List.set a12 (Int.toNat a10) y3) (subI .i64 a10 1) fun _ =>
 nthN (List.set a12 (Int.toNat a10) y3) (Int.toNat (subI .i64 a10 1)) fun _y6 =>
 z05 a1 a3 a6 a8 (addI .i64 a10 1) (List.set (List.set a12 (Int.toNat a10) y3) (Int.toNat (subI .i64 a10 1)) y4)
 else
 z03 a1 a3 a6 (addI .i64 a8 1) a12
 ) (z05 a1 a3 a6 a8 a10 a12) :=
 gL o7' (q01 Tryz.f127 [1,1,0,1,0,0,1,0,0,1,1,1,1,1,1,0,1,0,0])
theorem y5u (a1 a4 a6 : Int) (a8 : Bool) (a10 : List Int) : Le (
 bif (leB a4 a6) then
 nth a10 a1 fun _ =>
 nth a10 a6 fun _ =>
 nthN a10 (Int.toNat a1) fun y0 =>
 nthN a10 (Int.toNat a6) fun y1 =>
 Option.bind (z08 y0 y1) fun x2 =>
 bif (ltB x2 0) then
 z0r a1 a4 (subI .i64 a6 1) a10
 else
 bif (ltB a6 a4) then
 some (a4, a10)
 else
 nth a10 a6 fun _ =>
 nth a10 a4 fun _ =>
 nthN a10 (Int.toNat a6) fun y3 =>
 nthN a10 (Int.toNat a4) fun y4 =>
 nth a10 a4 fun _ =>
 nthN a10 (Int.toNat a4) fun _y5 =>
 nth (List.set a10 (Int.toNat a4) y3) a6 fun _ =>
 nthN (List.set a10 (Int.toNat a4) y3) (Int.toNat a6) fun _y6 =>
 z0a a1 (addI .i64 a4 1) (subI .i64 a6 1) (List.set (List.set a10 (Int.toNat a4) y3) (Int.toNat a6) y4)
 else
 bif (ltB a6 a4) then
 some (a4, a10)
 else
 nth a10 a6 fun _ =>
 nth a10 a4 fun _ =>
 nthN a10 (Int.toNat a6) fun y7 =>
 nthN a10 (Int.toNat a4) fun y8 =>
 nth a10 a4 fun _ =>
 nthN a10 (Int.toNat a4) fun _y9 =>
 nth (List.set a10 (Int.toNat a4) y7) a6 fun _ =>
 nthN (List.set a10 (Int.toNat a4) y7) (Int.toNat a6) fun _y10 =>
 z0a a1 (addI .i64 a4 1) (subI .i64 a6 1) (List.set (List.set a10 (Int.toNat a4) y7) (Int.toNat a6) y8)
 ) (z0f a1 a4 a6 a8 a10) :=
 gL o8' (q01 Tryz.f128 [1,1,1,0,0,0,0,1,0,0,0])
theorem y7k (a1 a4 a6 : Int) (a8 : List Int) : Le (
 bif (leB a4 a6) then
 nth a8 a6 fun _ =>
 nth a8 a1 fun _ =>
 nthN a8 (Int.toNat a6) fun y0 =>
 nthN a8 (Int.toNat a1) fun y1 =>
 Option.bind (z08 y0 y1) fun x2 =>
 bif (!(ltB x2 0)) then
 z0x a1 a4 (subI .i64 a6 1) a8
 else
 bif (ltB a6 a4) then
 nth a8 a1 fun _ =>
 nth a8 a6 fun _ =>
 nthN a8 (Int.toNat a1) fun y3 =>
 nthN a8 (Int.toNat a6) fun y4 =>
 nth a8 a6 fun _ =>
 nthN a8 (Int.toNat a6) fun _y5 =>
 nth (List.set a8 (Int.toNat a6) y3) a1 fun _ =>
 nthN (List.set a8 (Int.toNat a6) y3) (Int.toNat a1) fun _y6 =>
 some (a6, true, (List.set (List.set a8 (Int.toNat a6) y3) (Int.toNat a1) y4))
 else
 nth a8 a6 fun _ =>
 nth a8 a4 fun _ =>
 nthN a8 (Int.toNat a6) fun y7 =>
 nthN a8 (Int.toNat a4) fun y8 =>
 nth a8 a4 fun _ =>
 nthN a8 (Int.toNat a4) fun _y9 =>
 nth (List.set a8 (Int.toNat a4) y7) a6 fun _ =>
 nthN (List.set a8 (Int.toNat a4) y7) (Int.toNat a6) fun _y10 =>
 z06 a1 (addI .i64 a4 1) (subI .i64 a6 1) (List.set (List.set a8 (Int.toNat a4) y7) (Int.toNat a6) y8)
 else
 bif (ltB a6 a4) then
 nth a8 a1 fun _ =>
 nth a8 a6 fun _ =>
 nthN a8 (Int.toNat a1) fun y11 =>
 nthN a8 (Int.toNat a6) fun y12 =>
 nth a8 a6 fun _ =>
 nthN a8 (Int.toNat a6) fun _y13 =>
 nth (List.set a8 (Int.toNat a6) y11) a1 fun _ =>
 nthN (List.set a8 (Int.toNat a6) y11) (Int.toNat a1) fun _y14 =>
 some (a6, true, (List.set (List.set a8 (Int.toNat a6) y11) (Int.toNat a1) y12))
 else
 nth a8 a6 fun _ =>
 nth a8 a4 fun _ =>
 nthN a8 (Int.toNat a6) fun y15 =>
 nthN a8 (Int.toNat a4) fun y16 =>
 nth a8 a4 fun _ =>
 nthN a8 (Int.toNat a4) fun _y17 =>
 nth (List.set a8 (Int.toNat a4) y15) a6 fun _ =>
 nthN (List.set a8 (Int.toNat a4) y15) (Int.toNat a6) fun _y18 =>
 z06 a1 (addI .i64 a4 1) (subI .i64 a6 1) (List.set (List.set a8 (Int.toNat a4) y15) (Int.toNat a6) y16)
 ) (z0x a1 a4 a6 a8) :=
 gL o11' (q01 Tryz.f129 [1,1,1,1,0,0,0])
theorem y7l (a1 a4 a6 : Int) (a8 : List Int) : Le (
 z0y a1 a4 a6 a8
 ) (z06 a1 a4 a6 a8) :=
 gL o11' (q01 Tryz.f129 [1,1,1,1,1,1,1,1,1,0,0,0])
theorem qqr (a2 a4 : Int) (a6 : List Int) (a8 : List Trust) (a10 : Int) (a12 : List Int) (a14 : List Trust) : Le (
 bif (ltB a2 ((List.length a6 : Nat) : Int)) then
 bif (ltB a2 ((List.length a12 : Nat) : Int)) then
 nth a6 a2 fun y0 =>
 nth a12 a2 fun y1 =>
 Option.bind (z4m y0 y1) fun x2 =>
 bif (neB x2 0) then
 some x2
 else
 z2d (addI .i64 a2 1) a4 a6 a8 a10 a12 a14
 else
 Option.bind (z4m ((List.length a6 : Nat) : Int) ((List.length a12 : Nat) : Int)) fun x3 =>
 bif (neB x3 0) then
 some x3
 else
 z1p 0 a4 a6 a8 a10 a12 a14
 else
 Option.bind (z4m ((List.length a6 : Nat) : Int) ((List.length a12 : Nat) : Int)) fun x4 =>
 bif (neB x4 0) then
 some x4
 else
 z1p 0 a4 a6 a8 a10 a12 a14
 ) (z2d a2 a4 a6 a8 a10 a12 a14) :=
 gL o0' (q01 Tryz.f121 [1,1,0,1,0,0])
theorem y7p (a1 a4 a6 : Int) (a8 : List Int) : Le (
 bif (leB a4 a6) then
 nth a8 a1 fun _ =>
 nth a8 a6 fun _ =>
 nthN a8 (Int.toNat a1) fun y0 =>
 nthN a8 (Int.toNat a6) fun y1 =>
 Option.bind (z08 y0 y1) fun x2 =>
 bif (ltB x2 0) then
 z0r a1 a4 (subI .i64 a6 1) a8
 else
 bif (ltB a6 a4) then
 some (a4, a8)
 else
 nth a8 a6 fun _ =>
 nth a8 a4 fun _ =>
 nthN a8 (Int.toNat a6) fun y3 =>
 nthN a8 (Int.toNat a4) fun y4 =>
 nth a8 a4 fun _ =>
 nthN a8 (Int.toNat a4) fun _y5 =>
 nth (List.set a8 (Int.toNat a4) y3) a6 fun _ =>
 nthN (List.set a8 (Int.toNat a4) y3) (Int.toNat a6) fun _y6 =>
 z0a a1 (addI .i64 a4 1) (subI .i64 a6 1) (List.set (List.set a8 (Int.toNat a4) y3) (Int.toNat a6) y4)
 else
 bif (ltB a6 a4) then
 some (a4, a8)
 else
 nth a8 a6 fun _ =>
 nth a8 a4 fun _ =>
 nthN a8 (Int.toNat a6) fun y7 =>
 nthN a8 (Int.toNat a4) fun y8 =>
 nth a8 a4 fun _ =>
 nthN a8 (Int.toNat a4) fun _y9 =>
 nth (List.set a8 (Int.toNat a4) y7) a6 fun _ =>
 nthN (List.set a8 (Int.toNat a4) y7) (Int.toNat a6) fun _y10 =>
 z0a a1 (addI .i64 a4 1) (subI .i64 a6 1) (List.set (List.set a8 (Int.toNat a4) y7) (Int.toNat a6) y8)
 ) (z0r a1 a4 a6 a8) :=
 gL o8' (q01 Tryz.f128 [1,1,1,0,0,0,0,1,0,0,0])
theorem y4o (a1 a4 a6 : Int) (a8 : List Int) : Le (
 bif (leB a4 a6) then
 nth a8 a4 fun _ =>
 nth a8 a1 fun _ =>
 nthN a8 (Int.toNat a4) fun y0 =>
 nthN a8 (Int.toNat a1) fun y1 =>
 Option.bind (z08 y0 y1) fun x2 =>
 bif (ltB x2 0) then
 z0y a1 (addI .i64 a4 1) a6 a8
 else
 z0m a1 a4 a6 false a8
 else
 z0m a1 a4 a6 false a8
 ) (z0y a1 a4 a6 a8) :=
 gL o11' (q01 Tryz.f129 [1,1,1,1,1,1,1,1,1,0,0,0,0,0,0,0])
theorem qqm (a2 a4 : Int) (a6 : List Int) (a8 : List Trust) (a10 : Int) (a12 : List Int) (a14 : List Trust) : Le (
 bif (ltB a2 ((List.length a8 : Nat) : Int)) then
 bif (ltB a2 ((List.length a14 : Nat) : Int)) then
 nth a8 a2 fun y0 =>
 nth a14 a2 fun y1 =>
 Option.bind (z5e y0 y1) fun x2 =>
 bif (neB x2 0) then
 some x2
 else
 z1p (addI .i64 a2 1) a4 a6 a8 a10 a12 a14
 else
 Option.bind (z4m ((List.length a8 : Nat) : Int) ((List.length a14 : Nat) : Int)) fun x3 =>
 some x3
 else
 Option.bind (z4m ((List.length a8 : Nat) : Int) ((List.length a14 : Nat) : Int)) fun x4 =>
 some x4
 ) (z1p a2 a4 a6 a8 a10 a12 a14) :=
 gL o0' (q01 Tryz.f121 [1,1,1,1,0,1,0,0])
theorem y88 (a1 a4 a6 : Int) (a8 : Bool) (a10 : List Int) : Le (
 bif (leB a4 a6) then
 nth a10 a6 fun _ =>
 nth a10 a1 fun _ =>
 nthN a10 (Int.toNat a6) fun y0 =>
 nthN a10 (Int.toNat a1) fun y1 =>
 Option.bind (z08 y0 y1) fun x2 =>
 bif (!(ltB x2 0)) then
 z0z a1 a4 (subI .i64 a6 1) a10
 else
 bif (ltB a6 a4) then
 nth a10 a1 fun _ =>
 nth a10 a6 fun _ =>
 nthN a10 (Int.toNat a1) fun y3 =>
 nthN a10 (Int.toNat a6) fun y4 =>
 nth a10 a6 fun _ =>
 nthN a10 (Int.toNat a6) fun _y5 =>
 nth (List.set a10 (Int.toNat a6) y3) a1 fun _ =>
 nthN (List.set a10 (Int.toNat a6) y3) (Int.toNat a1) fun _y6 =>
 some (a6, false, (List.set (List.set a10 (Int.toNat a6) y3) (Int.toNat a1) y4))
 else
 nth a10 a6 fun _ =>
 nth a10 a4 fun _ =>
 nthN a10 (Int.toNat a6) fun y7 =>
 nthN a10 (Int.toNat a4) fun y8 =>
 nth a10 a4 fun _ =>
 nthN a10 (Int.toNat a4) fun _y9 =>
 nth (List.set a10 (Int.toNat a4) y7) a6 fun _ =>
 nthN (List.set a10 (Int.toNat a4) y7) (Int.toNat a6) fun _y10 =>
 z06 a1 (addI .i64 a4 1) (subI .i64 a6 1) (List.set (List.set a10 (Int.toNat a4) y7) (Int.toNat a6) y8)
 else
 bif (ltB a6 a4) then
 nth a10 a1 fun _ =>
 nth a10 a6 fun _ =>
 nthN a10 (Int.toNat a1) fun y11 =>
 nthN a10 (Int.toNat a6) fun y12 =>
 nth a10 a6 fun _ =>
 nthN a10 (Int.toNat a6) fun _y13 =>
 nth (List.set a10 (Int.toNat a6) y11) a1 fun _ =>
 nthN (List.set a10 (Int.toNat a6) y11) (Int.toNat a1) fun _y14 =>
 some (a6, false, (List.set (List.set a10 (Int.toNat a6) y11) (Int.toNat a1) y12))
 else
 nth a10 a6 fun _ =>
 nth a10 a4 fun _ =>
 nthN a10 (Int.toNat a6) fun y15 =>
 nthN a10 (Int.toNat a4) fun y16 =>
 nth a10 a4 fun _ =>
 nthN a10 (Int.toNat a4) fun _y17 =>
 nth (List.set a10 (Int.toNat a4) y15) a6 fun _ =>
 nthN (List.set a10 (Int.toNat a4) y15) (Int.toNat a6) fun _y18 =>
 z06 a1 (addI .i64 a4 1) (subI .i64 a6 1) (List.set (List.set a10 (Int.toNat a4) y15) (Int.toNat a6) y16)
 ) (z0m a1 a4 a6 a8 a10) :=
 gL o11' (q01 Tryz.f129 [1,1,1,1,1,1,1,1,1,0,0,0,0,1,0,0,0])
theorem y52 (a1 a4 a6 : Int) (a8 : List Int) : Le (
 bif (leB a4 a6) then
 nth a8 a6 fun _ =>
 nth a8 a1 fun _ =>
 nthN a8 (Int.toNat a6) fun y0 =>
 nthN a8 (Int.toNat a1) fun y1 =>
 Option.bind (z08 y0 y1) fun x2 =>
 bif (!(ltB x2 0)) then
 z0z a1 a4 (subI .i64 a6 1) a8
 else
 bif (ltB a6 a4) then
 nth a8 a1 fun _ =>
 nth a8 a6 fun _ =>
 nthN a8 (Int.toNat a1) fun y3 =>
 nthN a8 (Int.toNat a6) fun y4 =>
 nth a8 a6 fun _ =>
 nthN a8 (Int.toNat a6) fun _y5 =>
 nth (List.set a8 (Int.toNat a6) y3) a1 fun _ =>
 nthN (List.set a8 (Int.toNat a6) y3) (Int.toNat a1) fun _y6 =>
 some (a6, false, (List.set (List.set a8 (Int.toNat a6) y3) (Int.toNat a1) y4))
 else
 nth a8 a6 fun _ =>
 nth a8 a4 fun _ =>
 nthN a8 (Int.toNat a6) fun y7 =>
 nthN a8 (Int.toNat a4) fun y8 =>
 nth a8 a4 fun _ =>
 nthN a8 (Int.toNat a4) fun _y9 =>
 nth (List.set a8 (Int.toNat a4) y7) a6 fun _ =>
 nthN (List.set a8 (Int.toNat a4) y7) (Int.toNat a6) fun _y10 =>
 z06 a1 (addI .i64 a4 1) (subI .i64 a6 1) (List.set (List.set a8 (Int.toNat a4) y7) (Int.toNat a6) y8)
 else
 bif (ltB a6 a4) then
 nth a8 a1 fun _ =>
 nth a8 a6 fun _ =>
 nthN a8 (Int.toNat a1) fun y11 =>
 nthN a8 (Int.toNat a6) fun y12 =>
 nth a8 a6 fun _ =>
 nthN a8 (Int.toNat a6) fun _y13 =>
 nth (List.set a8 (Int.toNat a6) y11) a1 fun _ =>
 nthN (List.set a8 (Int.toNat a6) y11) (Int.toNat a1) fun _y14 =>
 some (a6, false, (List.set (List.set a8 (Int.toNat a6) y11) (Int.toNat a1) y12))
 else
 nth a8 a6 fun _ =>
 nth a8 a4 fun _ =>
 nthN a8 (Int.toNat a6) fun y15 =>
 nthN a8 (Int.toNat a4) fun y16 =>
 nth a8 a4 fun _ =>
 nthN a8 (Int.toNat a4) fun _y17 =>
 nth (List.set a8 (Int.toNat a4) y15) a6 fun _ =>
 nthN (List.set a8 (Int.toNat a4) y15) (Int.toNat a6) fun _y18 =>
 z06 a1 (addI .i64 a4 1) (subI .i64 a6 1) (List.set (List.set a8 (Int.toNat a4) y15) (Int.toNat a6) y16)
 ) (z0z a1 a4 a6 a8) :=
 gL o11' (q01 Tryz.f129 [1,1,1,1,1,1,1,1,1,0,0,0,0,1,0,0,0])
end Go.Proofs.YtbmelgbadedbbaaGreat
