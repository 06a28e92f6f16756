/- What the functions come to, printed by a program and checked by the kernel. -/
import Derived.Test.YtflmdbdigoeclaaGreatZ10Df
namespace Go.Proofs.YtflmdbdigoeclaaGreat
open Go Go.Ab
set_option maxRecDepth 100000
theorem ref02_Satisfied_l2_le (a0 : Int) (a3 : Int) (a5 : List (Trust)) (a7 : Int) (a9 : Int) (a11 : Int) (a13 : List (Int)) (a15 : List (Trust)) : Le (
    bif (ltB a9 a7) then
      nth a5 a9 fun y0 =>
      Option.bind (ref02_Satisfied y0 a0) fun x1 =>
      bif x1 then
        ref02_Satisfied_l2 a0 (addI .i64 a3 1) a5 a7 (addI .i64 a9 1) a11 a13 a15
      else
        ref02_Satisfied_l2 a0 a3 a5 a7 (addI .i64 a9 1) a11 a13 a15
    else
      some (leB a11 a3)
  ) (ref02_Satisfied_l2 a0 a3 a5 a7 a9 a11 a13 a15) :=
  goC_loopAt (T := tn) (o := ⟨[.lf .b], []⟩) sigOk 100000 (b := codeAt Tryz.f44 [1, 1, 1, 1, 0, 1, 0, 0]) (by kernel_rfl) (by kernel_rfl)
theorem ref01_Size_l1_le (a0 : Int) (a2 : Int) (a4 : Int) : Le (
    bif (ltB a4 10) then
      Option.bind (ref01_Valid a0) fun x0 =>
      bif x0 then
        chk (0 ≤ a4) <|
        ref01_Size_l1 a0 (addI .i64 a2 (andI .i64 (shrI .i64 a0 a4) 1)) (addI .i64 a4 1)
      else
        some a2
    else
      some a2
  ) (ref01_Size_l1 a0 a2 a4) :=
  goC_loopAt (T := tn) (o := ⟨[.lf (.i .i64)], []⟩) sigOk 100000 (b := codeAt Tryz.f79 [1, 1, 0, 1, 0, 0]) (by kernel_rfl) (by kernel_rfl)
theorem slices_partitionEqualCmpFunc_int__r__nodeset_Compare_l4_le (a1 : Int) (a4 : Int) (a6 : Int) (a8 : List (Int)) : Le (
    bif (leB a4 a6) then
      nth a8 a1 fun _ =>
      nth a8 a6 fun _ =>
      nthN a8 (Int.toNat a1) fun y0 =>
      nthN a8 (Int.toNat a6) fun y1 =>
      Option.bind (nodeset_Compare y0 y1) fun x2 =>
      bif (ltB x2 0) then
        slices_partitionEqualCmpFunc_int__r__nodeset_Compare_l4 a1 a4 (subI .i64 a6 1) a8
      else
        bif (ltB a6 a4) then
          some (a4, a8)
        else
          nth a8 a6 fun _ =>
          nth a8 a4 fun _ =>
          nthN a8 (Int.toNat a6) fun y3 =>
          nthN a8 (Int.toNat a4) fun y4 =>
          nth a8 a4 fun _ =>
          nthN a8 (Int.toNat a4) fun _y5 =>
          nth (List.set a8 (Int.toNat a4) y3) a6 fun _ =>
          nthN (List.set a8 (Int.toNat a4) y3) (Int.toNat a6) fun _y6 =>
          slices_partitionEqualCmpFunc_int__r__nodeset_Compare_l1 a1 (addI .i64 a4 1) (subI .i64 a6 1) (List.set (List.set a8 (Int.toNat a4) y3) (Int.toNat a6) y4)
    else
      bif (ltB a6 a4) then
        some (a4, a8)
      else
        nth a8 a6 fun _ =>
        nth a8 a4 fun _ =>
        nthN a8 (Int.toNat a6) fun y7 =>
        nthN a8 (Int.toNat a4) fun y8 =>
        nth a8 a4 fun _ =>
        nthN a8 (Int.toNat a4) fun _y9 =>
        nth (List.set a8 (Int.toNat a4) y7) a6 fun _ =>
        nthN (List.set a8 (Int.toNat a4) y7) (Int.toNat a6) fun _y10 =>
        slices_partitionEqualCmpFunc_int__r__nodeset_Compare_l1 a1 (addI .i64 a4 1) (subI .i64 a6 1) (List.set (List.set a8 (Int.toNat a4) y7) (Int.toNat a6) y8)
  ) (slices_partitionEqualCmpFunc_int__r__nodeset_Compare_l4 a1 a4 a6 a8) :=
  goC_loopAt (T := tn) (o := ⟨[.lf (.i .i64)], [[.own .i64 false]]⟩) sigOk 100000 (b := codeAt Tryz.f91 [1, 1, 1, 0, 0, 0, 0, 1, 0, 0, 0]) (by kernel_rfl) (by kernel_rfl)
theorem slices_partitionCmpFunc_int__r__nodeset_Compare_l5_le (a1 : Int) (a4 : Int) (a6 : Int) (a8 : List (Int)) : Le (
    bif (leB a4 a6) then
      nth a8 a4 fun _ =>
      nth a8 a1 fun _ =>
      nthN a8 (Int.toNat a4) fun y0 =>
      nthN a8 (Int.toNat a1) fun y1 =>
      Option.bind (nodeset_Compare y0 y1) fun x2 =>
      bif (ltB x2 0) then
        slices_partitionCmpFunc_int__r__nodeset_Compare_l5 a1 (addI .i64 a4 1) a6 a8
      else
        slices_partitionCmpFunc_int__r__nodeset_Compare_l6 a1 a4 a6 false a8
    else
      slices_partitionCmpFunc_int__r__nodeset_Compare_l6 a1 a4 a6 false a8
  ) (slices_partitionCmpFunc_int__r__nodeset_Compare_l5 a1 a4 a6 a8) :=
  goC_loopAt (T := tn) (o := ⟨[.lf (.i .i64), .lf .b], [[.own .i64 false]]⟩) sigOk 100000 (b := codeAt Tryz.f92 [1, 1, 1, 1, 1, 1, 1, 1, 1, 0, 0, 0, 0, 0, 0, 0]) (by kernel_rfl) (by kernel_rfl)
theorem slices_partitionCmpFunc_int__r__nodeset_Compare_l6_le (a1 : Int) (a4 : Int) (a6 : Int) (a8 : Bool) (a10 : List (Int)) : Le (
    bif (leB a4 a6) then
      nth a10 a6 fun _ =>
      nth a10 a1 fun _ =>
      nthN a10 (Int.toNat a6) fun y0 =>
      nthN a10 (Int.toNat a1) fun y1 =>
      Option.bind (nodeset_Compare y0 y1) fun x2 =>
      bif (!(ltB x2 0)) then
        slices_partitionCmpFunc_int__r__nodeset_Compare_l7 a1 a4 (subI .i64 a6 1) a10
      else
        bif (ltB a6 a4) then
          nth a10 a1 fun _ =>
          nth a10 a6 fun _ =>
          nthN a10 (Int.toNat a1) fun y3 =>
          nthN a10 (Int.toNat a6) fun y4 =>
          nth a10 a6 fun _ =>
          nthN a10 (Int.toNat a6) fun _y5 =>
          nth (List.set a10 (Int.toNat a6) y3) a1 fun _ =>
          nthN (List.set a10 (Int.toNat a6) y3) (Int.toNat a1) fun _y6 =>
          some (a6, false, (List.set (List.set a10 (Int.toNat a6) y3) (Int.toNat a1) y4))
        else
          nth a10 a6 fun _ =>
          nth a10 a4 fun _ =>
          nthN a10 (Int.toNat a6) fun y7 =>
          nthN a10 (Int.toNat a4) fun y8 =>
          nth a10 a4 fun _ =>
          nthN a10 (Int.toNat a4) fun _y9 =>
          nth (List.set a10 (Int.toNat a4) y7) a6 fun _ =>
          nthN (List.set a10 (Int.toNat a4) y7) (Int.toNat a6) fun _y10 =>
          slices_partitionCmpFunc_int__r__nodeset_Compare_l4 a1 (addI .i64 a4 1) (subI .i64 a6 1) (List.set (List.set a10 (Int.toNat a4) y7) (Int.toNat a6) y8)
    else
      bif (ltB a6 a4) then
        nth a10 a1 fun _ =>
        nth a10 a6 fun _ =>
        nthN a10 (Int.toNat a1) fun y11 =>
        nthN a10 (Int.toNat a6) fun y12 =>
        nth a10 a6 fun _ =>
        nthN a10 (Int.toNat a6) fun _y13 =>
        nth (List.set a10 (Int.toNat a6) y11) a1 fun _ =>
        nthN (List.set a10 (Int.toNat a6) y11) (Int.toNat a1) fun _y14 =>
        some (a6, false, (List.set (List.set a10 (Int.toNat a6) y11) (Int.toNat a1) y12))
      else
        nth a10 a6 fun _ =>
        nth a10 a4 fun _ =>
        nthN a10 (Int.toNat a6) fun y15 =>
        nthN a10 (Int.toNat a4) fun y16 =>
        nth a10 a4 fun _ =>
        nthN a10 (Int.toNat a4) fun _y17 =>
        nth (List.set a10 (Int.toNat a4) y15) a6 fun _ =>
        nthN (List.set a10 (Int.toNat a4) y15) (Int.toNat a6) fun _y18 =>
        slices_partitionCmpFunc_int__r__nodeset_Compare_l4 a1 (addI .i64 a4 1) (subI .i64 a6 1) (List.set (List.set a10 (Int.toNat a4) y15) (Int.toNat a6) y16)
  ) (slices_partitionCmpFunc_int__r__nodeset_Compare_l6 a1 a4 a6 a8 a10) :=
  goC_loopAt (T := tn) (o := ⟨[.lf (.i .i64), .lf .b], [[.own .i64 false]]⟩) sigOk 100000 (b := codeAt Tryz.f92 [1, 1, 1, 1, 1, 1, 1, 1, 1, 0, 0, 0, 0, 1, 0, 0, 0]) (by kernel_rfl) (by kernel_rfl)
theorem slices_partitionCmpFunc_int__r__nodeset_Compare_l7_le (a1 : Int) (a4 : Int) (a6 : Int) (a8 : List (Int)) : Le (
    bif (leB a4 a6) then
      nth a8 a6 fun _ =>
      nth a8 a1 fun _ =>
      nthN a8 (Int.toNat a6) fun y0 =>
      nthN a8 (Int.toNat a1) fun y1 =>
      Option.bind (nodeset_Compare y0 y1) fun x2 =>
      bif (!(ltB x2 0)) then
        slices_partitionCmpFunc_int__r__nodeset_Compare_l7 a1 a4 (subI .i64 a6 1) a8
      else
        bif (ltB a6 a4) then
          nth a8 a1 fun _ =>
          nth a8 a6 fun _ =>
          nthN a8 (Int.toNat a1) fun y3 =>
          nthN a8 (Int.toNat a6) fun y4 =>
          nth a8 a6 fun _ =>
          nthN a8 (Int.toNat a6) fun _y5 =>
          nth (List.set a8 (Int.toNat a6) y3) a1 fun _ =>
          nthN (List.set a8 (Int.toNat a6) y3) (Int.toNat a1) fun _y6 =>
          some (a6, false, (List.set (List.set a8 (Int.toNat a6) y3) (Int.toNat a1) y4))
        else
          nth a8 a6 fun _ =>
          nth a8 a4 fun _ =>
          nthN a8 (Int.toNat a6) fun y7 =>
          nthN a8 (Int.toNat a4) fun y8 =>
          nth a8 a4 fun _ =>
          nthN a8 (Int.toNat a4) fun _y9 =>
          nth (List.set a8 (Int.toNat a4) y7) a6 fun _ =>
          nthN (List.set a8 (Int.toNat a4) y7) (Int.toNat a6) fun _y10 =>
          slices_partitionCmpFunc_int__r__nodeset_Compare_l4 a1 (addI .i64 a4 1) (subI .i64 a6 1) (List.set (List.set a8 (Int.toNat a4) y7) (Int.toNat a6) y8)
    else
      bif (ltB a6 a4) then
        nth a8 a1 fun _ =>
        nth a8 a6 fun _ =>
        nthN a8 (Int.toNat a1) fun y11 =>
        nthN a8 (Int.toNat a6) fun y12 =>
        nth a8 a6 fun _ =>
        nthN a8 (Int.toNat a6) fun _y13 =>
        nth (List.set a8 (Int.toNat a6) y11) a1 fun _ =>
        nthN (List.set a8 (Int.toNat a6) y11) (Int.toNat a1) fun _y14 =>
        some (a6, false, (List.set (List.set a8 (Int.toNat a6) y11) (Int.toNat a1) y12))
      else
        nth a8 a6 fun _ =>
        nth a8 a4 fun _ =>
        nthN a8 (Int.toNat a6) fun y15 =>
        nthN a8 (Int.toNat a4) fun y16 =>
        nth a8 a4 fun _ =>
        nthN a8 (Int.toNat a4) fun _y17 =>
        nth (List.set a8 (Int.toNat a4) y15) a6 fun _ =>
        nthN (List.set a8 (Int.toNat a4) y15) (Int.toNat a6) fun _y18 =>
        slices_partitionCmpFunc_int__r__nodeset_Compare_l4 a1 (addI .i64 a4 1) (subI .i64 a6 1) (List.set (List.set a8 (Int.toNat a4) y15) (Int.toNat a6) y16)
  ) (slices_partitionCmpFunc_int__r__nodeset_Compare_l7 a1 a4 a6 a8) :=
  goC_loopAt (T := tn) (o := ⟨[.lf (.i .i64), .lf .b], [[.own .i64 false]]⟩) sigOk 100000 (b := codeAt Tryz.f92 [1, 1, 1, 1, 1, 1, 1, 1, 1, 0, 0, 0, 0, 1, 0, 0, 0]) (by kernel_rfl) (by kernel_rfl)
end Go.Proofs.YtflmdbdigoeclaaGreat
