/- What the functions come to, printed by a program and checked by the kernel. -/
import Derived.Test.YtfailfoncbbgjaaP11Df
namespace Go.Proofs.Ytfailfoncbbgjaa
open Go Go.Ab
set_option maxRecDepth 100000
theorem slices_partitionEqualCmpFunc_int__l3_le (a1 : Int) (a4 : Int) (a6 : Int) (a8 : Bool) (a10 : List (Int)) : Le (
    bif (leB a4 a6) then
      nth a10 a1 fun _ =>
      nth a10 a6 fun _ =>
      nthN a10 (Int.toNat a1) fun y0 =>
      nthN a10 (Int.toNat a6) fun y1 =>
      Option.bind (nodeset_Compare y0 y1) fun x2 =>
      bif (ltB x2 0) then
        slices_partitionEqualCmpFunc_int__l4 a1 a4 (subI .i64 a6 1) a10
      else
        bif (ltB a6 a4) then
          some (a4, a10)
        else
          nth a10 a6 fun _ =>
          nth a10 a4 fun _ =>
          nthN a10 (Int.toNat a6) fun y3 =>
          nthN a10 (Int.toNat a4) fun y4 =>
          nth a10 a4 fun _ =>
          nthN a10 (Int.toNat a4) fun y5 =>
          nth (List.set a10 (Int.toNat a4) y3) a6 fun _ =>
          nthN (List.set a10 (Int.toNat a4) y3) (Int.toNat a6) fun y6 =>
          slices_partitionEqualCmpFunc_int__l1 a1 (addI .i64 a4 1) (subI .i64 a6 1) (List.set (List.set a10 (Int.toNat a4) y3) (Int.toNat a6) y4)
    else
      bif (ltB a6 a4) then
        some (a4, a10)
      else
        nth a10 a6 fun _ =>
        nth a10 a4 fun _ =>
        nthN a10 (Int.toNat a6) fun y7 =>
        nthN a10 (Int.toNat a4) fun y8 =>
        nth a10 a4 fun _ =>
        nthN a10 (Int.toNat a4) fun y9 =>
        nth (List.set a10 (Int.toNat a4) y7) a6 fun _ =>
        nthN (List.set a10 (Int.toNat a4) y7) (Int.toNat a6) fun y10 =>
        slices_partitionEqualCmpFunc_int__l1 a1 (addI .i64 a4 1) (subI .i64 a6 1) (List.set (List.set a10 (Int.toNat a4) y7) (Int.toNat a6) y8)
  ) (slices_partitionEqualCmpFunc_int__l3 a1 a4 a6 a8 a10) :=
  goC_loopAt (T := tn) (o := ⟨[.lf (.i .i64)], [[.own .i64 false]]⟩) sigOk 100000 (b := codeAt Try.f93 [1, 1, 1, 0, 0, 0, 0, 1, 0, 0, 0]) (by kernel_rfl) (by kernel_rfl)
theorem slices_partitionCmpFunc_int__l3_le (a1 : Int) (a4 : Int) (a6 : Int) (a8 : List (Int)) : Le (
    bif (leB a4 a6) then
      nth a8 a6 fun _ =>
      nth a8 a1 fun _ =>
      nthN a8 (Int.toNat a6) fun y0 =>
      nthN a8 (Int.toNat a1) fun y1 =>
      Option.bind (nodeset_Compare y0 y1) fun x2 =>
      bif (!(ltB x2 0)) then
        slices_partitionCmpFunc_int__l3 a1 a4 (subI .i64 a6 1) a8
      else
        bif (ltB a6 a4) then
          nth a8 a1 fun _ =>
          nth a8 a6 fun _ =>
          nthN a8 (Int.toNat a1) fun y3 =>
          nthN a8 (Int.toNat a6) fun y4 =>
          nth a8 a6 fun _ =>
          nthN a8 (Int.toNat a6) fun y5 =>
          nth (List.set a8 (Int.toNat a6) y3) a1 fun _ =>
          nthN (List.set a8 (Int.toNat a6) y3) (Int.toNat a1) fun y6 =>
          some (a6, true, (List.set (List.set a8 (Int.toNat a6) y3) (Int.toNat a1) y4))
        else
          nth a8 a6 fun _ =>
          nth a8 a4 fun _ =>
          nthN a8 (Int.toNat a6) fun y7 =>
          nthN a8 (Int.toNat a4) fun y8 =>
          nth a8 a4 fun _ =>
          nthN a8 (Int.toNat a4) fun y9 =>
          nth (List.set a8 (Int.toNat a4) y7) a6 fun _ =>
          nthN (List.set a8 (Int.toNat a4) y7) (Int.toNat a6) fun y10 =>
          slices_partitionCmpFunc_int__l4 a1 (addI .i64 a4 1) (subI .i64 a6 1) (List.set (List.set a8 (Int.toNat a4) y7) (Int.toNat a6) y8)
    else
      bif (ltB a6 a4) then
        nth a8 a1 fun _ =>
        nth a8 a6 fun _ =>
        nthN a8 (Int.toNat a1) fun y11 =>
        nthN a8 (Int.toNat a6) fun y12 =>
        nth a8 a6 fun _ =>
        nthN a8 (Int.toNat a6) fun y13 =>
        nth (List.set a8 (Int.toNat a6) y11) a1 fun _ =>
        nthN (List.set a8 (Int.toNat a6) y11) (Int.toNat a1) fun y14 =>
        some (a6, true, (List.set (List.set a8 (Int.toNat a6) y11) (Int.toNat a1) y12))
      else
        nth a8 a6 fun _ =>
        nth a8 a4 fun _ =>
        nthN a8 (Int.toNat a6) fun y15 =>
        nthN a8 (Int.toNat a4) fun y16 =>
        nth a8 a4 fun _ =>
        nthN a8 (Int.toNat a4) fun y17 =>
        nth (List.set a8 (Int.toNat a4) y15) a6 fun _ =>
        nthN (List.set a8 (Int.toNat a4) y15) (Int.toNat a6) fun y18 =>
        slices_partitionCmpFunc_int__l4 a1 (addI .i64 a4 1) (subI .i64 a6 1) (List.set (List.set a8 (Int.toNat a4) y15) (Int.toNat a6) y16)
  ) (slices_partitionCmpFunc_int__l3 a1 a4 a6 a8) :=
  goC_loopAt (T := tn) (o := ⟨[.lf (.i .i64), .lf .b], [[.own .i64 false]]⟩) sigOk 100000 (b := codeAt Try.f94 [1, 1, 1, 1, 0, 0, 0]) (by kernel_rfl) (by kernel_rfl)
theorem slices_partitionCmpFunc_int__l4_le (a1 : Int) (a4 : Int) (a6 : Int) (a8 : List (Int)) : Le (
    slices_partitionCmpFunc_int__l5 a1 a4 a6 a8
  ) (slices_partitionCmpFunc_int__l4 a1 a4 a6 a8) :=
  goC_loopAt (T := tn) (o := ⟨[.lf (.i .i64), .lf .b], [[.own .i64 false]]⟩) sigOk 100000 (b := codeAt Try.f94 [1, 1, 1, 1, 1, 1, 1, 1, 1, 0, 0, 0]) (by kernel_rfl) (by kernel_rfl)
theorem slices_partitionEqualCmpFunc_int__l4_le (a1 : Int) (a4 : Int) (a6 : Int) (a8 : List (Int)) : Le (
    bif (leB a4 a6) then
      nth a8 a1 fun _ =>
      nth a8 a6 fun _ =>
      nthN a8 (Int.toNat a1) fun y0 =>
      nthN a8 (Int.toNat a6) fun y1 =>
      Option.bind (nodeset_Compare y0 y1) fun x2 =>
      bif (ltB x2 0) then
        slices_partitionEqualCmpFunc_int__l4 a1 a4 (subI .i64 a6 1) a8
      else
        bif (ltB a6 a4) then
          some (a4, a8)
        else
          nth a8 a6 fun _ =>
          nth a8 a4 fun _ =>
          nthN a8 (Int.toNat a6) fun y3 =>
          nthN a8 (Int.toNat a4) fun y4 =>
          nth a8 a4 fun _ =>
          nthN a8 (Int.toNat a4) fun y5 =>
          nth (List.set a8 (Int.toNat a4) y3) a6 fun _ =>
          nthN (List.set a8 (Int.toNat a4) y3) (Int.toNat a6) fun y6 =>
          slices_partitionEqualCmpFunc_int__l1 a1 (addI .i64 a4 1) (subI .i64 a6 1) (List.set (List.set a8 (Int.toNat a4) y3) (Int.toNat a6) y4)
    else
      bif (ltB a6 a4) then
        some (a4, a8)
      else
        nth a8 a6 fun _ =>
        nth a8 a4 fun _ =>
        nthN a8 (Int.toNat a6) fun y7 =>
        nthN a8 (Int.toNat a4) fun y8 =>
        nth a8 a4 fun _ =>
        nthN a8 (Int.toNat a4) fun y9 =>
        nth (List.set a8 (Int.toNat a4) y7) a6 fun _ =>
        nthN (List.set a8 (Int.toNat a4) y7) (Int.toNat a6) fun y10 =>
        slices_partitionEqualCmpFunc_int__l1 a1 (addI .i64 a4 1) (subI .i64 a6 1) (List.set (List.set a8 (Int.toNat a4) y7) (Int.toNat a6) y8)
  ) (slices_partitionEqualCmpFunc_int__l4 a1 a4 a6 a8) :=
  goC_loopAt (T := tn) (o := ⟨[.lf (.i .i64)], [[.own .i64 false]]⟩) sigOk 100000 (b := codeAt Try.f93 [1, 1, 1, 0, 0, 0, 0, 1, 0, 0, 0]) (by kernel_rfl) (by kernel_rfl)
theorem slices_partitionCmpFunc_int__l5_le (a1 : Int) (a4 : Int) (a6 : Int) (a8 : List (Int)) : Le (
    bif (leB a4 a6) then
      nth a8 a4 fun _ =>
      nth a8 a1 fun _ =>
      nthN a8 (Int.toNat a4) fun y0 =>
      nthN a8 (Int.toNat a1) fun y1 =>
      Option.bind (nodeset_Compare y0 y1) fun x2 =>
      bif (ltB x2 0) then
        slices_partitionCmpFunc_int__l5 a1 (addI .i64 a4 1) a6 a8
      else
        slices_partitionCmpFunc_int__l6 a1 a4 a6 false a8
    else
      slices_partitionCmpFunc_int__l6 a1 a4 a6 false a8
  ) (slices_partitionCmpFunc_int__l5 a1 a4 a6 a8) :=
  goC_loopAt (T := tn) (o := ⟨[.lf (.i .i64), .lf .b], [[.own .i64 false]]⟩) sigOk 100000 (b := codeAt Try.f94 [1, 1, 1, 1, 1, 1, 1, 1, 1, 0, 0, 0, 0, 0, 0, 0]) (by kernel_rfl) (by kernel_rfl)
theorem slices_partitionCmpFunc_int__l6_le (a1 : Int) (a4 : Int) (a6 : Int) (a8 : Bool) (a10 : List (Int)) : Le (
    bif (leB a4 a6) then
      nth a10 a6 fun _ =>
      nth a10 a1 fun _ =>
      nthN a10 (Int.toNat a6) fun y0 =>
      nthN a10 (Int.toNat a1) fun y1 =>
      Option.bind (nodeset_Compare y0 y1) fun x2 =>
      bif (!(ltB x2 0)) then
        slices_partitionCmpFunc_int__l7 a1 a4 (subI .i64 a6 1) a10
      else
        bif (ltB a6 a4) then
          nth a10 a1 fun _ =>
          nth a10 a6 fun _ =>
          nthN a10 (Int.toNat a1) fun y3 =>
          nthN a10 (Int.toNat a6) fun y4 =>
          nth a10 a6 fun _ =>
          nthN a10 (Int.toNat a6) fun y5 =>
          nth (List.set a10 (Int.toNat a6) y3) a1 fun _ =>
          nthN (List.set a10 (Int.toNat a6) y3) (Int.toNat a1) fun y6 =>
          some (a6, false, (List.set (List.set a10 (Int.toNat a6) y3) (Int.toNat a1) y4))
        else
          nth a10 a6 fun _ =>
          nth a10 a4 fun _ =>
          nthN a10 (Int.toNat a6) fun y7 =>
          nthN a10 (Int.toNat a4) fun y8 =>
          nth a10 a4 fun _ =>
          nthN a10 (Int.toNat a4) fun y9 =>
          nth (List.set a10 (Int.toNat a4) y7) a6 fun _ =>
          nthN (List.set a10 (Int.toNat a4) y7) (Int.toNat a6) fun y10 =>
          slices_partitionCmpFunc_int__l4 a1 (addI .i64 a4 1) (subI .i64 a6 1) (List.set (List.set a10 (Int.toNat a4) y7) (Int.toNat a6) y8)
    else
      bif (ltB a6 a4) then
        nth a10 a1 fun _ =>
        nth a10 a6 fun _ =>
        nthN a10 (Int.toNat a1) fun y11 =>
        nthN a10 (Int.toNat a6) fun y12 =>
        nth a10 a6 fun _ =>
        nthN a10 (Int.toNat a6) fun y13 =>
        nth (List.set a10 (Int.toNat a6) y11) a1 fun _ =>
        nthN (List.set a10 (Int.toNat a6) y11) (Int.toNat a1) fun y14 =>
        some (a6, false, (List.set (List.set a10 (Int.toNat a6) y11) (Int.toNat a1) y12))
      else
        nth a10 a6 fun _ =>
        nth a10 a4 fun _ =>
        nthN a10 (Int.toNat a6) fun y15 =>
        nthN a10 (Int.toNat a4) fun y16 =>
        nth a10 a4 fun _ =>
        nthN a10 (Int.toNat a4) fun y17 =>
        nth (List.set a10 (Int.toNat a4) y15) a6 fun _ =>
        nthN (List.set a10 (Int.toNat a4) y15) (Int.toNat a6) fun y18 =>
        slices_partitionCmpFunc_int__l4 a1 (addI .i64 a4 1) (subI .i64 a6 1) (List.set (List.set a10 (Int.toNat a4) y15) (Int.toNat a6) y16)
  ) (slices_partitionCmpFunc_int__l6 a1 a4 a6 a8 a10) :=
  goC_loopAt (T := tn) (o := ⟨[.lf (.i .i64), .lf .b], [[.own .i64 false]]⟩) sigOk 100000 (b := codeAt Try.f94 [1, 1, 1, 1, 1, 1, 1, 1, 1, 0, 0, 0, 0, 1, 0, 0, 0]) (by kernel_rfl) (by kernel_rfl)
theorem slices_partitionCmpFunc_int__l7_le (a1 : Int) (a4 : Int) (a6 : Int) (a8 : List (Int)) : Le (
    bif (leB a4 a6) then
      nth a8 a6 fun _ =>
      nth a8 a1 fun _ =>
      nthN a8 (Int.toNat a6) fun y0 =>
      nthN a8 (Int.toNat a1) fun y1 =>
      Option.bind (nodeset_Compare y0 y1) fun x2 =>
      bif (!(ltB x2 0)) then
        slices_partitionCmpFunc_int__l7 a1 a4 (subI .i64 a6 1) a8
      else
        bif (ltB a6 a4) then
          nth a8 a1 fun _ =>
          nth a8 a6 fun _ =>
          nthN a8 (Int.toNat a1) fun y3 =>
          nthN a8 (Int.toNat a6) fun y4 =>
          nth a8 a6 fun _ =>
          nthN a8 (Int.toNat a6) fun y5 =>
          nth (List.set a8 (Int.toNat a6) y3) a1 fun _ =>
          nthN (List.set a8 (Int.toNat a6) y3) (Int.toNat a1) fun y6 =>
          some (a6, false, (List.set (List.set a8 (Int.toNat a6) y3) (Int.toNat a1) y4))
        else
          nth a8 a6 fun _ =>
          nth a8 a4 fun _ =>
          nthN a8 (Int.toNat a6) fun y7 =>
          nthN a8 (Int.toNat a4) fun y8 =>
          nth a8 a4 fun _ =>
          nthN a8 (Int.toNat a4) fun y9 =>
          nth (List.set a8 (Int.toNat a4) y7) a6 fun _ =>
          nthN (List.set a8 (Int.toNat a4) y7) (Int.toNat a6) fun y10 =>
          slices_partitionCmpFunc_int__l4 a1 (addI .i64 a4 1) (subI .i64 a6 1) (List.set (List.set a8 (Int.toNat a4) y7) (Int.toNat a6) y8)
    else
      bif (ltB a6 a4) then
        nth a8 a1 fun _ =>
        nth a8 a6 fun _ =>
        nthN a8 (Int.toNat a1) fun y11 =>
        nthN a8 (Int.toNat a6) fun y12 =>
        nth a8 a6 fun _ =>
        nthN a8 (Int.toNat a6) fun y13 =>
        nth (List.set a8 (Int.toNat a6) y11) a1 fun _ =>
        nthN (List.set a8 (Int.toNat a6) y11) (Int.toNat a1) fun y14 =>
        some (a6, false, (List.set (List.set a8 (Int.toNat a6) y11) (Int.toNat a1) y12))
      else
        nth a8 a6 fun _ =>
        nth a8 a4 fun _ =>
        nthN a8 (Int.toNat a6) fun y15 =>
        nthN a8 (Int.toNat a4) fun y16 =>
        nth a8 a4 fun _ =>
        nthN a8 (Int.toNat a4) fun y17 =>
        nth (List.set a8 (Int.toNat a4) y15) a6 fun _ =>
        nthN (List.set a8 (Int.toNat a4) y15) (Int.toNat a6) fun y18 =>
        slices_partitionCmpFunc_int__l4 a1 (addI .i64 a4 1) (subI .i64 a6 1) (List.set (List.set a8 (Int.toNat a4) y15) (Int.toNat a6) y16)
  ) (slices_partitionCmpFunc_int__l7 a1 a4 a6 a8) :=
  goC_loopAt (T := tn) (o := ⟨[.lf (.i .i64), .lf .b], [[.own .i64 false]]⟩) sigOk 100000 (b := codeAt Try.f94 [1, 1, 1, 1, 1, 1, 1, 1, 1, 0, 0, 0, 0, 1, 0, 0, 0]) (by kernel_rfl) (by kernel_rfl)
end Go.Proofs.Ytfailfoncbbgjaa
