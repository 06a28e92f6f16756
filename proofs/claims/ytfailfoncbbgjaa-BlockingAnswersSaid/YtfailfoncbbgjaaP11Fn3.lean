/- What the functions come to, printed by a program and checked by the kernel. -/
import Derived.Test.YtfailfoncbbgjaaP11Df
namespace Go.Proofs.Ytfailfoncbbgjaa
open Go Go.Ab
set_option maxRecDepth 100000
theorem slices_choosePivotCmpFunc_int__r__nodeset_Compare_le (a_1 : Int) (b_2 : Int) (h0 : List (Int)) : Le (
    bif (leB 8 (subI .i64 b_2 a_1)) then
      bif (leB 50 (subI .i64 b_2 a_1)) then
        Option.bind (slices_medianAdjacentCmpFunc_int__r__nodeset_Compare (addI .i64 a_1 (mulI .i64 (quoI .i64 (subI .i64 b_2 a_1) 4) 1)) h0 0) fun x0 =>
        Option.bind (slices_medianAdjacentCmpFunc_int__r__nodeset_Compare (addI .i64 a_1 (mulI .i64 (quoI .i64 (subI .i64 b_2 a_1) 4) 2)) x0.2.1 x0.2.2) fun x1 =>
        Option.bind (slices_medianAdjacentCmpFunc_int__r__nodeset_Compare (addI .i64 a_1 (mulI .i64 (quoI .i64 (subI .i64 b_2 a_1) 4) 3)) x1.2.1 x1.2.2) fun x2 =>
        Option.bind (slices_medianCmpFunc_int__r__nodeset_Compare x0.1 x1.1 x2.1 x2.2.1 x2.2.2) fun x3 =>
        bif (eqB x3.2.2 0) then
          some (x3.1, 1, x3.2.1)
        else
          bif (eqB x3.2.2 12) then
            some (x3.1, 2, x3.2.1)
          else
            some (x3.1, 0, x3.2.1)
      else
        Option.bind (slices_medianCmpFunc_int__r__nodeset_Compare (addI .i64 a_1 (mulI .i64 (quoI .i64 (subI .i64 b_2 a_1) 4) 1)) (addI .i64 a_1 (mulI .i64 (quoI .i64 (subI .i64 b_2 a_1) 4) 2)) (addI .i64 a_1 (mulI .i64 (quoI .i64 (subI .i64 b_2 a_1) 4) 3)) h0 0) fun x4 =>
        bif (eqB x4.2.2 0) then
          some (x4.1, 1, x4.2.1)
        else
          bif (eqB x4.2.2 12) then
            some (x4.1, 2, x4.2.1)
          else
            some (x4.1, 0, x4.2.1)
    else
      some ((addI .i64 a_1 (mulI .i64 (quoI .i64 (subI .i64 b_2 a_1) 4) 2)), 1, h0)
  ) (slices_choosePivotCmpFunc_int__r__nodeset_Compare a_1 b_2 h0) :=
  callC_le (T := tn) (c := bodyOf Try.f90) (o := ⟨[.lf (.i .i64), .lf (.i .i64)], [[.own .i64 false]]⟩) sigOk 100000 (by kernel_rfl) Try.func90 (by kernel_rfl) (by kernel_rfl) (by kernel_rfl)
theorem slices_reverseRangeCmpFunc_int__r__nodeset_Compare_le (a_1 : Int) (b_2 : Int) (h0 : List (Int)) : Le (
    slices_reverseRangeCmpFunc_int__r__nodeset_Compare_l1 a_1 (subI .i64 b_2 1) h0
  ) (slices_reverseRangeCmpFunc_int__r__nodeset_Compare a_1 b_2 h0) :=
  callC_le (T := tn) (c := bodyOf Try.f91) (o := ⟨[], [[.own .i64 false]]⟩) sigOk 100000 (by kernel_rfl) Try.func91 (by kernel_rfl) (by kernel_rfl) (by kernel_rfl)
theorem slices_partialInsertionSortCmpFunc_int__r__nodeset_Compare_le (a_1 : Int) (b_2 : Int) (h0 : List (Int)) : Le (
    slices_partialInsertionSortCmpFunc_int__r__nodeset_Compare_l1 a_1 b_2 (addI .i64 a_1 1) 0 h0
  ) (slices_partialInsertionSortCmpFunc_int__r__nodeset_Compare a_1 b_2 h0) :=
  callC_le (T := tn) (c := bodyOf Try.f92) (o := ⟨[.lf .b], [[.own .i64 false]]⟩) sigOk 100000 (by kernel_rfl) Try.func92 (by kernel_rfl) (by kernel_rfl) (by kernel_rfl)
theorem nodeset_Compare_le (a_0 : Int) (b_1 : Int) : Le (
    Option.bind (nodeset_rank a_0) fun x0 =>
    Option.bind (nodeset_rank b_1) fun x1 =>
    Option.bind (cmp_Compare_int_ x0 x1) fun x2 =>
    Option.bind (cmp_Compare_int_ a_0 b_1) fun x3 =>
    Option.bind (cmp_Or_int_ ([x2, x3] : List (Int))) fun x4 =>
    some x4
  ) (nodeset_Compare a_0 b_1) :=
  callC_le (T := tn) (c := bodyOf Try.f63) (o := ⟨[.lf (.i .i64)], []⟩) sigOk 100000 (by kernel_rfl) Try.func63 (by kernel_rfl) (by kernel_rfl) (by kernel_rfl)
theorem slices_partitionEqualCmpFunc_int__r__nodeset_Compare_le (a_1 : Int) (b_2 : Int) (pivot_3 : Int) (h0 : List (Int)) : Le (
    nth h0 pivot_3 fun _ =>
    nth h0 a_1 fun _ =>
    nthN h0 (Int.toNat pivot_3) fun y0 =>
    nthN h0 (Int.toNat a_1) fun y1 =>
    nth h0 a_1 fun _ =>
    nthN h0 (Int.toNat a_1) fun _y2 =>
    nth (List.set h0 (Int.toNat a_1) y0) pivot_3 fun _ =>
    nthN (List.set h0 (Int.toNat a_1) y0) (Int.toNat pivot_3) fun _y3 =>
    slices_partitionEqualCmpFunc_int__r__nodeset_Compare_l1 a_1 (addI .i64 a_1 1) (subI .i64 b_2 1) (List.set (List.set h0 (Int.toNat a_1) y0) (Int.toNat pivot_3) y1)
  ) (slices_partitionEqualCmpFunc_int__r__nodeset_Compare a_1 b_2 pivot_3 h0) :=
  callC_le (T := tn) (c := bodyOf Try.f93) (o := ⟨[.lf (.i .i64)], [[.own .i64 false]]⟩) sigOk 100000 (by kernel_rfl) Try.func93 (by kernel_rfl) (by kernel_rfl) (by kernel_rfl)
theorem slices_partitionCmpFunc_int__r__nodeset_Compare_le (a_1 : Int) (b_2 : Int) (pivot_3 : Int) (h0 : List (Int)) : Le (
    nth h0 pivot_3 fun _ =>
    nth h0 a_1 fun _ =>
    nthN h0 (Int.toNat pivot_3) fun y0 =>
    nthN h0 (Int.toNat a_1) fun y1 =>
    nth h0 a_1 fun _ =>
    nthN h0 (Int.toNat a_1) fun _y2 =>
    nth (List.set h0 (Int.toNat a_1) y0) pivot_3 fun _ =>
    nthN (List.set h0 (Int.toNat a_1) y0) (Int.toNat pivot_3) fun _y3 =>
    slices_partitionCmpFunc_int__r__nodeset_Compare_l1 a_1 (addI .i64 a_1 1) (subI .i64 b_2 1) (List.set (List.set h0 (Int.toNat a_1) y0) (Int.toNat pivot_3) y1)
  ) (slices_partitionCmpFunc_int__r__nodeset_Compare a_1 b_2 pivot_3 h0) :=
  callC_le (T := tn) (c := bodyOf Try.f94) (o := ⟨[.lf (.i .i64), .lf .b], [[.own .i64 false]]⟩) sigOk 100000 (by kernel_rfl) Try.func94 (by kernel_rfl) (by kernel_rfl) (by kernel_rfl)
theorem slices_nextPowerOfTwo_le (length_0 : Int) : Le (
    Option.bind (bits_Len (IntKind.wrap .u64 length_0)) fun x0 =>
    chk (0 ≤ x0) <|
    some (shlI .u64 1 x0)
  ) (slices_nextPowerOfTwo length_0) :=
  callC_le (T := tn) (c := bodyOf Try.f102) (o := ⟨[.lf (.i .u64)], []⟩) sigOk 100000 (by kernel_rfl) Try.func102 (by kernel_rfl) (by kernel_rfl) (by kernel_rfl)
theorem slices_medianAdjacentCmpFunc_int__r__nodeset_Compare_le (a_1 : Int) (h0 : List (Int)) (h1 : Int) : Le (
    Option.bind (slices_medianCmpFunc_int__r__nodeset_Compare (subI .i64 a_1 1) a_1 (addI .i64 a_1 1) h0 h1) fun x0 =>
    some (x0.1, x0.2.1, x0.2.2)
  ) (slices_medianAdjacentCmpFunc_int__r__nodeset_Compare a_1 h0 h1) :=
  callC_le (T := tn) (c := bodyOf Try.f104) (o := ⟨[.lf (.i .i64)], [[.own .i64 false], [.lf (.i .i64)]]⟩) sigOk 100000 (by kernel_rfl) Try.func104 (by kernel_rfl) (by kernel_rfl) (by kernel_rfl)
theorem slices_medianCmpFunc_int__r__nodeset_Compare_le (a_1 : Int) (b_2 : Int) (c_3 : Int) (h0 : List (Int)) (h1 : Int) : Le (
    Option.bind (slices_order2CmpFunc_int__r__nodeset_Compare a_1 b_2 h0 h1) fun x0 =>
    Option.bind (slices_order2CmpFunc_int__r__nodeset_Compare x0.2.1 c_3 x0.2.2.1 x0.2.2.2) fun x1 =>
    Option.bind (slices_order2CmpFunc_int__r__nodeset_Compare x0.1 x1.1 x1.2.2.1 x1.2.2.2) fun x2 =>
    some (x2.2.1, x2.2.2.1, x2.2.2.2)
  ) (slices_medianCmpFunc_int__r__nodeset_Compare a_1 b_2 c_3 h0 h1) :=
  callC_le (T := tn) (c := bodyOf Try.f105) (o := ⟨[.lf (.i .i64)], [[.own .i64 false], [.lf (.i .i64)]]⟩) sigOk 100000 (by kernel_rfl) Try.func105 (by kernel_rfl) (by kernel_rfl) (by kernel_rfl)
theorem nodeset_rank_le (s_0 : Int) : Le (
    Option.bind (nodeset_Valid s_0) fun x0 =>
    bif (!x0) then
      some (-1)
    else
      Option.bind (nodeset_Size s_0) fun x1 =>
      some x1
  ) (nodeset_rank s_0) :=
  callC_le (T := tn) (c := bodyOf Try.f81) (o := ⟨[.lf (.i .i64)], []⟩) sigOk 100000 (by kernel_rfl) Try.func81 (by kernel_rfl) (by kernel_rfl) (by kernel_rfl)
theorem cmp_Compare_int__le (x_0 : Int) (y_1 : Int) : Le (
    Option.bind (cmp_isNaN_int_ x_0) fun x0 =>
    Option.bind (cmp_isNaN_int_ y_1) fun x1 =>
    bif x0 then
      bif x1 then
        some 0
      else
        some (-1)
    else
      bif x1 then
        some 1
      else
        bif (ltB x_0 y_1) then
          some (-1)
        else
          bif (ltB y_1 x_0) then
            some 1
          else
            some 0
  ) (cmp_Compare_int_ x_0 y_1) :=
  callC_le (T := tn) (c := bodyOf Try.f80) (o := ⟨[.lf (.i .i64)], []⟩) sigOk 100000 (by kernel_rfl) Try.func80 (by kernel_rfl) (by kernel_rfl) (by kernel_rfl)
theorem cmp_Or_int__le (vals_0 : List (Int)) : Le (
    cmp_Or_int__l1 0 vals_0 ((List.length vals_0 : Nat) : Int) 0
  ) (cmp_Or_int_ vals_0) :=
  callC_le (T := tn) (c := bodyOf Try.f79) (o := ⟨[.lf (.i .i64)], []⟩) sigOk 100000 (by kernel_rfl) Try.func79 (by kernel_rfl) (by kernel_rfl) (by kernel_rfl)
theorem slices_order2CmpFunc_int__r__nodeset_Compare_le (a_1 : Int) (b_2 : Int) (h0 : List (Int)) (h1 : Int) : Le (
    nth h0 b_2 fun _ =>
    nth h0 a_1 fun _ =>
    nthN h0 (Int.toNat b_2) fun y0 =>
    nthN h0 (Int.toNat a_1) fun y1 =>
    Option.bind (nodeset_Compare y0 y1) fun x2 =>
    bif (ltB x2 0) then
      some (b_2, a_1, h0, (addI .i64 h1 1))
    else
      some (a_1, b_2, h0, h1)
  ) (slices_order2CmpFunc_int__r__nodeset_Compare a_1 b_2 h0 h1) :=
  callC_le (T := tn) (c := bodyOf Try.f107) (o := ⟨[.lf (.i .i64), .lf (.i .i64)], [[.own .i64 false], [.lf (.i .i64)]]⟩) sigOk 100000 (by kernel_rfl) Try.func107 (by kernel_rfl) (by kernel_rfl) (by kernel_rfl)
theorem nodeset_Size_le (s_0 : Int) : Le (
    Option.bind (nodeset_Valid s_0) fun x0 =>
    bif (!x0) then
      some 0
    else
      Option.bind (bits_OnesCount (IntKind.wrap .u64 s_0)) fun x1 =>
      some x1
  ) (nodeset_Size s_0) :=
  callC_le (T := tn) (c := bodyOf Try.f98) (o := ⟨[.lf (.i .i64)], []⟩) sigOk 100000 (by kernel_rfl) Try.func98 (by kernel_rfl) (by kernel_rfl) (by kernel_rfl)
theorem cmp_isNaN_int__le (x_0 : Int) : Le (
    some (neB x_0 x_0)
  ) (cmp_isNaN_int_ x_0) :=
  callC_le (T := tn) (c := bodyOf Try.f97) (o := ⟨[.lf .b], []⟩) sigOk 100000 (by kernel_rfl) Try.func97 (by kernel_rfl) (by kernel_rfl) (by kernel_rfl)
theorem bits_OnesCount_le (x_0 : Int) : Le (
    Option.bind (bits_OnesCount64 x_0) fun x0 =>
    some x0
  ) (bits_OnesCount x_0) :=
  callC_le (T := tn) (c := bodyOf Try.f106) (o := ⟨[.lf (.i .i64)], []⟩) sigOk 100000 (by kernel_rfl) Try.func106 (by kernel_rfl) (by kernel_rfl) (by kernel_rfl)
theorem bits_OnesCount64_le (x_0 : Int) : Le (
    some (andI .i64 (IntKind.wrap .i64 (addI .u64 (addI .u64 (addI .u64 (andI .u64 (addI .u64 (shrI .u64 (addI .u64 (andI .u64 (shrI .u64 (addI .u64 (andI .u64 (shrI .u64 x_0 1) 6148914691236517205) (andI .u64 x_0 6148914691236517205)) 2) 3689348814741910323) (andI .u64 (addI .u64 (andI .u64 (shrI .u64 x_0 1) 6148914691236517205) (andI .u64 x_0 6148914691236517205)) 3689348814741910323)) 4) (addI .u64 (andI .u64 (shrI .u64 (addI .u64 (andI .u64 (shrI .u64 x_0 1) 6148914691236517205) (andI .u64 x_0 6148914691236517205)) 2) 3689348814741910323) (andI .u64 (addI .u64 (andI .u64 (shrI .u64 x_0 1) 6148914691236517205) (andI .u64 x_0 6148914691236517205)) 3689348814741910323))) 1085102592571150095) (shrI .u64 (andI .u64 (addI .u64 (shrI .u64 (addI .u64 (andI .u64 (shrI .u64 (addI .u64 (andI .u64 (shrI .u64 x_0 1) 6148914691236517205) (andI .u64 x_0 6148914691236517205)) 2) 3689348814741910323) (andI .u64 (addI .u64 (andI .u64 (shrI .u64 x_0 1) 6148914691236517205) (andI .u64 x_0 6148914691236517205)) 3689348814741910323)) 4) (addI .u64 (andI .u64 (shrI .u64 (addI .u64 (andI .u64 (shrI .u64 x_0 1) 6148914691236517205) (andI .u64 x_0 6148914691236517205)) 2) 3689348814741910323) (andI .u64 (addI .u64 (andI .u64 (shrI .u64 x_0 1) 6148914691236517205) (andI .u64 x_0 6148914691236517205)) 3689348814741910323))) 1085102592571150095) 8)) (shrI .u64 (addI .u64 (andI .u64 (addI .u64 (shrI .u64 (addI .u64 (andI .u64 (shrI .u64 (addI .u64 (andI .u64 (shrI .u64 x_0 1) 6148914691236517205) (andI .u64 x_0 6148914691236517205)) 2) 3689348814741910323) (andI .u64 (addI .u64 (andI .u64 (shrI .u64 x_0 1) 6148914691236517205) (andI .u64 x_0 6148914691236517205)) 3689348814741910323)) 4) (addI .u64 (andI .u64 (shrI .u64 (addI .u64 (andI .u64 (shrI .u64 x_0 1) 6148914691236517205) (andI .u64 x_0 6148914691236517205)) 2) 3689348814741910323) (andI .u64 (addI .u64 (andI .u64 (shrI .u64 x_0 1) 6148914691236517205) (andI .u64 x_0 6148914691236517205)) 3689348814741910323))) 1085102592571150095) (shrI .u64 (andI .u64 (addI .u64 (shrI .u64 (addI .u64 (andI .u64 (shrI .u64 (addI .u64 (andI .u64 (shrI .u64 x_0 1) 6148914691236517205) (andI .u64 x_0 6148914691236517205)) 2) 3689348814741910323) (andI .u64 (addI .u64 (andI .u64 (shrI .u64 x_0 1) 6148914691236517205) (andI .u64 x_0 6148914691236517205)) 3689348814741910323)) 4) (addI .u64 (andI .u64 (shrI .u64 (addI .u64 (andI .u64 (shrI .u64 x_0 1) 6148914691236517205) (andI .u64 x_0 6148914691236517205)) 2) 3689348814741910323) (andI .u64 (addI .u64 (andI .u64 (shrI .u64 x_0 1) 6148914691236517205) (andI .u64 x_0 6148914691236517205)) 3689348814741910323))) 1085102592571150095) 8)) 16)) (shrI .u64 (addI .u64 (addI .u64 (andI .u64 (addI .u64 (shrI .u64 (addI .u64 (andI .u64 (shrI .u64 (addI .u64 (andI .u64 (shrI .u64 x_0 1) 6148914691236517205) (andI .u64 x_0 6148914691236517205)) 2) 3689348814741910323) (andI .u64 (addI .u64 (andI .u64 (shrI .u64 x_0 1) 6148914691236517205) (andI .u64 x_0 6148914691236517205)) 3689348814741910323)) 4) (addI .u64 (andI .u64 (shrI .u64 (addI .u64 (andI .u64 (shrI .u64 x_0 1) 6148914691236517205) (andI .u64 x_0 6148914691236517205)) 2) 3689348814741910323) (andI .u64 (addI .u64 (andI .u64 (shrI .u64 x_0 1) 6148914691236517205) (andI .u64 x_0 6148914691236517205)) 3689348814741910323))) 1085102592571150095) (shrI .u64 (andI .u64 (addI .u64 (shrI .u64 (addI .u64 (andI .u64 (shrI .u64 (addI .u64 (andI .u64 (shrI .u64 x_0 1) 6148914691236517205) (andI .u64 x_0 6148914691236517205)) 2) 3689348814741910323) (andI .u64 (addI .u64 (andI .u64 (shrI .u64 x_0 1) 6148914691236517205) (andI .u64 x_0 6148914691236517205)) 3689348814741910323)) 4) (addI .u64 (andI .u64 (shrI .u64 (addI .u64 (andI .u64 (shrI .u64 x_0 1) 6148914691236517205) (andI .u64 x_0 6148914691236517205)) 2) 3689348814741910323) (andI .u64 (addI .u64 (andI .u64 (shrI .u64 x_0 1) 6148914691236517205) (andI .u64 x_0 6148914691236517205)) 3689348814741910323))) 1085102592571150095) 8)) (shrI .u64 (addI .u64 (andI .u64 (addI .u64 (shrI .u64 (addI .u64 (andI .u64 (shrI .u64 (addI .u64 (andI .u64 (shrI .u64 x_0 1) 6148914691236517205) (andI .u64 x_0 6148914691236517205)) 2) 3689348814741910323) (andI .u64 (addI .u64 (andI .u64 (shrI .u64 x_0 1) 6148914691236517205) (andI .u64 x_0 6148914691236517205)) 3689348814741910323)) 4) (addI .u64 (andI .u64 (shrI .u64 (addI .u64 (andI .u64 (shrI .u64 x_0 1) 6148914691236517205) (andI .u64 x_0 6148914691236517205)) 2) 3689348814741910323) (andI .u64 (addI .u64 (andI .u64 (shrI .u64 x_0 1) 6148914691236517205) (andI .u64 x_0 6148914691236517205)) 3689348814741910323))) 1085102592571150095) (shrI .u64 (andI .u64 (addI .u64 (shrI .u64 (addI .u64 (andI .u64 (shrI .u64 (addI .u64 (andI .u64 (shrI .u64 x_0 1) 6148914691236517205) (andI .u64 x_0 6148914691236517205)) 2) 3689348814741910323) (andI .u64 (addI .u64 (andI .u64 (shrI .u64 x_0 1) 6148914691236517205) (andI .u64 x_0 6148914691236517205)) 3689348814741910323)) 4) (addI .u64 (andI .u64 (shrI .u64 (addI .u64 (andI .u64 (shrI .u64 x_0 1) 6148914691236517205) (andI .u64 x_0 6148914691236517205)) 2) 3689348814741910323) (andI .u64 (addI .u64 (andI .u64 (shrI .u64 x_0 1) 6148914691236517205) (andI .u64 x_0 6148914691236517205)) 3689348814741910323))) 1085102592571150095) 8)) 16)) 32))) 127)
  ) (bits_OnesCount64 x_0) :=
  callC_le (T := tn) (c := bodyOf Try.f109) (o := ⟨[.lf (.i .i64)], []⟩) sigOk 100000 (by kernel_rfl) Try.func109 (by kernel_rfl) (by kernel_rfl) (by kernel_rfl)
theorem mk_BentTrust_l3_le (a2 : Int) (a4 : List (Int)) (a6 : Int) (a8 : Int) (a10 : List (Int)) (a12 : List (Trust)) (a14 : Int) (a16 : List (Int)) (a18 : List (Trust)) (a20 : Int) (a22 : List (Int)) (a24 : List (Trust)) : Le (
    bif (ltB 0 a2) then
      mk_BentTrust_l3 (subI .i64 a2 1) a4 a6 a8 a10 a12 a14 a16 a18 1 ([] : List (Int)) ([(Trust.mk a20 a22 a24)] : List (Trust))
    else
      some ((Trust.mk a20 a22 a24), a4, a6)
  ) (mk_BentTrust_l3 a2 a4 a6 a8 a10 a12 a14 a16 a18 a20 a22 a24) :=
  goC_loopAt (T := tn) (o := ⟨[.ag .Trust], [[.lf (.l .i64), .lf (.i .i64)]]⟩) sigOk 100000 (b := codeAt Try.f51 [1, 1, 0, 1, 0, 1, 1, 1, 1, 1, 1, 1, 1, 1, 0, 1, 0, 1, 0, 0]) (by kernel_rfl) (by kernel_rfl)
theorem threshold_Depth_l1_le (a0 : Int) (a2 : List (Trust)) (a4 : Int) (a6 : Int) (a8 : Int) (a10 : List (Int)) (a12 : List (Trust)) : Le (
    bif (ltB a6 a4) then
      nth a2 a6 fun y0 =>
      Option.bind (threshold_Depth y0) fun x1 =>
      threshold_Depth_l1 (if x1 > a0 then x1 else a0) a2 a4 (addI .i64 a6 1) a8 a10 a12
    else
      some (addI .i64 a0 1)
  ) (threshold_Depth_l1 a0 a2 a4 a6 a8 a10 a12) :=
  goC_loopAt (T := tn) (o := ⟨[.lf (.i .i64)], []⟩) sigOk 100000 (b := codeAt Try.f84 [1, 1, 0, 1, 0, 0]) (by kernel_rfl) (by kernel_rfl)
theorem threshold_Size_l1_le (a0 : Int) (a2 : List (Trust)) (a4 : Int) (a6 : Int) (a8 : Int) (a10 : List (Int)) (a12 : List (Trust)) : Le (
    bif (ltB a6 a4) then
      nth a2 a6 fun y0 =>
      Option.bind (threshold_Size y0) fun x1 =>
      threshold_Size_l1 (addI .i64 a0 x1) a2 a4 (addI .i64 a6 1) a8 a10 a12
    else
      some a0
  ) (threshold_Size_l1 a0 a2 a4 a6 a8 a10 a12) :=
  goC_loopAt (T := tn) (o := ⟨[.lf (.i .i64)], []⟩) sigOk 100000 (b := codeAt Try.f85 [1, 1, 0, 1, 0, 0]) (by kernel_rfl) (by kernel_rfl)
theorem threshold_level_l1_le (a0 : List (Trust)) (a2 : Int) (a4 : Int) (a6 : Int) (a8 : List (Int)) (a10 : List (Trust)) : Le (
    bif (ltB a4 a2) then
      nth a0 a4 fun y0 =>
      Option.bind (threshold_level y0) fun x1 =>
      bif (neB x1 0) then
        some x1
      else
        threshold_level_l1 a0 a2 (addI .i64 a4 1) a6 a8 a10
    else
      some 0
  ) (threshold_level_l1 a0 a2 a4 a6 a8 a10) :=
  goC_loopAt (T := tn) (o := ⟨[.lf (.i .i64)], []⟩) sigOk 100000 (b := codeAt Try.f86 [1, 1, 1, 1, 0, 1, 0, 0]) (by kernel_rfl) (by kernel_rfl)
theorem nodeset_Of_l1_le (a0 : Int) (a2 : List (Int)) (a4 : Int) (a6 : Int) : Le (
    bif (ltB a6 a4) then
      nth a2 a6 fun y0 =>
      bif (ltB y0 0) then
        some (0, 5)
      else
        bif (leB 10 y0) then
          some (0, 5)
        else
          Option.bind (nodeset_Has a0 y0) fun x1 =>
          bif x1 then
            some (0, 6)
          else
            chk (0 ≤ y0) <|
            nodeset_Of_l1 (orI .i64 a0 (shlI .i64 1 y0)) a2 a4 (addI .i64 a6 1)
    else
      some (a0, 0)
  ) (nodeset_Of_l1 a0 a2 a4 a6) :=
  goC_loopAt (T := tn) (o := ⟨[.lf (.i .i64), .lf (.i .i64)], []⟩) sigOk 100000 (b := codeAt Try.f100 [1, 1, 0, 1, 0, 0]) (by kernel_rfl) (by kernel_rfl)
theorem slices_IndexFunc___int_int___threshold_level_1_l1_le (a0 : List (Int)) (a3 : Int) (a5 : Int) : Le (
    bif (ltB a5 a3) then
      nth a0 a5 fun y0 =>
      Option.bind (threshold_level_1 y0) fun x1 =>
      bif x1 then
        some a5
      else
        slices_IndexFunc___int_int___threshold_level_1_l1 a0 a3 (addI .i64 a5 1)
    else
      some (-1)
  ) (slices_IndexFunc___int_int___threshold_level_1_l1 a0 a3 a5) :=
  goC_loopAt (T := tn) (o := ⟨[.lf (.i .i64)], []⟩) sigOk 100000 (b := codeAt Try.f82 [1, 0, 1, 0, 0]) (by kernel_rfl) (by kernel_rfl)
theorem threshold_level_1_le (k_0 : Int) : Le (
    Option.bind (threshold_node k_0) fun x0 =>
    some (!x0)
  ) (threshold_level_1 k_0) :=
  callC_le (T := tn) (c := bodyOf Try.f99) (o := ⟨[.lf .b], []⟩) sigOk 100000 (by kernel_rfl) Try.func99 (by kernel_rfl) (by kernel_rfl) (by kernel_rfl)
theorem threshold_Uses_l2_le (a0 : Int) (a2 : List (Trust)) (a4 : Int) (a6 : Int) (a8 : Int) (a10 : List (Int)) (a12 : List (Trust)) : Le (
    bif (ltB a6 a4) then
      nth a2 a6 fun y0 =>
      Option.bind (threshold_Uses y0) fun x1 =>
      threshold_Uses_l2 (orI .i64 a0 x1) a2 a4 (addI .i64 a6 1) a8 a10 a12
    else
      some a0
  ) (threshold_Uses_l2 a0 a2 a4 a6 a8 a10 a12) :=
  goC_loopAt (T := tn) (o := ⟨[.lf (.i .i64)], []⟩) sigOk 100000 (b := codeAt Try.f44 [1, 1, 1, 0, 1, 0, 0]) (by kernel_rfl) (by kernel_rfl)
theorem threshold_Satisfied_l2_le (a0 : Int) (a3 : Int) (a5 : List (Trust)) (a7 : Int) (a9 : Int) (a11 : Int) (a13 : List (Int)) (a15 : List (Trust)) : Le (
    bif (ltB a9 a7) then
      nth a5 a9 fun y0 =>
      Option.bind (threshold_Satisfied y0 a0) fun x1 =>
      bif x1 then
        threshold_Satisfied_l2 a0 (addI .i64 a3 1) a5 a7 (addI .i64 a9 1) a11 a13 a15
      else
        threshold_Satisfied_l2 a0 a3 a5 a7 (addI .i64 a9 1) a11 a13 a15
    else
      some (leB a11 a3)
  ) (threshold_Satisfied_l2 a0 a3 a5 a7 a9 a11 a13 a15) :=
  goC_loopAt (T := tn) (o := ⟨[.lf .b], []⟩) sigOk 100000 (b := codeAt Try.f41 [1, 1, 1, 1, 0, 1, 0, 0]) (by kernel_rfl) (by kernel_rfl)
theorem ref02_check_l2_le (a0 : List (Trust)) (a2 : Int) (a4 : Int) (a6 : Int) (a8 : List (Int)) (a10 : List (Trust)) : Le (
    bif (ltB a4 a2) then
      nth a0 a4 fun y0 =>
      Option.bind (ref02_check y0) fun x1 =>
      bif (neB x1 0) then
        some x1
      else
        ref02_check_l2 a0 a2 (addI .i64 a4 1) a6 a8 a10
    else
      some 0
  ) (ref02_check_l2 a0 a2 a4 a6 a8 a10) :=
  goC_loopAt (T := tn) (o := ⟨[.lf (.i .i64)], []⟩) sigOk 100000 (b := codeAt Try.f57 [1, 1, 1, 1, 0, 1, 0, 0]) (by kernel_rfl) (by kernel_rfl)
theorem ref01_Of_l1_le (a0 : Int) (a2 : List (Int)) (a4 : Int) (a6 : Int) : Le (
    bif (ltB a6 a4) then
      nth a2 a6 fun y0 =>
      bif (ltB y0 0) then
        some (0, 5)
      else
        bif (leB 10 y0) then
          some (0, 5)
        else
          Option.bind (ref01_Has a0 y0) fun x1 =>
          bif x1 then
            some (0, 6)
          else
            chk (0 ≤ y0) <|
            ref01_Of_l1 (orI .i64 a0 (shlI .i64 1 y0)) a2 a4 (addI .i64 a6 1)
    else
      some (a0, 0)
  ) (ref01_Of_l1 a0 a2 a4 a6) :=
  goC_loopAt (T := tn) (o := ⟨[.lf (.i .i64), .lf (.i .i64)], []⟩) sigOk 100000 (b := codeAt Try.f73 [1, 1, 0, 1, 0, 0]) (by kernel_rfl) (by kernel_rfl)
theorem law11_BlockingAnswers_l3_le (a0 : Int) (a2 : Int) (a4 : List (Int)) (a8 : Int) (a10 : List (Config)) (a12 : Int) (a14 : Int) (a16 : List (Int)) (a18 : Int) (a20 : Int) (a22 : List (Int)) (a24 : Int) (a26 : Int) (a28 : List (Member)) (a30 : List (Int)) (a32 : Int) (a34 : List (Member)) (a36 : List (Member)) : Le (
    bif (ltB a26 a24) then
      nth a22 a26 fun y0 =>
      Option.bind (blocking_Blocks (Config.mk a36) a8 y0) fun x1 =>
      Option.bind (ref11_Blocks (Config.mk a36) a8 y0) fun x2 =>
      bif (!(x1 == x2)) then
        some false
      else
        law11_BlockingAnswers_l3 a0 a2 a4 a8 a10 a12 a14 a16 a18 a20 a22 a24 (addI .i64 a26 1) a28 a30 a32 a34 a36
    else
      law11_BlockingAnswers_l2 a0 a2 a4 a10 a12 a14 a16 a18 (addI .i64 a20 1) a28 a30 a32 a34 a36
  ) (law11_BlockingAnswers_l3 a0 a2 a4 a8 a10 a12 a14 a16 a18 a20 a22 a24 a26 a28 a30 a32 a34 a36) :=
  goC_loopAt (T := tn) (o := ⟨[.lf .b], []⟩) sigOk 100000 (b := codeAt Try.f6 [1, 1, 1, 1, 0, 1, 0, 0, 1, 1, 0, 0, 1, 0, 1, 0, 0, 1, 1, 0, 0, 1, 1, 1, 1, 1, 0, 0]) (by kernel_rfl) (by kernel_rfl)
theorem law11_BlockingAnswers_l4_le (a0 : Int) (a2 : Int) (a4 : List (Int)) (a8 : List (Config)) (a10 : Int) (a12 : Int) (a14 : List (Int)) (a16 : Int) (a18 : Int) (a20 : List (Member)) (a22 : List (Int)) (a24 : Int) (a26 : List (Member)) (a28 : List (Member)) : Le (
    bif (ltB a18 a16) then
      nth a14 a18 fun y0 =>
      Option.bind (blocking_Cascade (Config.mk a28) y0) fun x1 =>
      Option.bind (ref11_Cascade (Config.mk a28) y0) fun x2 =>
      bif (neB x1.2 x2.2) then
        some false
      else
        Option.bind (mk_Ints x1.1 x2.1) fun x3 =>
        bif (!x3) then
          some false
        else
          Option.bind (mk_Tape_Order ((List.length x2.1 : Nat) : Int) a22 a24) fun x4 =>
          capOk (List.length ([] : List (Int)) + List.length x2.1) <|
          Option.bind (mk_Tape_N 10 x4.2.1 x4.2.2) fun x5 =>
          capOk (List.length (([] : List (Int)) ++ x2.1) + List.length ([x5.1] : List (Int))) <|
          law11_BlockingAnswers_l5 a0 a2 a4 y0 a8 a10 a12 a14 a16 a18 ([a4, x2.1, x4.1, ((([] : List (Int)) ++ x2.1) ++ ([x5.1] : List (Int)))] : List (List (Int))) ((List.length ([a4, x2.1, x4.1, ((([] : List (Int)) ++ x2.1) ++ ([x5.1] : List (Int)))] : List (List (Int))) : Nat) : Int) 0 a20 x5.2.1 x5.2.2 a26 a28
    else
      law11_BlockingAnswers_l1 a0 a2 a4 a8 a10 (addI .i64 a12 1) a20 a22 a24 a26
  ) (law11_BlockingAnswers_l4 a0 a2 a4 a8 a10 a12 a14 a16 a18 a20 a22 a24 a26 a28) :=
  goC_loopAt (T := tn) (o := ⟨[.lf .b], []⟩) sigOk 100000 (b := codeAt Try.f6 [1, 1, 1, 1, 0, 1, 0, 0, 1, 1, 0, 0, 1, 1, 1, 0, 0]) (by kernel_rfl) (by kernel_rfl)
theorem ref11_Cascade_le (c_0 : Config) (s_1 : Int) : Le (
    Option.bind (ref01_Valid s_1) fun x0 =>
    bif (!x0) then
      some (([] : List (Int)), 0)
    else
      Option.bind (ref11_next c_0 s_1) fun x1 =>
      ref11_Cascade_l1 s_1 ([] : List (Int)) x1 c_0.Members
  ) (ref11_Cascade c_0 s_1) :=
  callC_le (T := tn) (c := bodyOf Try.f26) (o := ⟨[.lf (.l .i64), .lf (.i .i64)], []⟩) sigOk 100000 (by kernel_rfl) Try.func26 (by kernel_rfl) (by kernel_rfl) (by kernel_rfl)
theorem ref11_next_le (c_0 : Config) (s_1 : Int) : Le (
    Option.bind (ref06_Declared c_0) fun x0 =>
    Option.bind (ref01_Nodes x0) fun x1 =>
    ref11_next_l1 s_1 x1 ((List.length x1 : Nat) : Int) 0 c_0.Members
  ) (ref11_next c_0 s_1) :=
  callC_le (T := tn) (c := bodyOf Try.f53) (o := ⟨[.lf (.i .i64)], []⟩) sigOk 100000 (by kernel_rfl) Try.func53 (by kernel_rfl) (by kernel_rfl) (by kernel_rfl)
theorem ref11_Least_l1_le (a0 : Int) (a3 : List (Int)) (a5 : Int) (a7 : List (Member)) : Le (
    bif (leB a5 1023) then
      Option.bind (ref11_Blocks (Config.mk a7) a0 a5) fun x0 =>
      bif (!x0) then
        ref11_Least_l1 a0 a3 (addI .i64 a5 1) a7
      else
        Option.bind (ref01_Nodes a5) fun x1 =>
        ref11_Least_l2 a0 a3 a5 true x1 ((List.length x1 : Nat) : Int) 0 a7
    else
      Option.bind (ref01_Least a3) fun x2 =>
      some (x2, 0)
  ) (ref11_Least_l1 a0 a3 a5 a7) :=
  goC_loopAt (T := tn) (o := ⟨[.lf (.l .i64), .lf (.i .i64)], []⟩) sigOk 100000 (b := codeAt Try.f24 [1, 1, 1, 1, 1, 0, 1, 0, 0]) (by kernel_rfl) (by kernel_rfl)
theorem ref06_Valid_l1_le (a1 : List (Member)) (a3 : Int) (a5 : Int) (a7 : List (Member)) : Le (
    bif (ltB a5 a3) then
      nth a1 a5 fun y0 =>
      bif (!y0.Declared) then
        Option.bind (ref02_Same y0.Trust (Trust.mk 0 ([] : List (Int)) ([] : List (Trust)))) fun x1 =>
        bif (!x1) then
          some 1
        else
          ref06_Valid_l1 a1 a3 (addI .i64 a5 1) a7
      else
        Option.bind (ref02_Valid y0.Trust) fun x2 =>
        bif (neB x2 0) then
          some x2
        else
          chk (0 ≤ ((List.length a7 : Nat) : Int)) <|
          Option.bind (ref02_Uses y0.Trust) fun x3 =>
          bif (leB (shlI .i64 1 ((List.length a7 : Nat) : Int)) x3) then
            some 5
          else
            ref06_Valid_l1 a1 a3 (addI .i64 a5 1) a7
    else
      some 0
  ) (ref06_Valid_l1 a1 a3 a5 a7) :=
  goC_loopAt (T := tn) (o := ⟨[.lf (.i .i64)], []⟩) sigOk 100000 (b := codeAt Try.f52 [1, 1, 0, 1, 0, 0]) (by kernel_rfl) (by kernel_rfl)
theorem ref02_Same_le (a_0 : Trust) (b_1 : Trust) : Le (
    bif (neB a_0.Threshold b_1.Threshold) then
      some false
    else
      Option.bind (ref01_Same a_0.Nodes b_1.Nodes) fun x0 =>
      bif (!x0) then
        some false
      else
        bif (neB ((List.length a_0.Inner : Nat) : Int) ((List.length b_1.Inner : Nat) : Int)) then
          some false
        else
          ref02_Same_l1 ((List.length a_0.Inner : Nat) : Int) 0 a_0.Threshold a_0.Nodes a_0.Inner b_1.Threshold b_1.Nodes b_1.Inner
  ) (ref02_Same a_0 b_1) :=
  callC_le (T := tn) (c := bodyOf Try.f71) (o := ⟨[.lf .b], []⟩) sigOk 100000 (by kernel_rfl) Try.func71 (by kernel_rfl) (by kernel_rfl) (by kernel_rfl)
theorem ref02_Uses_le (t_0 : Trust) : Le (
    ref02_Uses_l1 0 t_0.Nodes ((List.length t_0.Nodes : Nat) : Int) 0 t_0.Threshold t_0.Nodes t_0.Inner
  ) (ref02_Uses t_0) :=
  callC_le (T := tn) (c := bodyOf Try.f72) (o := ⟨[.lf (.i .i64)], []⟩) sigOk 100000 (by kernel_rfl) Try.func72 (by kernel_rfl) (by kernel_rfl) (by kernel_rfl)
theorem ref01_Same_le (a_0 : List (Int)) (b_1 : List (Int)) : Le (
    bif (neB ((List.length a_0 : Nat) : Int) ((List.length b_1 : Nat) : Int)) then
      some false
    else
      ref01_Same_l1 a_0 b_1 ((List.length a_0 : Nat) : Int) 0
  ) (ref01_Same a_0 b_1) :=
  callC_le (T := tn) (c := bodyOf Try.f83) (o := ⟨[.lf .b], []⟩) sigOk 100000 (by kernel_rfl) Try.func83 (by kernel_rfl) (by kernel_rfl) (by kernel_rfl)
theorem blocking_Check_l1_le (a0 : Int) (a3 : List (Int)) (a5 : Int) (a7 : Int) (a9 : List (Member)) : Le (
    bif (ltB a7 a5) then
      nth a3 a7 fun y0 =>
      Option.bind (nodeset_Has a0 y0) fun x1 =>
      bif x1 then
        some (0, 12)
      else
        Option.bind (blocking_Blocks (Config.mk a9) y0 a0) fun x2 =>
        bif (!x2) then
          some (0, 12)
        else
          chk (0 ≤ y0) <|
          blocking_Check_l1 (orI .i64 a0 (shlI .i64 1 y0)) a3 a5 (addI .i64 a7 1) a9
    else
      Option.bind (blocking_next (Config.mk a9) a0) fun x3 =>
      bif x3.2 then
        some (0, 12)
      else
        some (a0, 0)
  ) (blocking_Check_l1 a0 a3 a5 a7 a9) :=
  goC_loopAt (T := tn) (o := ⟨[.lf (.i .i64), .lf (.i .i64)], []⟩) sigOk 100000 (b := codeAt Try.f28 [1, 1, 0, 1, 0, 0]) (by kernel_rfl) (by kernel_rfl)
end Go.Proofs.Ytfailfoncbbgjaa
