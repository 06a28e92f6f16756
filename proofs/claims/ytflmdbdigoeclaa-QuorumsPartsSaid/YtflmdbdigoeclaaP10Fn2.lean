/- What the functions come to, printed by a program and checked by the kernel. -/
import Derived.Test.YtflmdbdigoeclaaP10Df
namespace Go.Proofs.Ytflmdbdigoeclaa
open Go Go.Ab
set_option maxRecDepth 100000
theorem slices_choosePivotCmpFunc_int__r__nodeset_Compare_le (a_1 : Int) (b_2 : Int) (h0 : List (Int)) : Le (
    bif (leB 8 (subI .i64 b_2 a_1)) then
      bif (leB 50 (subI .i64 b_2 a_1)) then
        Option.bind (slices_medianAdjacentCmpFunc_int__r__nodeset_Compare (addI .i64 a_1 (mulI .i64 (quoI .i64 (subI .i64 b_2 a_1) 4) 1)) h0 0) fun x0 =>
        Option.bind (slices_medianAdjacentCmpFunc_int__r__nodeset_Compare (addI .i64 a_1 (mulI .i64 (quoI .i64 (subI .i64 b_2 a_1) 4) 2)) x0.2.1 x0.2.2) fun x1 =>
        Option.bind (slices_medianAdjacentCmpFunc_int__r__nodeset_Compare (addI .i64 a_1 (mulI .i64 (quoI .i64 (subI .i64 b_2 a_1) 4) 3)) x1.2.1 x1.2.2) fun x2 =>
        Option.bind (slices_medianCmpFunc_int__r__nodeset_Compare x0.1 x1.1 x2.1 x2.2.1 x2.2.2) fun x3 =>
        bif (eqB x3.2.2 0) then
          some (x3.1, 1, x3.2.1)
        else
          bif (eqB x3.2.2 12) then
            some (x3.1, 2, x3.2.1)
          else
            some (x3.1, 0, x3.2.1)
      else
        Option.bind (slices_medianCmpFunc_int__r__nodeset_Compare (addI .i64 a_1 (mulI .i64 (quoI .i64 (subI .i64 b_2 a_1) 4) 1)) (addI .i64 a_1 (mulI .i64 (quoI .i64 (subI .i64 b_2 a_1) 4) 2)) (addI .i64 a_1 (mulI .i64 (quoI .i64 (subI .i64 b_2 a_1) 4) 3)) h0 0) fun x4 =>
        bif (eqB x4.2.2 0) then
          some (x4.1, 1, x4.2.1)
        else
          bif (eqB x4.2.2 12) then
            some (x4.1, 2, x4.2.1)
          else
            some (x4.1, 0, x4.2.1)
    else
      some ((addI .i64 a_1 (mulI .i64 (quoI .i64 (subI .i64 b_2 a_1) 4) 2)), 1, h0)
  ) (slices_choosePivotCmpFunc_int__r__nodeset_Compare a_1 b_2 h0) :=
  callC_le (T := tn) (c := bodyOf Try.f75) (o := ⟨[.lf (.i .i64), .lf (.i .i64)], [[.own .i64 false]]⟩) sigOk 100000 (by kernel_rfl) Try.func75 (by kernel_rfl) (by kernel_rfl) (by kernel_rfl)
theorem slices_reverseRangeCmpFunc_int__r__nodeset_Compare_le (a_1 : Int) (b_2 : Int) (h0 : List (Int)) : Le (
    slices_reverseRangeCmpFunc_int__r__nodeset_Compare_l1 a_1 (subI .i64 b_2 1) h0
  ) (slices_reverseRangeCmpFunc_int__r__nodeset_Compare a_1 b_2 h0) :=
  callC_le (T := tn) (c := bodyOf Try.f76) (o := ⟨[], [[.own .i64 false]]⟩) sigOk 100000 (by kernel_rfl) Try.func76 (by kernel_rfl) (by kernel_rfl) (by kernel_rfl)
theorem slices_partialInsertionSortCmpFunc_int__r__nodeset_Compare_le (a_1 : Int) (b_2 : Int) (h0 : List (Int)) : Le (
    slices_partialInsertionSortCmpFunc_int__r__nodeset_Compare_l1 a_1 b_2 (addI .i64 a_1 1) 0 h0
  ) (slices_partialInsertionSortCmpFunc_int__r__nodeset_Compare a_1 b_2 h0) :=
  callC_le (T := tn) (c := bodyOf Try.f77) (o := ⟨[.lf .b], [[.own .i64 false]]⟩) sigOk 100000 (by kernel_rfl) Try.func77 (by kernel_rfl) (by kernel_rfl) (by kernel_rfl)
theorem nodeset_Compare_le (a_0 : Int) (b_1 : Int) : Le (
    Option.bind (nodeset_rank a_0) fun x0 =>
    Option.bind (nodeset_rank b_1) fun x1 =>
    Option.bind (cmp_Compare_int_ x0 x1) fun x2 =>
    Option.bind (cmp_Compare_int_ a_0 b_1) fun x3 =>
    Option.bind (cmp_Or_int_ ([x2, x3] : List (Int))) fun x4 =>
    some x4
  ) (nodeset_Compare a_0 b_1) :=
  callC_le (T := tn) (c := bodyOf Try.f47) (o := ⟨[.lf (.i .i64)], []⟩) sigOk 100000 (by kernel_rfl) Try.func47 (by kernel_rfl) (by kernel_rfl) (by kernel_rfl)
theorem slices_partitionEqualCmpFunc_int__r__nodeset_Compare_le (a_1 : Int) (b_2 : Int) (pivot_3 : Int) (h0 : List (Int)) : Le (
    nth h0 pivot_3 fun _ =>
    nth h0 a_1 fun _ =>
    nthN h0 (Int.toNat pivot_3) fun y0 =>
    nthN h0 (Int.toNat a_1) fun y1 =>
    nth h0 a_1 fun _ =>
    nthN h0 (Int.toNat a_1) fun _y2 =>
    nth (List.set h0 (Int.toNat a_1) y0) pivot_3 fun _ =>
    nthN (List.set h0 (Int.toNat a_1) y0) (Int.toNat pivot_3) fun _y3 =>
    slices_partitionEqualCmpFunc_int__r__nodeset_Compare_l1 a_1 (addI .i64 a_1 1) (subI .i64 b_2 1) (List.set (List.set h0 (Int.toNat a_1) y0) (Int.toNat pivot_3) y1)
  ) (slices_partitionEqualCmpFunc_int__r__nodeset_Compare a_1 b_2 pivot_3 h0) :=
  callC_le (T := tn) (c := bodyOf Try.f78) (o := ⟨[.lf (.i .i64)], [[.own .i64 false]]⟩) sigOk 100000 (by kernel_rfl) Try.func78 (by kernel_rfl) (by kernel_rfl) (by kernel_rfl)
theorem slices_partitionCmpFunc_int__r__nodeset_Compare_le (a_1 : Int) (b_2 : Int) (pivot_3 : Int) (h0 : List (Int)) : Le (
    nth h0 pivot_3 fun _ =>
    nth h0 a_1 fun _ =>
    nthN h0 (Int.toNat pivot_3) fun y0 =>
    nthN h0 (Int.toNat a_1) fun y1 =>
    nth h0 a_1 fun _ =>
    nthN h0 (Int.toNat a_1) fun _y2 =>
    nth (List.set h0 (Int.toNat a_1) y0) pivot_3 fun _ =>
    nthN (List.set h0 (Int.toNat a_1) y0) (Int.toNat pivot_3) fun _y3 =>
    slices_partitionCmpFunc_int__r__nodeset_Compare_l1 a_1 (addI .i64 a_1 1) (subI .i64 b_2 1) (List.set (List.set h0 (Int.toNat a_1) y0) (Int.toNat pivot_3) y1)
  ) (slices_partitionCmpFunc_int__r__nodeset_Compare a_1 b_2 pivot_3 h0) :=
  callC_le (T := tn) (c := bodyOf Try.f79) (o := ⟨[.lf (.i .i64), .lf .b], [[.own .i64 false]]⟩) sigOk 100000 (by kernel_rfl) Try.func79 (by kernel_rfl) (by kernel_rfl) (by kernel_rfl)
theorem slices_nextPowerOfTwo_le (length_0 : Int) : Le (
    Option.bind (bits_Len (IntKind.wrap .u64 length_0)) fun x0 =>
    chk (0 ≤ x0) <|
    some (shlI .u64 1 x0)
  ) (slices_nextPowerOfTwo length_0) :=
  callC_le (T := tn) (c := bodyOf Try.f88) (o := ⟨[.lf (.i .u64)], []⟩) sigOk 100000 (by kernel_rfl) Try.func88 (by kernel_rfl) (by kernel_rfl) (by kernel_rfl)
theorem slices_medianAdjacentCmpFunc_int__r__nodeset_Compare_le (a_1 : Int) (h0 : List (Int)) (h1 : Int) : Le (
    Option.bind (slices_medianCmpFunc_int__r__nodeset_Compare (subI .i64 a_1 1) a_1 (addI .i64 a_1 1) h0 h1) fun x0 =>
    some (x0.1, x0.2.1, x0.2.2)
  ) (slices_medianAdjacentCmpFunc_int__r__nodeset_Compare a_1 h0 h1) :=
  callC_le (T := tn) (c := bodyOf Try.f90) (o := ⟨[.lf (.i .i64)], [[.own .i64 false], [.lf (.i .i64)]]⟩) sigOk 100000 (by kernel_rfl) Try.func90 (by kernel_rfl) (by kernel_rfl) (by kernel_rfl)
theorem slices_medianCmpFunc_int__r__nodeset_Compare_le (a_1 : Int) (b_2 : Int) (c_3 : Int) (h0 : List (Int)) (h1 : Int) : Le (
    Option.bind (slices_order2CmpFunc_int__r__nodeset_Compare a_1 b_2 h0 h1) fun x0 =>
    Option.bind (slices_order2CmpFunc_int__r__nodeset_Compare x0.2.1 c_3 x0.2.2.1 x0.2.2.2) fun x1 =>
    Option.bind (slices_order2CmpFunc_int__r__nodeset_Compare x0.1 x1.1 x1.2.2.1 x1.2.2.2) fun x2 =>
    some (x2.2.1, x2.2.2.1, x2.2.2.2)
  ) (slices_medianCmpFunc_int__r__nodeset_Compare a_1 b_2 c_3 h0 h1) :=
  callC_le (T := tn) (c := bodyOf Try.f91) (o := ⟨[.lf (.i .i64)], [[.own .i64 false], [.lf (.i .i64)]]⟩) sigOk 100000 (by kernel_rfl) Try.func91 (by kernel_rfl) (by kernel_rfl) (by kernel_rfl)
theorem nodeset_rank_le (s_0 : Int) : Le (
    Option.bind (nodeset_Valid s_0) fun x0 =>
    bif (!x0) then
      some (-1)
    else
      Option.bind (nodeset_Size s_0) fun x1 =>
      some x1
  ) (nodeset_rank s_0) :=
  callC_le (T := tn) (c := bodyOf Try.f64) (o := ⟨[.lf (.i .i64)], []⟩) sigOk 100000 (by kernel_rfl) Try.func64 (by kernel_rfl) (by kernel_rfl) (by kernel_rfl)
theorem cmp_Compare_int__le (x_0 : Int) (y_1 : Int) : Le (
    Option.bind (cmp_isNaN_int_ x_0) fun x0 =>
    Option.bind (cmp_isNaN_int_ y_1) fun x1 =>
    bif x0 then
      bif x1 then
        some 0
      else
        some (-1)
    else
      bif x1 then
        some 1
      else
        bif (ltB x_0 y_1) then
          some (-1)
        else
          bif (ltB y_1 x_0) then
            some 1
          else
            some 0
  ) (cmp_Compare_int_ x_0 y_1) :=
  callC_le (T := tn) (c := bodyOf Try.f63) (o := ⟨[.lf (.i .i64)], []⟩) sigOk 100000 (by kernel_rfl) Try.func63 (by kernel_rfl) (by kernel_rfl) (by kernel_rfl)
theorem cmp_Or_int__le (vals_0 : List (Int)) : Le (
    cmp_Or_int__l1 0 vals_0 ((List.length vals_0 : Nat) : Int) 0
  ) (cmp_Or_int_ vals_0) :=
  callC_le (T := tn) (c := bodyOf Try.f62) (o := ⟨[.lf (.i .i64)], []⟩) sigOk 100000 (by kernel_rfl) Try.func62 (by kernel_rfl) (by kernel_rfl) (by kernel_rfl)
theorem slices_order2CmpFunc_int__r__nodeset_Compare_le (a_1 : Int) (b_2 : Int) (h0 : List (Int)) (h1 : Int) : Le (
    nth h0 b_2 fun _ =>
    nth h0 a_1 fun _ =>
    nthN h0 (Int.toNat b_2) fun y0 =>
    nthN h0 (Int.toNat a_1) fun y1 =>
    Option.bind (nodeset_Compare y0 y1) fun x2 =>
    bif (ltB x2 0) then
      some (b_2, a_1, h0, (addI .i64 h1 1))
    else
      some (a_1, b_2, h0, h1)
  ) (slices_order2CmpFunc_int__r__nodeset_Compare a_1 b_2 h0 h1) :=
  callC_le (T := tn) (c := bodyOf Try.f93) (o := ⟨[.lf (.i .i64), .lf (.i .i64)], [[.own .i64 false], [.lf (.i .i64)]]⟩) sigOk 100000 (by kernel_rfl) Try.func93 (by kernel_rfl) (by kernel_rfl) (by kernel_rfl)
theorem nodeset_Size_le (s_0 : Int) : Le (
    Option.bind (nodeset_Valid s_0) fun x0 =>
    bif (!x0) then
      some 0
    else
      Option.bind (bits_OnesCount (IntKind.wrap .u64 s_0)) fun x1 =>
      some x1
  ) (nodeset_Size s_0) :=
  callC_le (T := tn) (c := bodyOf Try.f83) (o := ⟨[.lf (.i .i64)], []⟩) sigOk 100000 (by kernel_rfl) Try.func83 (by kernel_rfl) (by kernel_rfl) (by kernel_rfl)
theorem cmp_isNaN_int__le (x_0 : Int) : Le (
    some (neB x_0 x_0)
  ) (cmp_isNaN_int_ x_0) :=
  callC_le (T := tn) (c := bodyOf Try.f82) (o := ⟨[.lf .b], []⟩) sigOk 100000 (by kernel_rfl) Try.func82 (by kernel_rfl) (by kernel_rfl) (by kernel_rfl)
theorem bits_OnesCount_le (x_0 : Int) : Le (
    Option.bind (bits_OnesCount64 x_0) fun x0 =>
    some x0
  ) (bits_OnesCount x_0) :=
  callC_le (T := tn) (c := bodyOf Try.f92) (o := ⟨[.lf (.i .i64)], []⟩) sigOk 100000 (by kernel_rfl) Try.func92 (by kernel_rfl) (by kernel_rfl) (by kernel_rfl)
theorem bits_OnesCount64_le (x_0 : Int) : Le (
    some (andI .i64 (IntKind.wrap .i64 (addI .u64 (addI .u64 (addI .u64 (andI .u64 (addI .u64 (shrI .u64 (addI .u64 (andI .u64 (shrI .u64 (addI .u64 (andI .u64 (shrI .u64 x_0 1) 6148914691236517205) (andI .u64 x_0 6148914691236517205)) 2) 3689348814741910323) (andI .u64 (addI .u64 (andI .u64 (shrI .u64 x_0 1) 6148914691236517205) (andI .u64 x_0 6148914691236517205)) 3689348814741910323)) 4) (addI .u64 (andI .u64 (shrI .u64 (addI .u64 (andI .u64 (shrI .u64 x_0 1) 6148914691236517205) (andI .u64 x_0 6148914691236517205)) 2) 3689348814741910323) (andI .u64 (addI .u64 (andI .u64 (shrI .u64 x_0 1) 6148914691236517205) (andI .u64 x_0 6148914691236517205)) 3689348814741910323))) 1085102592571150095) (shrI .u64 (andI .u64 (addI .u64 (shrI .u64 (addI .u64 (andI .u64 (shrI .u64 (addI .u64 (andI .u64 (shrI .u64 x_0 1) 6148914691236517205) (andI .u64 x_0 6148914691236517205)) 2) 3689348814741910323) (andI .u64 (addI .u64 (andI .u64 (shrI .u64 x_0 1) 6148914691236517205) (andI .u64 x_0 6148914691236517205)) 3689348814741910323)) 4) (addI .u64 (andI .u64 (shrI .u64 (addI .u64 (andI .u64 (shrI .u64 x_0 1) 6148914691236517205) (andI .u64 x_0 6148914691236517205)) 2) 3689348814741910323) (andI .u64 (addI .u64 (andI .u64 (shrI .u64 x_0 1) 6148914691236517205) (andI .u64 x_0 6148914691236517205)) 3689348814741910323))) 1085102592571150095) 8)) (shrI .u64 (addI .u64 (andI .u64 (addI .u64 (shrI .u64 (addI .u64 (andI .u64 (shrI .u64 (addI .u64 (andI .u64 (shrI .u64 x_0 1) 6148914691236517205) (andI .u64 x_0 6148914691236517205)) 2) 3689348814741910323) (andI .u64 (addI .u64 (andI .u64 (shrI .u64 x_0 1) 6148914691236517205) (andI .u64 x_0 6148914691236517205)) 3689348814741910323)) 4) (addI .u64 (andI .u64 (shrI .u64 (addI .u64 (andI .u64 (shrI .u64 x_0 1) 6148914691236517205) (andI .u64 x_0 6148914691236517205)) 2) 3689348814741910323) (andI .u64 (addI .u64 (andI .u64 (shrI .u64 x_0 1) 6148914691236517205) (andI .u64 x_0 6148914691236517205)) 3689348814741910323))) 1085102592571150095) (shrI .u64 (andI .u64 (addI .u64 (shrI .u64 (addI .u64 (andI .u64 (shrI .u64 (addI .u64 (andI .u64 (shrI .u64 x_0 1) 6148914691236517205) (andI .u64 x_0 6148914691236517205)) 2) 3689348814741910323) (andI .u64 (addI .u64 (andI .u64 (shrI .u64 x_0 1) 6148914691236517205) (andI .u64 x_0 6148914691236517205)) 3689348814741910323)) 4) (addI .u64 (andI .u64 (shrI .u64 (addI .u64 (andI .u64 (shrI .u64 x_0 1) 6148914691236517205) (andI .u64 x_0 6148914691236517205)) 2) 3689348814741910323) (andI .u64 (addI .u64 (andI .u64 (shrI .u64 x_0 1) 6148914691236517205) (andI .u64 x_0 6148914691236517205)) 3689348814741910323))) 1085102592571150095) 8)) 16)) (shrI .u64 (addI .u64 (addI .u64 (andI .u64 (addI .u64 (shrI .u64 (addI .u64 (andI .u64 (shrI .u64 (addI .u64 (andI .u64 (shrI .u64 x_0 1) 6148914691236517205) (andI .u64 x_0 6148914691236517205)) 2) 3689348814741910323) (andI .u64 (addI .u64 (andI .u64 (shrI .u64 x_0 1) 6148914691236517205) (andI .u64 x_0 6148914691236517205)) 3689348814741910323)) 4) (addI .u64 (andI .u64 (shrI .u64 (addI .u64 (andI .u64 (shrI .u64 x_0 1) 6148914691236517205) (andI .u64 x_0 6148914691236517205)) 2) 3689348814741910323) (andI .u64 (addI .u64 (andI .u64 (shrI .u64 x_0 1) 6148914691236517205) (andI .u64 x_0 6148914691236517205)) 3689348814741910323))) 1085102592571150095) (shrI .u64 (andI .u64 (addI .u64 (shrI .u64 (addI .u64 (andI .u64 (shrI .u64 (addI .u64 (andI .u64 (shrI .u64 x_0 1) 6148914691236517205) (andI .u64 x_0 6148914691236517205)) 2) 3689348814741910323) (andI .u64 (addI .u64 (andI .u64 (shrI .u64 x_0 1) 6148914691236517205) (andI .u64 x_0 6148914691236517205)) 3689348814741910323)) 4) (addI .u64 (andI .u64 (shrI .u64 (addI .u64 (andI .u64 (shrI .u64 x_0 1) 6148914691236517205) (andI .u64 x_0 6148914691236517205)) 2) 3689348814741910323) (andI .u64 (addI .u64 (andI .u64 (shrI .u64 x_0 1) 6148914691236517205) (andI .u64 x_0 6148914691236517205)) 3689348814741910323))) 1085102592571150095) 8)) (shrI .u64 (addI .u64 (andI .u64 (addI .u64 (shrI .u64 (addI .u64 (andI .u64 (shrI .u64 (addI .u64 (andI .u64 (shrI .u64 x_0 1) 6148914691236517205) (andI .u64 x_0 6148914691236517205)) 2) 3689348814741910323) (andI .u64 (addI .u64 (andI .u64 (shrI .u64 x_0 1) 6148914691236517205) (andI .u64 x_0 6148914691236517205)) 3689348814741910323)) 4) (addI .u64 (andI .u64 (shrI .u64 (addI .u64 (andI .u64 (shrI .u64 x_0 1) 6148914691236517205) (andI .u64 x_0 6148914691236517205)) 2) 3689348814741910323) (andI .u64 (addI .u64 (andI .u64 (shrI .u64 x_0 1) 6148914691236517205) (andI .u64 x_0 6148914691236517205)) 3689348814741910323))) 1085102592571150095) (shrI .u64 (andI .u64 (addI .u64 (shrI .u64 (addI .u64 (andI .u64 (shrI .u64 (addI .u64 (andI .u64 (shrI .u64 x_0 1) 6148914691236517205) (andI .u64 x_0 6148914691236517205)) 2) 3689348814741910323) (andI .u64 (addI .u64 (andI .u64 (shrI .u64 x_0 1) 6148914691236517205) (andI .u64 x_0 6148914691236517205)) 3689348814741910323)) 4) (addI .u64 (andI .u64 (shrI .u64 (addI .u64 (andI .u64 (shrI .u64 x_0 1) 6148914691236517205) (andI .u64 x_0 6148914691236517205)) 2) 3689348814741910323) (andI .u64 (addI .u64 (andI .u64 (shrI .u64 x_0 1) 6148914691236517205) (andI .u64 x_0 6148914691236517205)) 3689348814741910323))) 1085102592571150095) 8)) 16)) 32))) 127)
  ) (bits_OnesCount64 x_0) :=
  callC_le (T := tn) (c := bodyOf Try.f95) (o := ⟨[.lf (.i .i64)], []⟩) sigOk 100000 (by kernel_rfl) Try.func95 (by kernel_rfl) (by kernel_rfl) (by kernel_rfl)
theorem ref01_Valid_le (s_0 : Int) : Le (
    bif (leB 0 s_0) then
      some (leB s_0 1023)
    else
      some false
  ) (ref01_Valid s_0) :=
  callC_le (T := tn) (c := bodyOf Try.f29) (o := ⟨[.lf .b], []⟩) sigOk 100000 (by kernel_rfl) Try.func29 (by kernel_rfl) (by kernel_rfl) (by kernel_rfl)
theorem ref06_Declared_le (c_0 : Config) : Le (
    ref06_Declared_l1 0 c_0.Members ((List.length c_0.Members : Nat) : Int) 0 c_0.Members
  ) (ref06_Declared c_0) :=
  callC_le (T := tn) (c := bodyOf Try.f15) (o := ⟨[.lf (.i .i64)], []⟩) sigOk 100000 (by kernel_rfl) Try.func15 (by kernel_rfl) (by kernel_rfl) (by kernel_rfl)
theorem law10_QuorumsParts_l2_le (a1 : List (Int)) (a3 : Int) (a5 : List (Int)) (a7 : Int) (a9 : Int) (a11 : List (Int)) (a13 : Int) (a15 : List (Member)) : Le (
    bif (ltB a9 a7) then
      nth a5 a9 fun y0 =>
      law10_QuorumsParts_l3 a1 a3 y0 false a5 a7 a9 a1 ((List.length a1 : Nat) : Int) 0 a11 a13 a15
    else
      Option.bind (ref06_Declared (Config.mk a15)) fun x1 =>
      bif (eqB a3 x1) then
        Option.bind (law10_awake) fun x2 =>
        some x2
      else
        some false
  ) (law10_QuorumsParts_l2 a1 a3 a5 a7 a9 a11 a13 a15) :=
  goC_loopAt (T := tn) (o := ⟨[.lf .b], []⟩) sigOk 100000 (b := codeAt Try.f4 [1, 1, 1, 1, 1, 1, 1, 1, 0, 1, 0, 0]) (by kernel_rfl) (by kernel_rfl)
theorem mk_most_l1_le (a1 : Int) (a5 : Int) (a7 : List (Int)) (a9 : Int) (a11 : Int) (a13 : List (Int)) (a15 : List (Trust)) (a17 : Int) (a19 : List (Int)) (a21 : List (Trust)) : Le (
    bif (ltB a5 a1) then
      Option.bind (mk_Tape_N 10 a7 a9) fun x0 =>
      bif (ltB x0.1 9) then
        capOk (List.length a19 + List.length ([a5] : List (Int))) <|
        mk_most_l1 a1 (addI .i64 a5 1) x0.2.1 x0.2.2 a11 a13 a15 a17 (a19 ++ ([a5] : List (Int))) a21
      else
        mk_most_l1 a1 (addI .i64 a5 1) x0.2.1 x0.2.2 a11 a13 a15 a17 a19 a21
    else
      bif (eqB ((List.length a19 : Nat) : Int) 0) then
        Option.bind (mk_Tape_Pick ([0, 0, 0, 1, (-1)] : List (Int)) a7 a9) fun x1 =>
        some ((Trust.mk (if (if (addI .i64 (quoI .i64 (addI .i64 (mulI .i64 2 ((List.length ([0] : List (Int)) : Nat) : Int)) 2) 3) x1.1) > 1 then (addI .i64 (quoI .i64 (addI .i64 (mulI .i64 2 ((List.length ([0] : List (Int)) : Nat) : Int)) 2) 3) x1.1) else 1) < ((List.length ([0] : List (Int)) : Nat) : Int) then (if (addI .i64 (quoI .i64 (addI .i64 (mulI .i64 2 ((List.length ([0] : List (Int)) : Nat) : Int)) 2) 3) x1.1) > 1 then (addI .i64 (quoI .i64 (addI .i64 (mulI .i64 2 ((List.length ([0] : List (Int)) : Nat) : Int)) 2) 3) x1.1) else 1) else ((List.length ([0] : List (Int)) : Nat) : Int)) ([0] : List (Int)) a21), x1.2.1, x1.2.2)
      else
        Option.bind (mk_Tape_Pick ([0, 0, 0, 1, (-1)] : List (Int)) a7 a9) fun x2 =>
        some ((Trust.mk (if (if (addI .i64 (quoI .i64 (addI .i64 (mulI .i64 2 ((List.length a19 : Nat) : Int)) 2) 3) x2.1) > 1 then (addI .i64 (quoI .i64 (addI .i64 (mulI .i64 2 ((List.length a19 : Nat) : Int)) 2) 3) x2.1) else 1) < ((List.length a19 : Nat) : Int) then (if (addI .i64 (quoI .i64 (addI .i64 (mulI .i64 2 ((List.length a19 : Nat) : Int)) 2) 3) x2.1) > 1 then (addI .i64 (quoI .i64 (addI .i64 (mulI .i64 2 ((List.length a19 : Nat) : Int)) 2) 3) x2.1) else 1) else ((List.length a19 : Nat) : Int)) a19 a21), x2.2.1, x2.2.2)
  ) (mk_most_l1 a1 a5 a7 a9 a11 a13 a15 a17 a19 a21) :=
  goC_loopAt (T := tn) (o := ⟨[.ag .Trust], [[.lf (.l .i64), .lf (.i .i64)]]⟩) sigOk 100000 (b := codeAt Try.f24 [1, 1, 0, 1, 0, 0]) (by kernel_rfl) (by kernel_rfl)
theorem mk_group_l1_le (a1 : Int) (a3 : Int) (a6 : List (Trust)) (a8 : Int) (a10 : List (Int)) (a12 : Int) (a14 : Int) (a16 : List (Int)) (a18 : List (Trust)) : Le (
    bif (ltB a8 3) then
      mk_group_l2 a1 a3 a6 a8 a8 a10 a12 a14 a16 a18 1 ([] : List (Int)) ([] : List (Trust))
    else
      Option.bind (mk_Tape_N 4 a10 a12) fun x0 =>
      bif (eqB x0.1 0) then
        chk (((List.length a6 : Nat) : Int) ≠ 0) <|
        nth a6 (remI .i64 a3 ((List.length a6 : Nat) : Int)) fun _ =>
        nthN a6 (Int.toNat (remI .i64 a3 ((List.length a6 : Nat) : Int))) fun y1 =>
        some ((Trust.mk y1.Threshold y1.Nodes y1.Inner), x0.2.1, x0.2.2)
      else
        Option.bind (mk_Tape_Range (if (subI .i64 ((List.length a6 : Nat) : Int) 1) > 1 then (subI .i64 ((List.length a6 : Nat) : Int) 1) else 1) ((List.length a6 : Nat) : Int) x0.2.1 x0.2.2) fun x2 =>
        some ((Trust.mk x2.1 ([] : List (Int)) a6), x2.2.1, x2.2.2)
  ) (mk_group_l1 a1 a3 a6 a8 a10 a12 a14 a16 a18) :=
  goC_loopAt (T := tn) (o := ⟨[.ag .Trust], [[.lf (.l .i64), .lf (.i .i64)]]⟩) sigOk 100000 (b := codeAt Try.f25 [1, 1, 0, 1, 0, 0]) (by kernel_rfl) (by kernel_rfl)
theorem quorums_Parts_l2_le (a0 : List (Int)) (a2 : List (Int)) (a4 : Int) (a7 : Int) (a9 : Int) (a11 : List (Member)) : Le (
    bif (ltB a9 a7) then
      nth a0 a9 fun _ =>
      nthN a0 (Int.toNat a9) fun y0 =>
      chk (0 ≤ a9) <|
      bif (neB (andI .i64 a4 (shlI .i64 1 a9)) 0) then
        quorums_Parts_l2 a0 a2 a4 a7 (addI .i64 a9 1) a11
      else
        bif (eqB y0 0) then
          quorums_Parts_l2 a0 a2 a4 a7 (addI .i64 a9 1) a11
        else
          Option.bind (nodeset_Nodes y0) fun x1 =>
          quorums_Parts_l3 a0 a2 a4 a9 0 a7 a9 x1 ((List.length x1 : Nat) : Int) 0 a11
    else
      some (a2, 0)
  ) (quorums_Parts_l2 a0 a2 a4 a7 a9 a11) :=
  goC_loopAt (T := tn) (o := ⟨[.lf (.l .i64), .lf (.i .i64)], []⟩) sigOk 100000 (b := codeAt Try.f14 [1, 1, 1, 1, 1, 1, 0, 1, 0, 0]) (by kernel_rfl) (by kernel_rfl)
theorem quorums_reached_l1_le (a1 : Int) (a3 : Int) (a5 : List (Member)) : Le (
    Option.bind (nodeset_Nodes a3) fun x0 =>
    quorums_reached_l2 a1 a3 a3 x0 ((List.length x0 : Nat) : Int) 0 a5
  ) (quorums_reached_l1 a1 a3 a5) :=
  goC_loopAt (T := tn) (o := ⟨[.lf (.i .i64)], []⟩) sigOk 100000 (b := codeAt Try.f34 [1, 1, 1, 0, 0]) (by kernel_rfl) (by kernel_rfl)
theorem threshold_Satisfied_le (t_0 : Trust) (s_1 : Int) : Le (
    Option.bind (nodeset_Valid s_1) fun x0 =>
    bif (!x0) then
      some false
    else
      threshold_Satisfied_l1 s_1 0 t_0.Nodes ((List.length t_0.Nodes : Nat) : Int) 0 t_0.Threshold t_0.Nodes t_0.Inner
  ) (threshold_Satisfied t_0 s_1) :=
  callC_le (T := tn) (c := bodyOf Try.f36) (o := ⟨[.lf .b], []⟩) sigOk 100000 (by kernel_rfl) Try.func36 (by kernel_rfl) (by kernel_rfl) (by kernel_rfl)
theorem threshold_Uses_l1_le (a1 : Int) (a3 : List (Int)) (a5 : Int) (a7 : Int) (a9 : Int) (a11 : List (Int)) (a13 : List (Trust)) : Le (
    bif (ltB a7 a5) then
      nth a3 a7 fun y0 =>
      Option.bind (threshold_node y0) fun x1 =>
      bif x1 then
        chk (0 ≤ y0) <|
        threshold_Uses_l1 (orI .i64 a1 (shlI .i64 1 y0)) a3 a5 (addI .i64 a7 1) a9 a11 a13
      else
        threshold_Uses_l1 a1 a3 a5 (addI .i64 a7 1) a9 a11 a13
    else
      threshold_Uses_l2 a1 a13 ((List.length a13 : Nat) : Int) 0 a9 a11 a13
  ) (threshold_Uses_l1 a1 a3 a5 a7 a9 a11 a13) :=
  goC_loopAt (T := tn) (o := ⟨[.lf (.i .i64)], []⟩) sigOk 100000 (b := codeAt Try.f51 [1, 1, 0, 1, 0, 0]) (by kernel_rfl) (by kernel_rfl)
theorem threshold_node_le (k_0 : Int) : Le (
    bif (leB 0 k_0) then
      some (ltB k_0 10)
    else
      some false
  ) (threshold_node k_0) :=
  callC_le (T := tn) (c := bodyOf Try.f67) (o := ⟨[.lf .b], []⟩) sigOk 100000 (by kernel_rfl) Try.func67 (by kernel_rfl) (by kernel_rfl) (by kernel_rfl)
theorem threshold_Depth_l1_le (a0 : Int) (a2 : List (Trust)) (a4 : Int) (a6 : Int) (a8 : Int) (a10 : List (Int)) (a12 : List (Trust)) : Le (
    bif (ltB a6 a4) then
      nth a2 a6 fun y0 =>
      Option.bind (threshold_Depth y0) fun x1 =>
      threshold_Depth_l1 (if x1 > a0 then x1 else a0) a2 a4 (addI .i64 a6 1) a8 a10 a12
    else
      some (addI .i64 a0 1)
  ) (threshold_Depth_l1 a0 a2 a4 a6 a8 a10 a12) :=
  goC_loopAt (T := tn) (o := ⟨[.lf (.i .i64)], []⟩) sigOk 100000 (b := codeAt Try.f69 [1, 1, 0, 1, 0, 0]) (by kernel_rfl) (by kernel_rfl)
end Go.Proofs.Ytflmdbdigoeclaa
