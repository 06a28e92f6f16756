/- What the functions come to, printed by a program and checked by the kernel. -/
import Derived.Test.YtfailfoncbbgjaaP11Df
namespace Go.Proofs.Ytfailfoncbbgjaa
open Go Go.Ab
set_option maxRecDepth 100000
theorem ref02_Satisfied_l2_le (a0 : Int) (a3 : Int) (a5 : List (Trust)) (a7 : Int) (a9 : Int) (a11 : Int) (a13 : List (Int)) (a15 : List (Trust)) : Le (
    bif (ltB a9 a7) then
      nth a5 a9 fun y0 =>
      Option.bind (ref02_Satisfied y0 a0) fun x1 =>
      bif x1 then
        ref02_Satisfied_l2 a0 (addI .i64 a3 1) a5 a7 (addI .i64 a9 1) a11 a13 a15
      else
        ref02_Satisfied_l2 a0 a3 a5 a7 (addI .i64 a9 1) a11 a13 a15
    else
      some (leB a11 a3)
  ) (ref02_Satisfied_l2 a0 a3 a5 a7 a9 a11 a13 a15) :=
  goC_loopAt (T := tn) (o := ⟨[.lf .b], []⟩) sigOk 100000 (b := codeAt Try.f20 [1, 1, 1, 1, 0, 1, 0, 0]) (by kernel_rfl) (by kernel_rfl)
theorem mk_group_l2_le (a1 : Int) (a3 : Int) (a6 : List (Trust)) (a8 : Int) (a11 : Int) (a13 : List (Int)) (a15 : Int) (a17 : Int) (a19 : List (Int)) (a21 : List (Trust)) (a23 : Int) (a25 : List (Int)) (a27 : List (Trust)) : Le (
    bif (ltB a11 a1) then
      capOk (List.length a25 + List.length ([a11] : List (Int))) <|
      mk_group_l2 a1 a3 a6 a8 (addI .i64 a11 3) a13 a15 a17 a19 a21 a23 (a25 ++ ([a11] : List (Int))) a27
    else
      bif (ltB 0 ((List.length a25 : Nat) : Int)) then
        Option.bind (mk_Tape_Range 1 ((List.length a25 : Nat) : Int) a13 a15) fun x0 =>
        capOk (List.length a6 + List.length ([(Trust.mk x0.1 a25 a27)] : List (Trust))) <|
        mk_group_l1 a1 a3 (a6 ++ ([(Trust.mk x0.1 a25 a27)] : List (Trust))) (addI .i64 a8 1) x0.2.1 x0.2.2 a17 a19 a21
      else
        mk_group_l1 a1 a3 a6 (addI .i64 a8 1) a13 a15 a17 a19 a21
  ) (mk_group_l2 a1 a3 a6 a8 a11 a13 a15 a17 a19 a21 a23 a25 a27) :=
  goC_loopAt (T := tn) (o := ⟨[.ag .Trust], [[.lf (.l .i64), .lf (.i .i64)]]⟩) sigOk 100000 (b := codeAt Try.f33 [1, 1, 0, 1, 0, 0, 1, 0, 0, 1, 0, 1, 0, 0]) (by kernel_rfl) (by kernel_rfl)
theorem mk_trust_l2_le (a1 : Int) (a3 : Int) (a7 : Int) (a9 : List (Int)) (a11 : Int) (a13 : Int) (a15 : List (Int)) (a17 : List (Trust)) (a19 : Int) (a21 : List (Int)) (a23 : List (Trust)) : Le (
    bif (ltB 0 a7) then
      Option.bind (mk_trust a1 (subI .i64 a3 1) a9 a11) fun x0 =>
      capOk (List.length a23 + List.length ([(Trust.mk x0.1.Threshold x0.1.Nodes x0.1.Inner)] : List (Trust))) <|
      mk_trust_l2 a1 a3 (subI .i64 a7 1) x0.2.1 x0.2.2 a13 a15 a17 a19 a21 (a23 ++ ([(Trust.mk x0.1.Threshold x0.1.Nodes x0.1.Inner)] : List (Trust)))
    else
      bif (ltB 0 ((List.length a23 : Nat) : Int)) then
        Option.bind (mk_Tape_N 3 a9 a11) fun x1 =>
        bif (eqB x1.1 0) then
          Option.bind (mk_Tape_Range 1 (addI .i64 ((List.length ([] : List (Int)) : Nat) : Int) ((List.length a23 : Nat) : Int)) x1.2.1 x1.2.2) fun x2 =>
          some ((Trust.mk x2.1 ([] : List (Int)) a23), x2.2.1, x2.2.2)
        else
          Option.bind (mk_Tape_Range 1 (addI .i64 ((List.length a21 : Nat) : Int) ((List.length a23 : Nat) : Int)) x1.2.1 x1.2.2) fun x3 =>
          some ((Trust.mk x3.1 a21 a23), x3.2.1, x3.2.2)
      else
        Option.bind (mk_Tape_Range 1 (addI .i64 ((List.length a21 : Nat) : Int) ((List.length a23 : Nat) : Int)) a9 a11) fun x4 =>
        some ((Trust.mk x4.1 a21 a23), x4.2.1, x4.2.2)
  ) (mk_trust_l2 a1 a3 a7 a9 a11 a13 a15 a17 a19 a21 a23) :=
  goC_loopAt (T := tn) (o := ⟨[.ag .Trust], [[.lf (.l .i64), .lf (.i .i64)]]⟩) sigOk 100000 (b := codeAt Try.f54 [1, 1, 1, 1, 0, 1, 0, 0, 1, 0, 0]) (by kernel_rfl) (by kernel_rfl)
theorem mk_Tape_Order_l2_le (a1 : List (Int)) (a3 : Int) (a5 : List (Int)) (a7 : Int) : Le (
    bif (ltB 0 a3) then
      Option.bind (mk_Tape_N (addI .i64 a3 1) a5 a7) fun x0 =>
      nth a1 x0.1 fun _ =>
      nth a1 a3 fun _ =>
      nthN a1 (Int.toNat x0.1) fun y1 =>
      nthN a1 (Int.toNat a3) fun y2 =>
      nth a1 a3 fun _ =>
      nthN a1 (Int.toNat a3) fun _y3 =>
      nth (List.set a1 (Int.toNat a3) y1) x0.1 fun _ =>
      nthN (List.set a1 (Int.toNat a3) y1) (Int.toNat x0.1) fun _y4 =>
      mk_Tape_Order_l2 (List.set (List.set a1 (Int.toNat a3) y1) (Int.toNat x0.1) y2) (subI .i64 a3 1) x0.2.1 x0.2.2
    else
      some (a1, a5, a7)
  ) (mk_Tape_Order_l2 a1 a3 a5 a7) :=
  goC_loopAt (T := tn) (o := ⟨[.lf (.l .i64)], [[.lf (.l .i64), .lf (.i .i64)]]⟩) sigOk 100000 (b := codeAt Try.f27 [1, 1, 1, 0, 1, 0, 0]) (by kernel_rfl) (by kernel_rfl)
theorem ref01_Least_l2_le (a0 : List (Int)) (a2 : List (Int)) (a4 : Int) (a6 : Bool) (a8 : List (Int)) (a10 : Int) (a12 : Int) (a14 : List (Int)) (a16 : Int) (a18 : Int) : Le (
    bif (ltB a18 a16) then
      nth a14 a18 fun y0 =>
      bif a6 then
        Option.bind (ref01_Valid y0) fun x1 =>
        bif x1 then
          bif (neB y0 a4) then
            ref01_Least_l2 a0 a2 a4 (!(eqB (andI .i64 y0 a4) y0)) a8 a10 a12 a14 a16 (addI .i64 a18 1)
          else
            ref01_Least_l2 a0 a2 a4 (!false) a8 a10 a12 a14 a16 (addI .i64 a18 1)
        else
          ref01_Least_l2 a0 a2 a4 (!false) a8 a10 a12 a14 a16 (addI .i64 a18 1)
      else
        ref01_Least_l2 a0 a2 a4 false a8 a10 a12 a14 a16 (addI .i64 a18 1)
    else
      bif (!a6) then
        ref01_Least_l1 a0 a2 a8 a10 (addI .i64 a12 1)
      else
        ref01_Least_l3 a0 a2 a4 0 false a8 a10 a12 ((List.length a2 : Nat) : Int) 0
  ) (ref01_Least_l2 a0 a2 a4 a6 a8 a10 a12 a14 a16 a18) :=
  goC_loopAt (T := tn) (o := ⟨[.lf (.l .i64)], []⟩) sigOk 100000 (b := codeAt Try.f37 [1, 1, 0, 1, 0, 0, 1, 1, 0, 0, 1, 1, 0, 1, 0, 0]) (by kernel_rfl) (by kernel_rfl)
theorem nodeset_Least_l2_le (a0 : List (Int)) (a2 : List (Int)) (a4 : Int) (a6 : Int) : Le (
    bif (ltB a6 a4) then
      nth a2 a6 fun y0 =>
      Option.bind (slices_ContainsFunc___int_int___nodeset_Least_2 a0 y0) fun x1 =>
      bif (!x1.1) then
        capOk (List.length a0 + List.length ([x1.2] : List (Int))) <|
        nodeset_Least_l2 (a0 ++ ([x1.2] : List (Int))) a2 a4 (addI .i64 a6 1)
      else
        nodeset_Least_l2 a0 a2 a4 (addI .i64 a6 1)
    else
      some a0
  ) (nodeset_Least_l2 a0 a2 a4 a6) :=
  goC_loopAt (T := tn) (o := ⟨[.lf (.l .i64)], []⟩) sigOk 100000 (b := codeAt Try.f45 [1, 1, 1, 1, 0, 1, 0, 0]) (by kernel_rfl) (by kernel_rfl)
theorem slices_IndexFunc___int_int___nodeset_Least_2_l1_le (a0 : List (Int)) (a3 : Int) (a5 : Int) (a7 : Int) : Le (
    bif (ltB a5 a3) then
      nth a0 a5 fun y0 =>
      Option.bind (nodeset_Least_2 y0 a7) fun x1 =>
      bif x1.1 then
        some (a5, x1.2)
      else
        slices_IndexFunc___int_int___nodeset_Least_2_l1 a0 a3 (addI .i64 a5 1) x1.2
    else
      some ((-1), a7)
  ) (slices_IndexFunc___int_int___nodeset_Least_2_l1 a0 a3 a5 a7) :=
  goC_loopAt (T := tn) (o := ⟨[.lf (.i .i64)], [[.lf (.i .i64)]]⟩) sigOk 100000 (b := codeAt Try.f82 [1, 0, 1, 0, 0]) (by kernel_rfl) (by kernel_rfl)
theorem nodeset_Least_2_le (t_0 : Int) (h0 : Int) : Le (
    some ((eqB (andNotI .i64 t_0 h0) 0), h0)
  ) (nodeset_Least_2 t_0 h0) :=
  callC_le (T := tn) (c := bodyOf Try.f69) (o := ⟨[.lf .b], [[.lf (.i .i64)]]⟩) sigOk 100000 (by kernel_rfl) Try.func69 (by kernel_rfl) (by kernel_rfl) (by kernel_rfl)
theorem slices_insertionSortCmpFunc_int__r__nodeset_Compare_l1_le (a1 : Int) (a3 : Int) (a6 : Int) (a8 : List (Int)) : Le (
    bif (ltB a6 a3) then
      slices_insertionSortCmpFunc_int__r__nodeset_Compare_l2 a1 a3 a6 a6 a8
    else
      some a8
  ) (slices_insertionSortCmpFunc_int__r__nodeset_Compare_l1 a1 a3 a6 a8) :=
  goC_loopAt (T := tn) (o := ⟨[], [[.own .i64 false]]⟩) sigOk 100000 (b := codeAt Try.f87 [1, 0, 0]) (by kernel_rfl) (by kernel_rfl)
theorem slices_heapSortCmpFunc_int__r__nodeset_Compare_l1_le (a2 : Int) (a4 : Int) (a6 : Int) (a8 : Int) (a10 : List (Int)) : Le (
    bif (leB 0 a8) then
      Option.bind (slices_siftDownCmpFunc_int__r__nodeset_Compare a8 a6 a2 a10) fun x0 =>
      slices_heapSortCmpFunc_int__r__nodeset_Compare_l1 a2 a4 a6 (subI .i64 a8 1) x0
    else
      slices_heapSortCmpFunc_int__r__nodeset_Compare_l2 a2 a4 (subI .i64 a6 1) a10
  ) (slices_heapSortCmpFunc_int__r__nodeset_Compare_l1 a2 a4 a6 a8 a10) :=
  goC_loopAt (T := tn) (o := ⟨[], [[.own .i64 false]]⟩) sigOk 100000 (b := codeAt Try.f88 [1, 1, 1, 0, 1, 0, 0]) (by kernel_rfl) (by kernel_rfl)
theorem slices_siftDownCmpFunc_int__r__nodeset_Compare_le (lo_1 : Int) (hi_2 : Int) (first_3 : Int) (h0 : List (Int)) : Le (
    slices_siftDownCmpFunc_int__r__nodeset_Compare_l1 hi_2 first_3 lo_1 h0
  ) (slices_siftDownCmpFunc_int__r__nodeset_Compare lo_1 hi_2 first_3 h0) :=
  callC_le (T := tn) (c := bodyOf Try.f101) (o := ⟨[], [[.own .i64 false]]⟩) sigOk 100000 (by kernel_rfl) Try.func101 (by kernel_rfl) (by kernel_rfl) (by kernel_rfl)
theorem slices_breakPatternsCmpFunc_int__r__nodeset_Compare_l1_le (a1 : Int) (a3 : Int) (a6 : Int) (a8 : Int) (a10 : List (Int)) (a12 : Int) : Le (
    bif (leB a8 (addI .i64 (addI .i64 a1 (mulI .i64 (quoI .i64 a3 4) 2)) 1)) then
      Option.bind (slices_xorshift_Next a12) fun x0 =>
      bif (leB a3 (IntKind.wrap .i64 (andI .u64 x0.1 (subI .u64 a6 1)))) then
        nth a10 (addI .i64 a1 (subI .i64 (IntKind.wrap .i64 (andI .u64 x0.1 (subI .u64 a6 1))) a3)) fun _ =>
        nth a10 a8 fun _ =>
        nthN a10 (Int.toNat (addI .i64 a1 (subI .i64 (IntKind.wrap .i64 (andI .u64 x0.1 (subI .u64 a6 1))) a3))) fun y1 =>
        nthN a10 (Int.toNat a8) fun y2 =>
        nth a10 a8 fun _ =>
        nthN a10 (Int.toNat a8) fun _y3 =>
        nth (List.set a10 (Int.toNat a8) y1) (addI .i64 a1 (subI .i64 (IntKind.wrap .i64 (andI .u64 x0.1 (subI .u64 a6 1))) a3)) fun _ =>
        nthN (List.set a10 (Int.toNat a8) y1) (Int.toNat (addI .i64 a1 (subI .i64 (IntKind.wrap .i64 (andI .u64 x0.1 (subI .u64 a6 1))) a3))) fun _y4 =>
        slices_breakPatternsCmpFunc_int__r__nodeset_Compare_l1 a1 a3 a6 (addI .i64 a8 1) (List.set (List.set a10 (Int.toNat a8) y1) (Int.toNat (addI .i64 a1 (subI .i64 (IntKind.wrap .i64 (andI .u64 x0.1 (subI .u64 a6 1))) a3))) y2) x0.2
      else
        nth a10 (addI .i64 a1 (IntKind.wrap .i64 (andI .u64 x0.1 (subI .u64 a6 1)))) fun _ =>
        nth a10 a8 fun _ =>
        nthN a10 (Int.toNat (addI .i64 a1 (IntKind.wrap .i64 (andI .u64 x0.1 (subI .u64 a6 1))))) fun y5 =>
        nthN a10 (Int.toNat a8) fun y6 =>
        nth a10 a8 fun _ =>
        nthN a10 (Int.toNat a8) fun _y7 =>
        nth (List.set a10 (Int.toNat a8) y5) (addI .i64 a1 (IntKind.wrap .i64 (andI .u64 x0.1 (subI .u64 a6 1)))) fun _ =>
        nthN (List.set a10 (Int.toNat a8) y5) (Int.toNat (addI .i64 a1 (IntKind.wrap .i64 (andI .u64 x0.1 (subI .u64 a6 1))))) fun _y8 =>
        slices_breakPatternsCmpFunc_int__r__nodeset_Compare_l1 a1 a3 a6 (addI .i64 a8 1) (List.set (List.set a10 (Int.toNat a8) y5) (Int.toNat (addI .i64 a1 (IntKind.wrap .i64 (andI .u64 x0.1 (subI .u64 a6 1))))) y6) x0.2
    else
      some a10
  ) (slices_breakPatternsCmpFunc_int__r__nodeset_Compare_l1 a1 a3 a6 a8 a10 a12) :=
  goC_loopAt (T := tn) (o := ⟨[], [[.own .i64 false]]⟩) sigOk 100000 (b := codeAt Try.f89 [1, 1, 0, 1, 1, 1, 0, 0]) (by kernel_rfl) (by kernel_rfl)
theorem slices_xorshift_Next_le (h0 : Int) : Le (
    some ((xorI .u64 (xorI .u64 (xorI .u64 h0 (shlI .u64 h0 13)) (shrI .u64 (xorI .u64 h0 (shlI .u64 h0 13)) 7)) (shlI .u64 (xorI .u64 (xorI .u64 h0 (shlI .u64 h0 13)) (shrI .u64 (xorI .u64 h0 (shlI .u64 h0 13)) 7)) 17)), (xorI .u64 (xorI .u64 (xorI .u64 h0 (shlI .u64 h0 13)) (shrI .u64 (xorI .u64 h0 (shlI .u64 h0 13)) 7)) (shlI .u64 (xorI .u64 (xorI .u64 h0 (shlI .u64 h0 13)) (shrI .u64 (xorI .u64 h0 (shlI .u64 h0 13)) 7)) 17)))
  ) (slices_xorshift_Next h0) :=
  callC_le (T := tn) (c := bodyOf Try.f103) (o := ⟨[.lf (.i .u64)], [[.lf (.i .u64)]]⟩) sigOk 100000 (by kernel_rfl) Try.func103 (by kernel_rfl) (by kernel_rfl) (by kernel_rfl)
theorem slices_reverseRangeCmpFunc_int__r__nodeset_Compare_l1_le (a1 : Int) (a3 : Int) (a5 : List (Int)) : Le (
    bif (ltB a1 a3) then
      nth a5 a3 fun _ =>
      nth a5 a1 fun _ =>
      nthN a5 (Int.toNat a3) fun y0 =>
      nthN a5 (Int.toNat a1) fun y1 =>
      nth a5 a1 fun _ =>
      nthN a5 (Int.toNat a1) fun _y2 =>
      nth (List.set a5 (Int.toNat a1) y0) a3 fun _ =>
      nthN (List.set a5 (Int.toNat a1) y0) (Int.toNat a3) fun _y3 =>
      slices_reverseRangeCmpFunc_int__r__nodeset_Compare_l1 (addI .i64 a1 1) (subI .i64 a3 1) (List.set (List.set a5 (Int.toNat a1) y0) (Int.toNat a3) y1)
    else
      some a5
  ) (slices_reverseRangeCmpFunc_int__r__nodeset_Compare_l1 a1 a3 a5) :=
  goC_loopAt (T := tn) (o := ⟨[], [[.own .i64 false]]⟩) sigOk 100000 (b := codeAt Try.f91 [1, 1, 0, 0]) (by kernel_rfl) (by kernel_rfl)
theorem slices_partialInsertionSortCmpFunc_int__r__nodeset_Compare_l1_le (a1 : Int) (a3 : Int) (a6 : Int) (a8 : Int) (a10 : List (Int)) : Le (
    bif (ltB a8 5) then
      slices_partialInsertionSortCmpFunc_int__r__nodeset_Compare_l2 a1 a3 a6 a8 true a10
    else
      some (false, a10)
  ) (slices_partialInsertionSortCmpFunc_int__r__nodeset_Compare_l1 a1 a3 a6 a8 a10) :=
  goC_loopAt (T := tn) (o := ⟨[.lf .b], [[.own .i64 false]]⟩) sigOk 100000 (b := codeAt Try.f92 [1, 1, 0, 1, 0, 0]) (by kernel_rfl) (by kernel_rfl)
theorem slices_partitionEqualCmpFunc_int__r__nodeset_Compare_l1_le (a1 : Int) (a4 : Int) (a6 : Int) (a8 : List (Int)) : Le (
    slices_partitionEqualCmpFunc_int__r__nodeset_Compare_l2 a1 a4 a6 a8
  ) (slices_partitionEqualCmpFunc_int__r__nodeset_Compare_l1 a1 a4 a6 a8) :=
  goC_loopAt (T := tn) (o := ⟨[.lf (.i .i64)], [[.own .i64 false]]⟩) sigOk 100000 (b := codeAt Try.f93 [1, 1, 1, 0, 0, 0]) (by kernel_rfl) (by kernel_rfl)
theorem slices_partitionCmpFunc_int__r__nodeset_Compare_l1_le (a1 : Int) (a4 : Int) (a6 : Int) (a8 : List (Int)) : Le (
    bif (leB a4 a6) then
      nth a8 a4 fun _ =>
      nth a8 a1 fun _ =>
      nthN a8 (Int.toNat a4) fun y0 =>
      nthN a8 (Int.toNat a1) fun y1 =>
      Option.bind (nodeset_Compare y0 y1) fun x2 =>
      bif (ltB x2 0) then
        slices_partitionCmpFunc_int__r__nodeset_Compare_l1 a1 (addI .i64 a4 1) a6 a8
      else
        slices_partitionCmpFunc_int__r__nodeset_Compare_l2 a1 a4 a6 false a8
    else
      slices_partitionCmpFunc_int__r__nodeset_Compare_l2 a1 a4 a6 false a8
  ) (slices_partitionCmpFunc_int__r__nodeset_Compare_l1 a1 a4 a6 a8) :=
  goC_loopAt (T := tn) (o := ⟨[.lf (.i .i64), .lf .b], [[.own .i64 false]]⟩) sigOk 100000 (b := codeAt Try.f94 [1, 1, 1, 0, 0, 0]) (by kernel_rfl) (by kernel_rfl)
theorem cmp_Or_int__l1_le (a0 : Int) (a2 : List (Int)) (a4 : Int) (a6 : Int) : Le (
    bif (ltB a6 a4) then
      nth a2 a6 fun y0 =>
      bif (neB y0 a0) then
        some y0
      else
        cmp_Or_int__l1 a0 a2 a4 (addI .i64 a6 1)
    else
      some a0
  ) (cmp_Or_int__l1 a0 a2 a4 a6) :=
  goC_loopAt (T := tn) (o := ⟨[.lf (.i .i64)], []⟩) sigOk 100000 (b := codeAt Try.f79 [1, 1, 0, 1, 0, 0]) (by kernel_rfl) (by kernel_rfl)
theorem law11_BlockingAnswers_l5_le (a0 : Int) (a2 : Int) (a4 : List (Int)) (a8 : Int) (a10 : List (Config)) (a12 : Int) (a14 : Int) (a16 : List (Int)) (a18 : Int) (a20 : Int) (a22 : List (List (Int))) (a24 : Int) (a26 : Int) (a28 : List (Member)) (a30 : List (Int)) (a32 : Int) (a34 : List (Member)) (a36 : List (Member)) : Le (
    bif (ltB a26 a24) then
      nth a22 a26 fun y0 =>
      Option.bind (blocking_Check (Config.mk a36) a8 y0) fun x1 =>
      Option.bind (ref11_Check (Config.mk a36) a8 y0) fun x2 =>
      bif (neB x1.1 x2.1) then
        some false
      else
        bif (neB x1.2 x2.2) then
          some false
        else
          law11_BlockingAnswers_l5 a0 a2 a4 a8 a10 a12 a14 a16 a18 a20 a22 a24 (addI .i64 a26 1) a28 a30 a32 a34 a36
    else
      law11_BlockingAnswers_l4 a0 a2 a4 a10 a12 a14 a16 a18 (addI .i64 a20 1) a28 a30 a32 a34 a36
  ) (law11_BlockingAnswers_l5 a0 a2 a4 a8 a10 a12 a14 a16 a18 a20 a22 a24 a26 a28 a30 a32 a34 a36) :=
  goC_loopAt (T := tn) (o := ⟨[.lf .b], []⟩) sigOk 100000 (b := codeAt Try.f6 [1, 1, 1, 1, 0, 1, 0, 0, 1, 1, 0, 0, 1, 1, 1, 0, 0, 1, 1, 0, 0, 1, 1, 1, 1, 1, 0, 0]) (by kernel_rfl) (by kernel_rfl)
theorem ref11_Check_le (c_0 : Config) (s_1 : Int) (l_2 : List (Int)) : Le (
    Option.bind (ref01_Valid s_1) fun x0 =>
    bif (!x0) then
      some (0, 1)
    else
      ref11_Check_l1 s_1 l_2 ((List.length l_2 : Nat) : Int) 0 c_0.Members
  ) (ref11_Check c_0 s_1 l_2) :=
  callC_le (T := tn) (c := bodyOf Try.f29) (o := ⟨[.lf (.i .i64), .lf (.i .i64)], []⟩) sigOk 100000 (by kernel_rfl) Try.func29 (by kernel_rfl) (by kernel_rfl) (by kernel_rfl)
theorem ref11_Cascade_l1_le (a0 : Int) (a3 : List (Int)) (a5 : Int) (a7 : List (Member)) : Le (
    bif (leB 0 a5) then
      chk (0 ≤ a5) <|
      capOk (List.length a3 + List.length ([a5] : List (Int))) <|
      Option.bind (ref11_next (Config.mk a7) (orI .i64 a0 (shlI .i64 1 a5))) fun x0 =>
      ref11_Cascade_l1 (orI .i64 a0 (shlI .i64 1 a5)) (a3 ++ ([a5] : List (Int))) x0 a7
    else
      some (a3, a0)
  ) (ref11_Cascade_l1 a0 a3 a5 a7) :=
  goC_loopAt (T := tn) (o := ⟨[.lf (.l .i64), .lf (.i .i64)], []⟩) sigOk 100000 (b := codeAt Try.f26 [1, 1, 1, 0, 1, 0, 0]) (by kernel_rfl) (by kernel_rfl)
theorem ref11_next_l1_le (a0 : Int) (a3 : List (Int)) (a5 : Int) (a7 : Int) (a9 : List (Member)) : Le (
    bif (ltB a7 a5) then
      nth a3 a7 fun y0 =>
      Option.bind (ref01_Has a0 y0) fun x1 =>
      bif (!x1) then
        Option.bind (ref11_Blocks (Config.mk a9) y0 a0) fun x2 =>
        bif x2 then
          some y0
        else
          ref11_next_l1 a0 a3 a5 (addI .i64 a7 1) a9
      else
        ref11_next_l1 a0 a3 a5 (addI .i64 a7 1) a9
    else
      some (-1)
  ) (ref11_next_l1 a0 a3 a5 a7 a9) :=
  goC_loopAt (T := tn) (o := ⟨[.lf (.i .i64)], []⟩) sigOk 100000 (b := codeAt Try.f53 [1, 0, 1, 0, 0]) (by kernel_rfl) (by kernel_rfl)
theorem ref11_Least_l2_le (a0 : Int) (a3 : List (Int)) (a5 : Int) (a7 : Bool) (a9 : List (Int)) (a11 : Int) (a13 : Int) (a15 : List (Member)) : Le (
    bif (ltB a13 a11) then
      nth a9 a13 fun y0 =>
      bif a7 then
        chk (0 ≤ y0) <|
        Option.bind (ref11_Blocks (Config.mk a15) a0 (subI .i64 a5 (shlI .i64 1 y0))) fun x1 =>
        ref11_Least_l2 a0 a3 a5 (!x1) a9 a11 (addI .i64 a13 1) a15
      else
        ref11_Least_l2 a0 a3 a5 false a9 a11 (addI .i64 a13 1) a15
    else
      bif a7 then
        capOk (List.length a3 + List.length ([a5] : List (Int))) <|
        ref11_Least_l1 a0 (a3 ++ ([a5] : List (Int))) (addI .i64 a5 1) a15
      else
        ref11_Least_l1 a0 a3 (addI .i64 a5 1) a15
  ) (ref11_Least_l2 a0 a3 a5 a7 a9 a11 a13 a15) :=
  goC_loopAt (T := tn) (o := ⟨[.lf (.l .i64), .lf (.i .i64)], []⟩) sigOk 100000 (b := codeAt Try.f24 [1, 1, 1, 1, 1, 0, 1, 0, 0, 1, 0, 0, 1, 1, 0, 1, 0, 0]) (by kernel_rfl) (by kernel_rfl)
theorem ref02_Same_l1_le (a2 : Int) (a4 : Int) (a6 : Int) (a8 : List (Int)) (a10 : List (Trust)) (a12 : Int) (a14 : List (Int)) (a16 : List (Trust)) : Le (
    bif (ltB a4 a2) then
      nth a10 a4 fun y0 =>
      nth a16 a4 fun y1 =>
      Option.bind (ref02_Same y0 y1) fun x2 =>
      bif (!x2) then
        some false
      else
        ref02_Same_l1 a2 (addI .i64 a4 1) a6 a8 a10 a12 a14 a16
    else
      some true
  ) (ref02_Same_l1 a2 a4 a6 a8 a10 a12 a14 a16) :=
  goC_loopAt (T := tn) (o := ⟨[.lf .b], []⟩) sigOk 100000 (b := codeAt Try.f71 [1, 1, 0, 1, 0, 0]) (by kernel_rfl) (by kernel_rfl)
theorem ref02_Uses_l1_le (a1 : Int) (a3 : List (Int)) (a5 : Int) (a7 : Int) (a9 : Int) (a11 : List (Int)) (a13 : List (Trust)) : Le (
    bif (ltB a7 a5) then
      nth a3 a7 fun y0 =>
      bif (leB 0 y0) then
        bif (ltB y0 10) then
          chk (0 ≤ y0) <|
          ref02_Uses_l1 (orI .i64 a1 (shlI .i64 1 y0)) a3 a5 (addI .i64 a7 1) a9 a11 a13
        else
          ref02_Uses_l1 a1 a3 a5 (addI .i64 a7 1) a9 a11 a13
      else
        ref02_Uses_l1 a1 a3 a5 (addI .i64 a7 1) a9 a11 a13
    else
      ref02_Uses_l2 a1 a13 ((List.length a13 : Nat) : Int) 0 a9 a11 a13
  ) (ref02_Uses_l1 a1 a3 a5 a7 a9 a11 a13) :=
  goC_loopAt (T := tn) (o := ⟨[.lf (.i .i64)], []⟩) sigOk 100000 (b := codeAt Try.f72 [1, 1, 0, 1, 0, 0]) (by kernel_rfl) (by kernel_rfl)
theorem ref01_Same_l1_le (a0 : List (Int)) (a2 : List (Int)) (a4 : Int) (a6 : Int) : Le (
    bif (ltB a6 a4) then
      nth a0 a6 fun y0 =>
      nth a2 a6 fun y1 =>
      bif (neB y0 y1) then
        some false
      else
        ref01_Same_l1 a0 a2 a4 (addI .i64 a6 1)
    else
      some true
  ) (ref01_Same_l1 a0 a2 a4 a6) :=
  goC_loopAt (T := tn) (o := ⟨[.lf .b], []⟩) sigOk 100000 (b := codeAt Try.f83 [1, 1, 0, 1, 0, 0]) (by kernel_rfl) (by kernel_rfl)
theorem ref01_Least_l3_le (a0 : List (Int)) (a2 : List (Int)) (a4 : Int) (a6 : Int) (a8 : Bool) (a10 : List (Int)) (a12 : Int) (a14 : Int) (a17 : Int) (a19 : Int) : Le (
    bif (ltB a19 a17) then
      nth a2 a19 fun _ =>
      nthN a2 (Int.toNat a19) fun y0 =>
      bif a8 then
        Option.bind (ref01_Compare y0 a4) fun x1 =>
        bif (ltB x1 0) then
          ref01_Least_l3 a0 a2 a4 (addI .i64 a19 1) true a10 a12 a14 a17 (addI .i64 a19 1)
        else
          ref01_Least_l3 a0 a2 a4 a6 true a10 a12 a14 a17 (addI .i64 a19 1)
      else
        Option.bind (ref01_Compare y0 a4) fun x2 =>
        bif (ltB x2 0) then
          ref01_Least_l3 a0 a2 a4 (addI .i64 a19 1) (eqB a4 y0) a10 a12 a14 a17 (addI .i64 a19 1)
        else
          ref01_Least_l3 a0 a2 a4 a6 (eqB a4 y0) a10 a12 a14 a17 (addI .i64 a19 1)
    else
      bif (!a8) then
        capOk (List.length a2 + List.length ([0] : List (Int))) <|
        hiK (List.length (a2 ++ ([0] : List (Int)))) (addI .i64 a6 1) fun b3 =>
        hiK (List.length (a2 ++ ([0] : List (Int)))) a6 fun b4 =>
        chk ((List.length (a2 ++ ([0] : List (Int)))) ≤ List.length (a2 ++ ([0] : List (Int)))) <|
        chk ((List.length (a2 ++ ([0] : List (Int)))) ≤ List.length (a2 ++ ([0] : List (Int)))) <|
        nth (List.take b3 (a2 ++ ([0] : List (Int))) ++ List.take ((List.length (a2 ++ ([0] : List (Int)))) - b3) (List.drop b4 (List.take (List.length (a2 ++ ([0] : List (Int)))) (a2 ++ ([0] : List (Int))))) ++ List.drop (b3 + (min ((List.length (a2 ++ ([0] : List (Int)))) - b3) (List.length (List.drop b4 (List.take (List.length (a2 ++ ([0] : List (Int)))) (a2 ++ ([0] : List (Int)))))))) (a2 ++ ([0] : List (Int)))) a6 fun _ =>
        nthN (List.take b3 (a2 ++ ([0] : List (Int))) ++ List.take ((List.length (a2 ++ ([0] : List (Int)))) - b3) (List.drop b4 (List.take (List.length (a2 ++ ([0] : List (Int)))) (a2 ++ ([0] : List (Int))))) ++ List.drop (b3 + (min ((List.length (a2 ++ ([0] : List (Int)))) - b3) (List.length (List.drop b4 (List.take (List.length (a2 ++ ([0] : List (Int)))) (a2 ++ ([0] : List (Int)))))))) (a2 ++ ([0] : List (Int)))) (Int.toNat a6) fun _y5 =>
        ref01_Least_l1 a0 (List.set (List.take b3 (a2 ++ ([0] : List (Int))) ++ List.take ((List.length (a2 ++ ([0] : List (Int)))) - b3) (List.drop b4 (List.take (List.length (a2 ++ ([0] : List (Int)))) (a2 ++ ([0] : List (Int))))) ++ List.drop (b3 + (min ((List.length (a2 ++ ([0] : List (Int)))) - b3) (List.length (List.drop b4 (List.take (List.length (a2 ++ ([0] : List (Int)))) (a2 ++ ([0] : List (Int)))))))) (a2 ++ ([0] : List (Int)))) (Int.toNat a6) a4) a10 a12 (addI .i64 a14 1)
      else
        ref01_Least_l1 a0 a2 a10 a12 (addI .i64 a14 1)
  ) (ref01_Least_l3 a0 a2 a4 a6 a8 a10 a12 a14 a17 a19) :=
  goC_loopAt (T := tn) (o := ⟨[.lf (.l .i64)], []⟩) sigOk 100000 (b := codeAt Try.f37 [1, 1, 0, 1, 0, 0, 1, 1, 0, 0, 1, 1, 1, 1, 1, 0, 1, 0, 0]) (by kernel_rfl) (by kernel_rfl)
theorem ref01_Compare_le (a_0 : Int) (b_1 : Int) : Le (
    Option.bind (ref01_Valid a_0) fun x0 =>
    bif x0 then
      Option.bind (ref01_Size a_0) fun x1 =>
      Option.bind (ref01_Valid b_1) fun x2 =>
      bif x2 then
        Option.bind (ref01_Size b_1) fun x3 =>
        bif (ltB x1 x3) then
          some (-1)
        else
          bif (eqB x1 x3) then
            bif (ltB a_0 b_1) then
              some (-1)
            else
              bif (eqB x1 x3) then
                bif (eqB a_0 b_1) then
                  some 0
                else
                  some 1
              else
                some 1
          else
            bif (eqB x1 x3) then
              bif (eqB a_0 b_1) then
                some 0
              else
                some 1
            else
              some 1
      else
        bif (ltB x1 (-1)) then
          some (-1)
        else
          bif (eqB x1 (-1)) then
            bif (ltB a_0 b_1) then
              some (-1)
            else
              bif (eqB x1 (-1)) then
                bif (eqB a_0 b_1) then
                  some 0
                else
                  some 1
              else
                some 1
          else
            bif (eqB x1 (-1)) then
              bif (eqB a_0 b_1) then
                some 0
              else
                some 1
            else
              some 1
    else
      Option.bind (ref01_Valid b_1) fun x4 =>
      bif x4 then
        Option.bind (ref01_Size b_1) fun x5 =>
        bif (ltB (-1) x5) then
          some (-1)
        else
          bif (eqB (-1) x5) then
            bif (ltB a_0 b_1) then
              some (-1)
            else
              bif (eqB (-1) x5) then
                bif (eqB a_0 b_1) then
                  some 0
                else
                  some 1
              else
                some 1
          else
            bif (eqB (-1) x5) then
              bif (eqB a_0 b_1) then
                some 0
              else
                some 1
            else
              some 1
      else
        bif (ltB a_0 b_1) then
          some (-1)
        else
          bif (eqB a_0 b_1) then
            some 0
          else
            some 1
  ) (ref01_Compare a_0 b_1) :=
  callC_le (T := tn) (c := bodyOf Try.f59) (o := ⟨[.lf (.i .i64)], []⟩) sigOk 100000 (by kernel_rfl) Try.func59 (by kernel_rfl) (by kernel_rfl) (by kernel_rfl)
theorem ref01_Size_le (s_0 : Int) : Le (
    ref01_Size_l1 s_0 0 0
  ) (ref01_Size s_0) :=
  callC_le (T := tn) (c := bodyOf Try.f74) (o := ⟨[.lf (.i .i64)], []⟩) sigOk 100000 (by kernel_rfl) Try.func74 (by kernel_rfl) (by kernel_rfl) (by kernel_rfl)
theorem slices_insertionSortCmpFunc_int__r__nodeset_Compare_l2_le (a1 : Int) (a3 : Int) (a6 : Int) (a8 : Int) (a10 : List (Int)) : Le (
    bif (ltB a1 a8) then
      nth a10 a8 fun _ =>
      nth a10 (subI .i64 a8 1) fun _ =>
      nthN a10 (Int.toNat a8) fun y0 =>
      nthN a10 (Int.toNat (subI .i64 a8 1)) fun y1 =>
      Option.bind (nodeset_Compare y0 y1) fun x2 =>
      bif (ltB x2 0) then
        nth a10 (subI .i64 a8 1) fun _ =>
        nth a10 a8 fun _ =>
        nthN a10 (Int.toNat (subI .i64 a8 1)) fun y3 =>
        nthN a10 (Int.toNat a8) fun y4 =>
        nth a10 a8 fun _ =>
        nthN a10 (Int.toNat a8) fun _y5 =>
        nth (List.set a10 (Int.toNat a8) y3) (subI .i64 a8 1) fun _ =>
        nthN (List.set a10 (Int.toNat a8) y3) (Int.toNat (subI .i64 a8 1)) fun _y6 =>
        slices_insertionSortCmpFunc_int__r__nodeset_Compare_l2 a1 a3 a6 (subI .i64 a8 1) (List.set (List.set a10 (Int.toNat a8) y3) (Int.toNat (subI .i64 a8 1)) y4)
      else
        slices_insertionSortCmpFunc_int__r__nodeset_Compare_l1 a1 a3 (addI .i64 a6 1) a10
    else
      slices_insertionSortCmpFunc_int__r__nodeset_Compare_l1 a1 a3 (addI .i64 a6 1) a10
  ) (slices_insertionSortCmpFunc_int__r__nodeset_Compare_l2 a1 a3 a6 a8 a10) :=
  goC_loopAt (T := tn) (o := ⟨[], [[.own .i64 false]]⟩) sigOk 100000 (b := codeAt Try.f87 [1, 0, 0, 1, 0, 0, 1, 0, 0]) (by kernel_rfl) (by kernel_rfl)
theorem slices_heapSortCmpFunc_int__r__nodeset_Compare_l2_le (a2 : Int) (a4 : Int) (a6 : Int) (a8 : List (Int)) : Le (
    bif (leB 0 a6) then
      nth a8 (addI .i64 a2 a6) fun _ =>
      nth a8 a2 fun _ =>
      nthN a8 (Int.toNat (addI .i64 a2 a6)) fun y0 =>
      nthN a8 (Int.toNat a2) fun y1 =>
      nth a8 a2 fun _ =>
      nthN a8 (Int.toNat a2) fun _y2 =>
      nth (List.set a8 (Int.toNat a2) y0) (addI .i64 a2 a6) fun _ =>
      nthN (List.set a8 (Int.toNat a2) y0) (Int.toNat (addI .i64 a2 a6)) fun _y3 =>
      Option.bind (slices_siftDownCmpFunc_int__r__nodeset_Compare a4 a6 a2 (List.set (List.set a8 (Int.toNat a2) y0) (Int.toNat (addI .i64 a2 a6)) y1)) fun x4 =>
      slices_heapSortCmpFunc_int__r__nodeset_Compare_l2 a2 a4 (subI .i64 a6 1) x4
    else
      some a8
  ) (slices_heapSortCmpFunc_int__r__nodeset_Compare_l2 a2 a4 a6 a8) :=
  goC_loopAt (T := tn) (o := ⟨[], [[.own .i64 false]]⟩) sigOk 100000 (b := codeAt Try.f88 [1, 1, 1, 1, 1, 0, 0]) (by kernel_rfl) (by kernel_rfl)
theorem slices_siftDownCmpFunc_int__r__nodeset_Compare_l1_le (a1 : Int) (a3 : Int) (a6 : Int) (a8 : List (Int)) : Le (
    bif (leB a1 (addI .i64 (mulI .i64 2 a6) 1)) then
      some a8
    else
      bif (ltB (addI .i64 (addI .i64 (mulI .i64 2 a6) 1) 1) a1) then
        nth a8 (addI .i64 a3 (addI .i64 (mulI .i64 2 a6) 1)) fun _ =>
        nth a8 (addI .i64 (addI .i64 a3 (addI .i64 (mulI .i64 2 a6) 1)) 1) fun _ =>
        nthN a8 (Int.toNat (addI .i64 a3 (addI .i64 (mulI .i64 2 a6) 1))) fun y0 =>
        nthN a8 (Int.toNat (addI .i64 (addI .i64 a3 (addI .i64 (mulI .i64 2 a6) 1)) 1)) fun y1 =>
        Option.bind (nodeset_Compare y0 y1) fun x2 =>
        bif (ltB x2 0) then
          nth a8 (addI .i64 a3 a6) fun _ =>
          nth a8 (addI .i64 a3 (addI .i64 (addI .i64 (mulI .i64 2 a6) 1) 1)) fun _ =>
          nthN a8 (Int.toNat (addI .i64 a3 a6)) fun y3 =>
          nthN a8 (Int.toNat (addI .i64 a3 (addI .i64 (addI .i64 (mulI .i64 2 a6) 1) 1))) fun y4 =>
          Option.bind (nodeset_Compare y3 y4) fun x5 =>
          bif (!(ltB x5 0)) then
            some a8
          else
            nth a8 (addI .i64 a3 (addI .i64 (addI .i64 (mulI .i64 2 a6) 1) 1)) fun _ =>
            nth a8 (addI .i64 a3 a6) fun _ =>
            nthN a8 (Int.toNat (addI .i64 a3 (addI .i64 (addI .i64 (mulI .i64 2 a6) 1) 1))) fun y6 =>
            nthN a8 (Int.toNat (addI .i64 a3 a6)) fun y7 =>
            nth a8 (addI .i64 a3 a6) fun _ =>
            nthN a8 (Int.toNat (addI .i64 a3 a6)) fun _y8 =>
            nth (List.set a8 (Int.toNat (addI .i64 a3 a6)) y6) (addI .i64 a3 (addI .i64 (addI .i64 (mulI .i64 2 a6) 1) 1)) fun _ =>
            nthN (List.set a8 (Int.toNat (addI .i64 a3 a6)) y6) (Int.toNat (addI .i64 a3 (addI .i64 (addI .i64 (mulI .i64 2 a6) 1) 1))) fun _y9 =>
            slices_siftDownCmpFunc_int__r__nodeset_Compare_l1 a1 a3 (addI .i64 (addI .i64 (mulI .i64 2 a6) 1) 1) (List.set (List.set a8 (Int.toNat (addI .i64 a3 a6)) y6) (Int.toNat (addI .i64 a3 (addI .i64 (addI .i64 (mulI .i64 2 a6) 1) 1))) y7)
        else
          nth a8 (addI .i64 a3 a6) fun _ =>
          nth a8 (addI .i64 a3 (addI .i64 (mulI .i64 2 a6) 1)) fun _ =>
          nthN a8 (Int.toNat (addI .i64 a3 a6)) fun y10 =>
          nthN a8 (Int.toNat (addI .i64 a3 (addI .i64 (mulI .i64 2 a6) 1))) fun y11 =>
          Option.bind (nodeset_Compare y10 y11) fun x12 =>
          bif (!(ltB x12 0)) then
            some a8
          else
            nth a8 (addI .i64 a3 (addI .i64 (mulI .i64 2 a6) 1)) fun _ =>
            nth a8 (addI .i64 a3 a6) fun _ =>
            nthN a8 (Int.toNat (addI .i64 a3 (addI .i64 (mulI .i64 2 a6) 1))) fun y13 =>
            nthN a8 (Int.toNat (addI .i64 a3 a6)) fun y14 =>
            nth a8 (addI .i64 a3 a6) fun _ =>
            nthN a8 (Int.toNat (addI .i64 a3 a6)) fun _y15 =>
            nth (List.set a8 (Int.toNat (addI .i64 a3 a6)) y13) (addI .i64 a3 (addI .i64 (mulI .i64 2 a6) 1)) fun _ =>
            nthN (List.set a8 (Int.toNat (addI .i64 a3 a6)) y13) (Int.toNat (addI .i64 a3 (addI .i64 (mulI .i64 2 a6) 1))) fun _y16 =>
            slices_siftDownCmpFunc_int__r__nodeset_Compare_l1 a1 a3 (addI .i64 (mulI .i64 2 a6) 1) (List.set (List.set a8 (Int.toNat (addI .i64 a3 a6)) y13) (Int.toNat (addI .i64 a3 (addI .i64 (mulI .i64 2 a6) 1))) y14)
      else
        nth a8 (addI .i64 a3 a6) fun _ =>
        nth a8 (addI .i64 a3 (addI .i64 (mulI .i64 2 a6) 1)) fun _ =>
        nthN a8 (Int.toNat (addI .i64 a3 a6)) fun y17 =>
        nthN a8 (Int.toNat (addI .i64 a3 (addI .i64 (mulI .i64 2 a6) 1))) fun y18 =>
        Option.bind (nodeset_Compare y17 y18) fun x19 =>
        bif (!(ltB x19 0)) then
          some a8
        else
          nth a8 (addI .i64 a3 (addI .i64 (mulI .i64 2 a6) 1)) fun _ =>
          nth a8 (addI .i64 a3 a6) fun _ =>
          nthN a8 (Int.toNat (addI .i64 a3 (addI .i64 (mulI .i64 2 a6) 1))) fun y20 =>
          nthN a8 (Int.toNat (addI .i64 a3 a6)) fun y21 =>
          nth a8 (addI .i64 a3 a6) fun _ =>
          nthN a8 (Int.toNat (addI .i64 a3 a6)) fun _y22 =>
          nth (List.set a8 (Int.toNat (addI .i64 a3 a6)) y20) (addI .i64 a3 (addI .i64 (mulI .i64 2 a6) 1)) fun _ =>
          nthN (List.set a8 (Int.toNat (addI .i64 a3 a6)) y20) (Int.toNat (addI .i64 a3 (addI .i64 (mulI .i64 2 a6) 1))) fun _y23 =>
          slices_siftDownCmpFunc_int__r__nodeset_Compare_l1 a1 a3 (addI .i64 (mulI .i64 2 a6) 1) (List.set (List.set a8 (Int.toNat (addI .i64 a3 a6)) y20) (Int.toNat (addI .i64 a3 (addI .i64 (mulI .i64 2 a6) 1))) y21)
  ) (slices_siftDownCmpFunc_int__r__nodeset_Compare_l1 a1 a3 a6 a8) :=
  goC_loopAt (T := tn) (o := ⟨[], [[.own .i64 false]]⟩) sigOk 100000 (b := codeAt Try.f101 [1, 0, 0]) (by kernel_rfl) (by kernel_rfl)
theorem slices_partialInsertionSortCmpFunc_int__r__nodeset_Compare_l2_le (a1 : Int) (a3 : Int) (a6 : Int) (a8 : Int) (a10 : Bool) (a12 : List (Int)) : Le (
    bif (ltB a6 a3) then
      nth a12 a6 fun _ =>
      nth a12 (subI .i64 a6 1) fun _ =>
      nthN a12 (Int.toNat a6) fun y0 =>
      nthN a12 (Int.toNat (subI .i64 a6 1)) fun y1 =>
      Option.bind (nodeset_Compare y0 y1) fun x2 =>
      bif (!(ltB x2 0)) then
        slices_partialInsertionSortCmpFunc_int__r__nodeset_Compare_l3 a1 a3 (addI .i64 a6 1) a8 a12
      else
        bif (eqB a6 a3) then
          some (true, a12)
        else
          bif (ltB (subI .i64 a3 a1) 50) then
            some (false, a12)
          else
            nth a12 (subI .i64 a6 1) fun _ =>
            nth a12 a6 fun _ =>
            nthN a12 (Int.toNat (subI .i64 a6 1)) fun y3 =>
            nthN a12 (Int.toNat a6) fun y4 =>
            nth a12 a6 fun _ =>
            nthN a12 (Int.toNat a6) fun _y5 =>
            nth (List.set a12 (Int.toNat a6) y3) (subI .i64 a6 1) fun _ =>
            nthN (List.set a12 (Int.toNat a6) y3) (Int.toNat (subI .i64 a6 1)) fun _y6 =>
            bif (leB 2 (subI .i64 a6 a1)) then
              slices_partialInsertionSortCmpFunc_int__r__nodeset_Compare_l4 a1 a3 a6 a8 (subI .i64 a6 1) (List.set (List.set a12 (Int.toNat a6) y3) (Int.toNat (subI .i64 a6 1)) y4)
            else
              bif (leB 2 (subI .i64 a3 a6)) then
                slices_partialInsertionSortCmpFunc_int__r__nodeset_Compare_l5 a1 a3 a6 a8 (addI .i64 a6 1) (List.set (List.set a12 (Int.toNat a6) y3) (Int.toNat (subI .i64 a6 1)) y4)
              else
                slices_partialInsertionSortCmpFunc_int__r__nodeset_Compare_l1 a1 a3 a6 (addI .i64 a8 1) (List.set (List.set a12 (Int.toNat a6) y3) (Int.toNat (subI .i64 a6 1)) y4)
    else
      bif (eqB a6 a3) then
        some (true, a12)
      else
        bif (ltB (subI .i64 a3 a1) 50) then
          some (false, a12)
        else
          nth a12 (subI .i64 a6 1) fun _ =>
          nth a12 a6 fun _ =>
          nthN a12 (Int.toNat (subI .i64 a6 1)) fun y7 =>
          nthN a12 (Int.toNat a6) fun y8 =>
          nth a12 a6 fun _ =>
          nthN a12 (Int.toNat a6) fun _y9 =>
          nth (List.set a12 (Int.toNat a6) y7) (subI .i64 a6 1) fun _ =>
          nthN (List.set a12 (Int.toNat a6) y7) (Int.toNat (subI .i64 a6 1)) fun _y10 =>
          bif (leB 2 (subI .i64 a6 a1)) then
            slices_partialInsertionSortCmpFunc_int__r__nodeset_Compare_l4 a1 a3 a6 a8 (subI .i64 a6 1) (List.set (List.set a12 (Int.toNat a6) y7) (Int.toNat (subI .i64 a6 1)) y8)
          else
            bif (leB 2 (subI .i64 a3 a6)) then
              slices_partialInsertionSortCmpFunc_int__r__nodeset_Compare_l5 a1 a3 a6 a8 (addI .i64 a6 1) (List.set (List.set a12 (Int.toNat a6) y7) (Int.toNat (subI .i64 a6 1)) y8)
            else
              slices_partialInsertionSortCmpFunc_int__r__nodeset_Compare_l1 a1 a3 a6 (addI .i64 a8 1) (List.set (List.set a12 (Int.toNat a6) y7) (Int.toNat (subI .i64 a6 1)) y8)
  ) (slices_partialInsertionSortCmpFunc_int__r__nodeset_Compare_l2 a1 a3 a6 a8 a10 a12) :=
  goC_loopAt (T := tn) (o := ⟨[.lf .b], [[.own .i64 false]]⟩) sigOk 100000 (b := codeAt Try.f92 [1, 1, 0, 1, 0, 0, 1, 0, 0, 0, 0, 0]) (by kernel_rfl) (by kernel_rfl)
theorem slices_partitionEqualCmpFunc_int__r__nodeset_Compare_l2_le (a1 : Int) (a4 : Int) (a6 : Int) (a8 : List (Int)) : Le (
    bif (leB a4 a6) then
      nth a8 a1 fun _ =>
      nth a8 a4 fun _ =>
      nthN a8 (Int.toNat a1) fun y0 =>
      nthN a8 (Int.toNat a4) fun y1 =>
      Option.bind (nodeset_Compare y0 y1) fun x2 =>
      bif (!(ltB x2 0)) then
        slices_partitionEqualCmpFunc_int__r__nodeset_Compare_l2 a1 (addI .i64 a4 1) a6 a8
      else
        slices_partitionEqualCmpFunc_int__r__nodeset_Compare_l3 a1 a4 a6 false a8
    else
      slices_partitionEqualCmpFunc_int__r__nodeset_Compare_l3 a1 a4 a6 false a8
  ) (slices_partitionEqualCmpFunc_int__r__nodeset_Compare_l2 a1 a4 a6 a8) :=
  goC_loopAt (T := tn) (o := ⟨[.lf (.i .i64)], [[.own .i64 false]]⟩) sigOk 100000 (b := codeAt Try.f93 [1, 1, 1, 0, 0, 0, 0, 0, 0, 0]) (by kernel_rfl) (by kernel_rfl)
theorem slices_partitionCmpFunc_int__r__nodeset_Compare_l2_le (a1 : Int) (a4 : Int) (a6 : Int) (a8 : Bool) (a10 : List (Int)) : Le (
    bif (leB a4 a6) then
      nth a10 a6 fun _ =>
      nth a10 a1 fun _ =>
      nthN a10 (Int.toNat a6) fun y0 =>
      nthN a10 (Int.toNat a1) fun y1 =>
      Option.bind (nodeset_Compare y0 y1) fun x2 =>
      bif (!(ltB x2 0)) then
        slices_partitionCmpFunc_int__r__nodeset_Compare_l3 a1 a4 (subI .i64 a6 1) a10
      else
        bif (ltB a6 a4) then
          nth a10 a1 fun _ =>
          nth a10 a6 fun _ =>
          nthN a10 (Int.toNat a1) fun y3 =>
          nthN a10 (Int.toNat a6) fun y4 =>
          nth a10 a6 fun _ =>
          nthN a10 (Int.toNat a6) fun _y5 =>
          nth (List.set a10 (Int.toNat a6) y3) a1 fun _ =>
          nthN (List.set a10 (Int.toNat a6) y3) (Int.toNat a1) fun _y6 =>
          some (a6, true, (List.set (List.set a10 (Int.toNat a6) y3) (Int.toNat a1) y4))
        else
          nth a10 a6 fun _ =>
          nth a10 a4 fun _ =>
          nthN a10 (Int.toNat a6) fun y7 =>
          nthN a10 (Int.toNat a4) fun y8 =>
          nth a10 a4 fun _ =>
          nthN a10 (Int.toNat a4) fun _y9 =>
          nth (List.set a10 (Int.toNat a4) y7) a6 fun _ =>
          nthN (List.set a10 (Int.toNat a4) y7) (Int.toNat a6) fun _y10 =>
          slices_partitionCmpFunc_int__r__nodeset_Compare_l4 a1 (addI .i64 a4 1) (subI .i64 a6 1) (List.set (List.set a10 (Int.toNat a4) y7) (Int.toNat a6) y8)
    else
      bif (ltB a6 a4) then
        nth a10 a1 fun _ =>
        nth a10 a6 fun _ =>
        nthN a10 (Int.toNat a1) fun y11 =>
        nthN a10 (Int.toNat a6) fun y12 =>
        nth a10 a6 fun _ =>
        nthN a10 (Int.toNat a6) fun _y13 =>
        nth (List.set a10 (Int.toNat a6) y11) a1 fun _ =>
        nthN (List.set a10 (Int.toNat a6) y11) (Int.toNat a1) fun _y14 =>
        some (a6, true, (List.set (List.set a10 (Int.toNat a6) y11) (Int.toNat a1) y12))
      else
        nth a10 a6 fun _ =>
        nth a10 a4 fun _ =>
        nthN a10 (Int.toNat a6) fun y15 =>
        nthN a10 (Int.toNat a4) fun y16 =>
        nth a10 a4 fun _ =>
        nthN a10 (Int.toNat a4) fun _y17 =>
        nth (List.set a10 (Int.toNat a4) y15) a6 fun _ =>
        nthN (List.set a10 (Int.toNat a4) y15) (Int.toNat a6) fun _y18 =>
        slices_partitionCmpFunc_int__r__nodeset_Compare_l4 a1 (addI .i64 a4 1) (subI .i64 a6 1) (List.set (List.set a10 (Int.toNat a4) y15) (Int.toNat a6) y16)
  ) (slices_partitionCmpFunc_int__r__nodeset_Compare_l2 a1 a4 a6 a8 a10) :=
  goC_loopAt (T := tn) (o := ⟨[.lf (.i .i64), .lf .b], [[.own .i64 false]]⟩) sigOk 100000 (b := codeAt Try.f94 [1, 1, 1, 1, 0, 0, 0]) (by kernel_rfl) (by kernel_rfl)
theorem ref11_Check_l1_le (a0 : Int) (a3 : List (Int)) (a5 : Int) (a7 : Int) (a9 : List (Member)) : Le (
    bif (ltB a7 a5) then
      nth a3 a7 fun y0 =>
      Option.bind (ref01_Has a0 y0) fun x1 =>
      bif x1 then
        some (0, 12)
      else
        Option.bind (ref11_Blocks (Config.mk a9) y0 a0) fun x2 =>
        bif (!x2) then
          some (0, 12)
        else
          chk (0 ≤ y0) <|
          ref11_Check_l1 (orI .i64 a0 (shlI .i64 1 y0)) a3 a5 (addI .i64 a7 1) a9
    else
      Option.bind (ref11_next (Config.mk a9) a0) fun x3 =>
      bif (leB 0 x3) then
        some (0, 12)
      else
        some (a0, 0)
  ) (ref11_Check_l1 a0 a3 a5 a7 a9) :=
  goC_loopAt (T := tn) (o := ⟨[.lf (.i .i64), .lf (.i .i64)], []⟩) sigOk 100000 (b := codeAt Try.f29 [1, 1, 0, 1, 0, 0]) (by kernel_rfl) (by kernel_rfl)
theorem ref02_Uses_l2_le (a0 : Int) (a2 : List (Trust)) (a4 : Int) (a6 : Int) (a8 : Int) (a10 : List (Int)) (a12 : List (Trust)) : Le (
    bif (ltB a6 a4) then
      nth a2 a6 fun y0 =>
      Option.bind (ref02_Uses y0) fun x1 =>
      ref02_Uses_l2 (orI .i64 a0 x1) a2 a4 (addI .i64 a6 1) a8 a10 a12
    else
      some a0
  ) (ref02_Uses_l2 a0 a2 a4 a6 a8 a10 a12) :=
  goC_loopAt (T := tn) (o := ⟨[.lf (.i .i64)], []⟩) sigOk 100000 (b := codeAt Try.f72 [1, 1, 1, 0, 1, 0, 0]) (by kernel_rfl) (by kernel_rfl)
end Go.Proofs.Ytfailfoncbbgjaa
