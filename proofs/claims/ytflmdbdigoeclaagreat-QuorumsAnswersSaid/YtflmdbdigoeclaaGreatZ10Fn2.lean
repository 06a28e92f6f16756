/- What the functions come to, printed by a program and checked by the kernel. -/
import Derived.Test.YtflmdbdigoeclaaGreatZ10Df
namespace Go.Proofs.YtflmdbdigoeclaaGreat
open Go Go.Ab
set_option maxRecDepth 100000
theorem nodeset_Nodes_l1_le (a0 : Int) (a2 : List (Int)) (a4 : Int) : Le (
    bif (ltB a4 10) then
      Option.bind (nodeset_Has a0 a4) fun x0 =>
      bif x0 then
        capOk (List.length a2 + List.length ([a4] : List (Int))) <|
        nodeset_Nodes_l1 a0 (a2 ++ ([a4] : List (Int))) (addI .i64 a4 1)
      else
        nodeset_Nodes_l1 a0 a2 (addI .i64 a4 1)
    else
      some a2
  ) (nodeset_Nodes_l1 a0 a2 a4) :=
  goC_loopAt (T := tn) (o := ⟨[.lf (.l .i64)], []⟩) sigOk 100000 (b := codeAt Tryz.f35 [1, 1, 0, 1, 0, 0]) (by kernel_rfl) (by kernel_rfl)
theorem nodeset_Has_le (s_0 : Int) (node_1 : Int) : Le (
    Option.bind (nodeset_Valid s_0) fun x0 =>
    bif x0 then
      bif (leB 0 node_1) then
        bif (ltB node_1 10) then
          chk (0 ≤ node_1) <|
          some (neB (andI .i64 s_0 (shlI .i64 1 node_1)) 0)
        else
          some false
      else
        some false
    else
      some false
  ) (nodeset_Has s_0 node_1) :=
  callC_le (T := tn) (c := bodyOf Tryz.f38) (o := ⟨[.lf .b], []⟩) sigOk 100000 (by kernel_rfl) Tryz.func38 (by kernel_rfl) (by kernel_rfl) (by kernel_rfl)
theorem slices_IndexFunc___int_int__r__nodeset_Least_1_l1_le (a2 : Int) (a4 : Int) (a6 : List (Int)) : Le (
    bif (ltB a4 a2) then
      nth a6 a4 fun _ =>
      nthN a6 (Int.toNat a4) fun y0 =>
      Option.bind (nodeset_Least_1 y0) fun x1 =>
      bif x1 then
        some (a4, a6)
      else
        slices_IndexFunc___int_int__r__nodeset_Least_1_l1 a2 (addI .i64 a4 1) a6
    else
      some ((-1), a6)
  ) (slices_IndexFunc___int_int__r__nodeset_Least_1_l1 a2 a4 a6) :=
  goC_loopAt (T := tn) (o := ⟨[.lf (.i .i64)], [[.own .i64 false]]⟩) sigOk 100000 (b := codeAt Tryz.f69 [1, 0, 1, 0, 0]) (by kernel_rfl) (by kernel_rfl)
theorem nodeset_Least_1_le (s_0 : Int) : Le (
    Option.bind (nodeset_Valid s_0) fun x0 =>
    some (!x0)
  ) (nodeset_Least_1 s_0) :=
  callC_le (T := tn) (c := bodyOf Tryz.f50) (o := ⟨[.lf .b], []⟩) sigOk 100000 (by kernel_rfl) Tryz.func50 (by kernel_rfl) (by kernel_rfl) (by kernel_rfl)
theorem slices_pdqsortCmpFunc_int__r__nodeset_Compare_l1_le (a1 : Int) (a3 : Int) (a5 : Int) (a8 : Bool) (a10 : Bool) (a12 : List (Int)) : Le (
    bif (leB (subI .i64 a3 a1) 12) then
      Option.bind (slices_insertionSortCmpFunc_int__r__nodeset_Compare a1 a3 a12) fun x0 =>
      some x0
    else
      bif (eqB a5 0) then
        Option.bind (slices_heapSortCmpFunc_int__r__nodeset_Compare a1 a3 a12) fun x1 =>
        some x1
      else
        bif (!a8) then
          Option.bind (slices_breakPatternsCmpFunc_int__r__nodeset_Compare a1 a3 a12) fun x2 =>
          Option.bind (slices_choosePivotCmpFunc_int__r__nodeset_Compare a1 a3 x2) fun x3 =>
          bif (eqB x3.2.1 2) then
            Option.bind (slices_reverseRangeCmpFunc_int__r__nodeset_Compare a1 a3 x3.2.2) fun x4 =>
            bif a8 then
              bif a10 then
                Option.bind (slices_partialInsertionSortCmpFunc_int__r__nodeset_Compare a1 a3 x4) fun x5 =>
                bif x5.1 then
                  some x5.2
                else
                  bif (ltB 0 a1) then
                    nth x5.2 (subI .i64 a1 1) fun _ =>
                    nth x5.2 (subI .i64 (subI .i64 a3 1) (subI .i64 x3.1 a1)) fun _ =>
                    nthN x5.2 (Int.toNat (subI .i64 a1 1)) fun y6 =>
                    nthN x5.2 (Int.toNat (subI .i64 (subI .i64 a3 1) (subI .i64 x3.1 a1))) fun y7 =>
                    Option.bind (nodeset_Compare y6 y7) fun x8 =>
                    bif (!(ltB x8 0)) then
                      Option.bind (slices_partitionEqualCmpFunc_int__r__nodeset_Compare a1 a3 (subI .i64 (subI .i64 a3 1) (subI .i64 x3.1 a1)) x5.2) fun x9 =>
                      slices_pdqsortCmpFunc_int__r__nodeset_Compare_l1 x9.1 a3 (subI .i64 a5 1) a8 a10 x9.2
                    else
                      Option.bind (slices_partitionCmpFunc_int__r__nodeset_Compare a1 a3 (subI .i64 (subI .i64 a3 1) (subI .i64 x3.1 a1)) x5.2) fun x10 =>
                      bif (ltB (subI .i64 x10.1 a1) (subI .i64 a3 x10.1)) then
                        Option.bind (slices_pdqsortCmpFunc_int__r__nodeset_Compare a1 x10.1 (subI .i64 a5 1) x10.2.2) fun x11 =>
                        slices_pdqsortCmpFunc_int__r__nodeset_Compare_l1 (addI .i64 x10.1 1) a3 (subI .i64 a5 1) (leB (quoI .i64 (subI .i64 a3 a1) 8) (subI .i64 x10.1 a1)) x10.2.1 x11
                      else
                        Option.bind (slices_pdqsortCmpFunc_int__r__nodeset_Compare (addI .i64 x10.1 1) a3 (subI .i64 a5 1) x10.2.2) fun x12 =>
                        slices_pdqsortCmpFunc_int__r__nodeset_Compare_l1 a1 x10.1 (subI .i64 a5 1) (leB (quoI .i64 (subI .i64 a3 a1) 8) (subI .i64 a3 x10.1)) x10.2.1 x12
                  else
                    Option.bind (slices_partitionCmpFunc_int__r__nodeset_Compare a1 a3 (subI .i64 (subI .i64 a3 1) (subI .i64 x3.1 a1)) x5.2) fun x13 =>
                    bif (ltB (subI .i64 x13.1 a1) (subI .i64 a3 x13.1)) then
                      Option.bind (slices_pdqsortCmpFunc_int__r__nodeset_Compare a1 x13.1 (subI .i64 a5 1) x13.2.2) fun x14 =>
                      slices_pdqsortCmpFunc_int__r__nodeset_Compare_l1 (addI .i64 x13.1 1) a3 (subI .i64 a5 1) (leB (quoI .i64 (subI .i64 a3 a1) 8) (subI .i64 x13.1 a1)) x13.2.1 x14
                    else
                      Option.bind (slices_pdqsortCmpFunc_int__r__nodeset_Compare (addI .i64 x13.1 1) a3 (subI .i64 a5 1) x13.2.2) fun x15 =>
                      slices_pdqsortCmpFunc_int__r__nodeset_Compare_l1 a1 x13.1 (subI .i64 a5 1) (leB (quoI .i64 (subI .i64 a3 a1) 8) (subI .i64 a3 x13.1)) x13.2.1 x15
              else
                bif (ltB 0 a1) then
                  nth x4 (subI .i64 a1 1) fun _ =>
                  nth x4 (subI .i64 (subI .i64 a3 1) (subI .i64 x3.1 a1)) fun _ =>
                  nthN x4 (Int.toNat (subI .i64 a1 1)) fun y16 =>
                  nthN x4 (Int.toNat (subI .i64 (subI .i64 a3 1) (subI .i64 x3.1 a1))) fun y17 =>
                  Option.bind (nodeset_Compare y16 y17) fun x18 =>
                  bif (!(ltB x18 0)) then
                    Option.bind (slices_partitionEqualCmpFunc_int__r__nodeset_Compare a1 a3 (subI .i64 (subI .i64 a3 1) (subI .i64 x3.1 a1)) x4) fun x19 =>
                    slices_pdqsortCmpFunc_int__r__nodeset_Compare_l1 x19.1 a3 (subI .i64 a5 1) a8 a10 x19.2
                  else
                    Option.bind (slices_partitionCmpFunc_int__r__nodeset_Compare a1 a3 (subI .i64 (subI .i64 a3 1) (subI .i64 x3.1 a1)) x4) fun x20 =>
                    bif (ltB (subI .i64 x20.1 a1) (subI .i64 a3 x20.1)) then
                      Option.bind (slices_pdqsortCmpFunc_int__r__nodeset_Compare a1 x20.1 (subI .i64 a5 1) x20.2.2) fun x21 =>
                      slices_pdqsortCmpFunc_int__r__nodeset_Compare_l1 (addI .i64 x20.1 1) a3 (subI .i64 a5 1) (leB (quoI .i64 (subI .i64 a3 a1) 8) (subI .i64 x20.1 a1)) x20.2.1 x21
                    else
                      Option.bind (slices_pdqsortCmpFunc_int__r__nodeset_Compare (addI .i64 x20.1 1) a3 (subI .i64 a5 1) x20.2.2) fun x22 =>
                      slices_pdqsortCmpFunc_int__r__nodeset_Compare_l1 a1 x20.1 (subI .i64 a5 1) (leB (quoI .i64 (subI .i64 a3 a1) 8) (subI .i64 a3 x20.1)) x20.2.1 x22
                else
                  Option.bind (slices_partitionCmpFunc_int__r__nodeset_Compare a1 a3 (subI .i64 (subI .i64 a3 1) (subI .i64 x3.1 a1)) x4) fun x23 =>
                  bif (ltB (subI .i64 x23.1 a1) (subI .i64 a3 x23.1)) then
                    Option.bind (slices_pdqsortCmpFunc_int__r__nodeset_Compare a1 x23.1 (subI .i64 a5 1) x23.2.2) fun x24 =>
                    slices_pdqsortCmpFunc_int__r__nodeset_Compare_l1 (addI .i64 x23.1 1) a3 (subI .i64 a5 1) (leB (quoI .i64 (subI .i64 a3 a1) 8) (subI .i64 x23.1 a1)) x23.2.1 x24
                  else
                    Option.bind (slices_pdqsortCmpFunc_int__r__nodeset_Compare (addI .i64 x23.1 1) a3 (subI .i64 a5 1) x23.2.2) fun x25 =>
                    slices_pdqsortCmpFunc_int__r__nodeset_Compare_l1 a1 x23.1 (subI .i64 a5 1) (leB (quoI .i64 (subI .i64 a3 a1) 8) (subI .i64 a3 x23.1)) x23.2.1 x25
            else
              bif (ltB 0 a1) then
                nth x4 (subI .i64 a1 1) fun _ =>
                nth x4 (subI .i64 (subI .i64 a3 1) (subI .i64 x3.1 a1)) fun _ =>
                nthN x4 (Int.toNat (subI .i64 a1 1)) fun y26 =>
                nthN x4 (Int.toNat (subI .i64 (subI .i64 a3 1) (subI .i64 x3.1 a1))) fun y27 =>
                Option.bind (nodeset_Compare y26 y27) fun x28 =>
                bif (!(ltB x28 0)) then
                  Option.bind (slices_partitionEqualCmpFunc_int__r__nodeset_Compare a1 a3 (subI .i64 (subI .i64 a3 1) (subI .i64 x3.1 a1)) x4) fun x29 =>
                  slices_pdqsortCmpFunc_int__r__nodeset_Compare_l1 x29.1 a3 (subI .i64 a5 1) a8 a10 x29.2
                else
                  Option.bind (slices_partitionCmpFunc_int__r__nodeset_Compare a1 a3 (subI .i64 (subI .i64 a3 1) (subI .i64 x3.1 a1)) x4) fun x30 =>
                  bif (ltB (subI .i64 x30.1 a1) (subI .i64 a3 x30.1)) then
                    Option.bind (slices_pdqsortCmpFunc_int__r__nodeset_Compare a1 x30.1 (subI .i64 a5 1) x30.2.2) fun x31 =>
                    slices_pdqsortCmpFunc_int__r__nodeset_Compare_l1 (addI .i64 x30.1 1) a3 (subI .i64 a5 1) (leB (quoI .i64 (subI .i64 a3 a1) 8) (subI .i64 x30.1 a1)) x30.2.1 x31
                  else
                    Option.bind (slices_pdqsortCmpFunc_int__r__nodeset_Compare (addI .i64 x30.1 1) a3 (subI .i64 a5 1) x30.2.2) fun x32 =>
                    slices_pdqsortCmpFunc_int__r__nodeset_Compare_l1 a1 x30.1 (subI .i64 a5 1) (leB (quoI .i64 (subI .i64 a3 a1) 8) (subI .i64 a3 x30.1)) x30.2.1 x32
              else
                Option.bind (slices_partitionCmpFunc_int__r__nodeset_Compare a1 a3 (subI .i64 (subI .i64 a3 1) (subI .i64 x3.1 a1)) x4) fun x33 =>
                bif (ltB (subI .i64 x33.1 a1) (subI .i64 a3 x33.1)) then
                  Option.bind (slices_pdqsortCmpFunc_int__r__nodeset_Compare a1 x33.1 (subI .i64 a5 1) x33.2.2) fun x34 =>
                  slices_pdqsortCmpFunc_int__r__nodeset_Compare_l1 (addI .i64 x33.1 1) a3 (subI .i64 a5 1) (leB (quoI .i64 (subI .i64 a3 a1) 8) (subI .i64 x33.1 a1)) x33.2.1 x34
                else
                  Option.bind (slices_pdqsortCmpFunc_int__r__nodeset_Compare (addI .i64 x33.1 1) a3 (subI .i64 a5 1) x33.2.2) fun x35 =>
                  slices_pdqsortCmpFunc_int__r__nodeset_Compare_l1 a1 x33.1 (subI .i64 a5 1) (leB (quoI .i64 (subI .i64 a3 a1) 8) (subI .i64 a3 x33.1)) x33.2.1 x35
          else
            bif a8 then
              bif a10 then
                bif (eqB x3.2.1 1) then
                  Option.bind (slices_partialInsertionSortCmpFunc_int__r__nodeset_Compare a1 a3 x3.2.2) fun x36 =>
                  bif x36.1 then
                    some x36.2
                  else
                    bif (ltB 0 a1) then
                      nth x36.2 (subI .i64 a1 1) fun _ =>
                      nth x36.2 x3.1 fun _ =>
                      nthN x36.2 (Int.toNat (subI .i64 a1 1)) fun y37 =>
                      nthN x36.2 (Int.toNat x3.1) fun y38 =>
                      Option.bind (nodeset_Compare y37 y38) fun x39 =>
                      bif (!(ltB x39 0)) then
                        Option.bind (slices_partitionEqualCmpFunc_int__r__nodeset_Compare a1 a3 x3.1 x36.2) fun x40 =>
                        slices_pdqsortCmpFunc_int__r__nodeset_Compare_l1 x40.1 a3 (subI .i64 a5 1) a8 a10 x40.2
                      else
                        Option.bind (slices_partitionCmpFunc_int__r__nodeset_Compare a1 a3 x3.1 x36.2) fun x41 =>
                        bif (ltB (subI .i64 x41.1 a1) (subI .i64 a3 x41.1)) then
                          Option.bind (slices_pdqsortCmpFunc_int__r__nodeset_Compare a1 x41.1 (subI .i64 a5 1) x41.2.2) fun x42 =>
                          slices_pdqsortCmpFunc_int__r__nodeset_Compare_l1 (addI .i64 x41.1 1) a3 (subI .i64 a5 1) (leB (quoI .i64 (subI .i64 a3 a1) 8) (subI .i64 x41.1 a1)) x41.2.1 x42
                        else
                          Option.bind (slices_pdqsortCmpFunc_int__r__nodeset_Compare (addI .i64 x41.1 1) a3 (subI .i64 a5 1) x41.2.2) fun x43 =>
                          slices_pdqsortCmpFunc_int__r__nodeset_Compare_l1 a1 x41.1 (subI .i64 a5 1) (leB (quoI .i64 (subI .i64 a3 a1) 8) (subI .i64 a3 x41.1)) x41.2.1 x43
                    else
                      Option.bind (slices_partitionCmpFunc_int__r__nodeset_Compare a1 a3 x3.1 x36.2) fun x44 =>
                      bif (ltB (subI .i64 x44.1 a1) (subI .i64 a3 x44.1)) then
                        Option.bind (slices_pdqsortCmpFunc_int__r__nodeset_Compare a1 x44.1 (subI .i64 a5 1) x44.2.2) fun x45 =>
                        slices_pdqsortCmpFunc_int__r__nodeset_Compare_l1 (addI .i64 x44.1 1) a3 (subI .i64 a5 1) (leB (quoI .i64 (subI .i64 a3 a1) 8) (subI .i64 x44.1 a1)) x44.2.1 x45
                      else
                        Option.bind (slices_pdqsortCmpFunc_int__r__nodeset_Compare (addI .i64 x44.1 1) a3 (subI .i64 a5 1) x44.2.2) fun x46 =>
                        slices_pdqsortCmpFunc_int__r__nodeset_Compare_l1 a1 x44.1 (subI .i64 a5 1) (leB (quoI .i64 (subI .i64 a3 a1) 8) (subI .i64 a3 x44.1)) x44.2.1 x46
                else
                  bif (ltB 0 a1) then
                    nth x3.2.2 (subI .i64 a1 1) fun _ =>
                    nth x3.2.2 x3.1 fun _ =>
                    nthN x3.2.2 (Int.toNat (subI .i64 a1 1)) fun y47 =>
                    nthN x3.2.2 (Int.toNat x3.1) fun y48 =>
                    Option.bind (nodeset_Compare y47 y48) fun x49 =>
                    bif (!(ltB x49 0)) then
                      Option.bind (slices_partitionEqualCmpFunc_int__r__nodeset_Compare a1 a3 x3.1 x3.2.2) fun x50 =>
                      slices_pdqsortCmpFunc_int__r__nodeset_Compare_l1 x50.1 a3 (subI .i64 a5 1) a8 a10 x50.2
                    else
                      Option.bind (slices_partitionCmpFunc_int__r__nodeset_Compare a1 a3 x3.1 x3.2.2) fun x51 =>
                      bif (ltB (subI .i64 x51.1 a1) (subI .i64 a3 x51.1)) then
                        Option.bind (slices_pdqsortCmpFunc_int__r__nodeset_Compare a1 x51.1 (subI .i64 a5 1) x51.2.2) fun x52 =>
                        slices_pdqsortCmpFunc_int__r__nodeset_Compare_l1 (addI .i64 x51.1 1) a3 (subI .i64 a5 1) (leB (quoI .i64 (subI .i64 a3 a1) 8) (subI .i64 x51.1 a1)) x51.2.1 x52
                      else
                        Option.bind (slices_pdqsortCmpFunc_int__r__nodeset_Compare (addI .i64 x51.1 1) a3 (subI .i64 a5 1) x51.2.2) fun x53 =>
                        slices_pdqsortCmpFunc_int__r__nodeset_Compare_l1 a1 x51.1 (subI .i64 a5 1) (leB (quoI .i64 (subI .i64 a3 a1) 8) (subI .i64 a3 x51.1)) x51.2.1 x53
                  else
                    Option.bind (slices_partitionCmpFunc_int__r__nodeset_Compare a1 a3 x3.1 x3.2.2) fun x54 =>
                    bif (ltB (subI .i64 x54.1 a1) (subI .i64 a3 x54.1)) then
                      Option.bind (slices_pdqsortCmpFunc_int__r__nodeset_Compare a1 x54.1 (subI .i64 a5 1) x54.2.2) fun x55 =>
                      slices_pdqsortCmpFunc_int__r__nodeset_Compare_l1 (addI .i64 x54.1 1) a3 (subI .i64 a5 1) (leB (quoI .i64 (subI .i64 a3 a1) 8) (subI .i64 x54.1 a1)) x54.2.1 x55
                    else
                      Option.bind (slices_pdqsortCmpFunc_int__r__nodeset_Compare (addI .i64 x54.1 1) a3 (subI .i64 a5 1) x54.2.2) fun x56 =>
                      slices_pdqsortCmpFunc_int__r__nodeset_Compare_l1 a1 x54.1 (subI .i64 a5 1) (leB (quoI .i64 (subI .i64 a3 a1) 8) (subI .i64 a3 x54.1)) x54.2.1 x56
              else
                bif (ltB 0 a1) then
                  nth x3.2.2 (subI .i64 a1 1) fun _ =>
                  nth x3.2.2 x3.1 fun _ =>
                  nthN x3.2.2 (Int.toNat (subI .i64 a1 1)) fun y57 =>
                  nthN x3.2.2 (Int.toNat x3.1) fun y58 =>
                  Option.bind (nodeset_Compare y57 y58) fun x59 =>
                  bif (!(ltB x59 0)) then
                    Option.bind (slices_partitionEqualCmpFunc_int__r__nodeset_Compare a1 a3 x3.1 x3.2.2) fun x60 =>
                    slices_pdqsortCmpFunc_int__r__nodeset_Compare_l1 x60.1 a3 (subI .i64 a5 1) a8 a10 x60.2
                  else
                    Option.bind (slices_partitionCmpFunc_int__r__nodeset_Compare a1 a3 x3.1 x3.2.2) fun x61 =>
                    bif (ltB (subI .i64 x61.1 a1) (subI .i64 a3 x61.1)) then
                      Option.bind (slices_pdqsortCmpFunc_int__r__nodeset_Compare a1 x61.1 (subI .i64 a5 1) x61.2.2) fun x62 =>
                      slices_pdqsortCmpFunc_int__r__nodeset_Compare_l1 (addI .i64 x61.1 1) a3 (subI .i64 a5 1) (leB (quoI .i64 (subI .i64 a3 a1) 8) (subI .i64 x61.1 a1)) x61.2.1 x62
                    else
                      Option.bind (slices_pdqsortCmpFunc_int__r__nodeset_Compare (addI .i64 x61.1 1) a3 (subI .i64 a5 1) x61.2.2) fun x63 =>
                      slices_pdqsortCmpFunc_int__r__nodeset_Compare_l1 a1 x61.1 (subI .i64 a5 1) (leB (quoI .i64 (subI .i64 a3 a1) 8) (subI .i64 a3 x61.1)) x61.2.1 x63
                else
                  Option.bind (slices_partitionCmpFunc_int__r__nodeset_Compare a1 a3 x3.1 x3.2.2) fun x64 =>
                  bif (ltB (subI .i64 x64.1 a1) (subI .i64 a3 x64.1)) then
                    Option.bind (slices_pdqsortCmpFunc_int__r__nodeset_Compare a1 x64.1 (subI .i64 a5 1) x64.2.2) fun x65 =>
                    slices_pdqsortCmpFunc_int__r__nodeset_Compare_l1 (addI .i64 x64.1 1) a3 (subI .i64 a5 1) (leB (quoI .i64 (subI .i64 a3 a1) 8) (subI .i64 x64.1 a1)) x64.2.1 x65
                  else
                    Option.bind (slices_pdqsortCmpFunc_int__r__nodeset_Compare (addI .i64 x64.1 1) a3 (subI .i64 a5 1) x64.2.2) fun x66 =>
                    slices_pdqsortCmpFunc_int__r__nodeset_Compare_l1 a1 x64.1 (subI .i64 a5 1) (leB (quoI .i64 (subI .i64 a3 a1) 8) (subI .i64 a3 x64.1)) x64.2.1 x66
            else
              bif (ltB 0 a1) then
                nth x3.2.2 (subI .i64 a1 1) fun _ =>
                nth x3.2.2 x3.1 fun _ =>
                nthN x3.2.2 (Int.toNat (subI .i64 a1 1)) fun y67 =>
                nthN x3.2.2 (Int.toNat x3.1) fun y68 =>
                Option.bind (nodeset_Compare y67 y68) fun x69 =>
                bif (!(ltB x69 0)) then
                  Option.bind (slices_partitionEqualCmpFunc_int__r__nodeset_Compare a1 a3 x3.1 x3.2.2) fun x70 =>
                  slices_pdqsortCmpFunc_int__r__nodeset_Compare_l1 x70.1 a3 (subI .i64 a5 1) a8 a10 x70.2
                else
                  Option.bind (slices_partitionCmpFunc_int__r__nodeset_Compare a1 a3 x3.1 x3.2.2) fun x71 =>
                  bif (ltB (subI .i64 x71.1 a1) (subI .i64 a3 x71.1)) then
                    Option.bind (slices_pdqsortCmpFunc_int__r__nodeset_Compare a1 x71.1 (subI .i64 a5 1) x71.2.2) fun x72 =>
                    slices_pdqsortCmpFunc_int__r__nodeset_Compare_l1 (addI .i64 x71.1 1) a3 (subI .i64 a5 1) (leB (quoI .i64 (subI .i64 a3 a1) 8) (subI .i64 x71.1 a1)) x71.2.1 x72
                  else
                    Option.bind (slices_pdqsortCmpFunc_int__r__nodeset_Compare (addI .i64 x71.1 1) a3 (subI .i64 a5 1) x71.2.2) fun x73 =>
                    slices_pdqsortCmpFunc_int__r__nodeset_Compare_l1 a1 x71.1 (subI .i64 a5 1) (leB (quoI .i64 (subI .i64 a3 a1) 8) (subI .i64 a3 x71.1)) x71.2.1 x73
              else
                Option.bind (slices_partitionCmpFunc_int__r__nodeset_Compare a1 a3 x3.1 x3.2.2) fun x74 =>
                bif (ltB (subI .i64 x74.1 a1) (subI .i64 a3 x74.1)) then
                  Option.bind (slices_pdqsortCmpFunc_int__r__nodeset_Compare a1 x74.1 (subI .i64 a5 1) x74.2.2) fun x75 =>
                  slices_pdqsortCmpFunc_int__r__nodeset_Compare_l1 (addI .i64 x74.1 1) a3 (subI .i64 a5 1) (leB (quoI .i64 (subI .i64 a3 a1) 8) (subI .i64 x74.1 a1)) x74.2.1 x75
                else
                  Option.bind (slices_pdqsortCmpFunc_int__r__nodeset_Compare (addI .i64 x74.1 1) a3 (subI .i64 a5 1) x74.2.2) fun x76 =>
                  slices_pdqsortCmpFunc_int__r__nodeset_Compare_l1 a1 x74.1 (subI .i64 a5 1) (leB (quoI .i64 (subI .i64 a3 a1) 8) (subI .i64 a3 x74.1)) x74.2.1 x76
        else
          Option.bind (slices_choosePivotCmpFunc_int__r__nodeset_Compare a1 a3 a12) fun x77 =>
          bif (eqB x77.2.1 2) then
            Option.bind (slices_reverseRangeCmpFunc_int__r__nodeset_Compare a1 a3 x77.2.2) fun x78 =>
            bif a8 then
              bif a10 then
                Option.bind (slices_partialInsertionSortCmpFunc_int__r__nodeset_Compare a1 a3 x78) fun x79 =>
                bif x79.1 then
                  some x79.2
                else
                  bif (ltB 0 a1) then
                    nth x79.2 (subI .i64 a1 1) fun _ =>
                    nth x79.2 (subI .i64 (subI .i64 a3 1) (subI .i64 x77.1 a1)) fun _ =>
                    nthN x79.2 (Int.toNat (subI .i64 a1 1)) fun y80 =>
                    nthN x79.2 (Int.toNat (subI .i64 (subI .i64 a3 1) (subI .i64 x77.1 a1))) fun y81 =>
                    Option.bind (nodeset_Compare y80 y81) fun x82 =>
                    bif (!(ltB x82 0)) then
                      Option.bind (slices_partitionEqualCmpFunc_int__r__nodeset_Compare a1 a3 (subI .i64 (subI .i64 a3 1) (subI .i64 x77.1 a1)) x79.2) fun x83 =>
                      slices_pdqsortCmpFunc_int__r__nodeset_Compare_l1 x83.1 a3 a5 a8 a10 x83.2
                    else
                      Option.bind (slices_partitionCmpFunc_int__r__nodeset_Compare a1 a3 (subI .i64 (subI .i64 a3 1) (subI .i64 x77.1 a1)) x79.2) fun x84 =>
                      bif (ltB (subI .i64 x84.1 a1) (subI .i64 a3 x84.1)) then
                        Option.bind (slices_pdqsortCmpFunc_int__r__nodeset_Compare a1 x84.1 a5 x84.2.2) fun x85 =>
                        slices_pdqsortCmpFunc_int__r__nodeset_Compare_l1 (addI .i64 x84.1 1) a3 a5 (leB (quoI .i64 (subI .i64 a3 a1) 8) (subI .i64 x84.1 a1)) x84.2.1 x85
                      else
                        Option.bind (slices_pdqsortCmpFunc_int__r__nodeset_Compare (addI .i64 x84.1 1) a3 a5 x84.2.2) fun x86 =>
                        slices_pdqsortCmpFunc_int__r__nodeset_Compare_l1 a1 x84.1 a5 (leB (quoI .i64 (subI .i64 a3 a1) 8) (subI .i64 a3 x84.1)) x84.2.1 x86
                  else
                    Option.bind (slices_partitionCmpFunc_int__r__nodeset_Compare a1 a3 (subI .i64 (subI .i64 a3 1) (subI .i64 x77.1 a1)) x79.2) fun x87 =>
                    bif (ltB (subI .i64 x87.1 a1) (subI .i64 a3 x87.1)) then
                      Option.bind (slices_pdqsortCmpFunc_int__r__nodeset_Compare a1 x87.1 a5 x87.2.2) fun x88 =>
                      slices_pdqsortCmpFunc_int__r__nodeset_Compare_l1 (addI .i64 x87.1 1) a3 a5 (leB (quoI .i64 (subI .i64 a3 a1) 8) (subI .i64 x87.1 a1)) x87.2.1 x88
                    else
                      Option.bind (slices_pdqsortCmpFunc_int__r__nodeset_Compare (addI .i64 x87.1 1) a3 a5 x87.2.2) fun x89 =>
                      slices_pdqsortCmpFunc_int__r__nodeset_Compare_l1 a1 x87.1 a5 (leB (quoI .i64 (subI .i64 a3 a1) 8) (subI .i64 a3 x87.1)) x87.2.1 x89
              else
                bif (ltB 0 a1) then
                  nth x78 (subI .i64 a1 1) fun _ =>
                  nth x78 (subI .i64 (subI .i64 a3 1) (subI .i64 x77.1 a1)) fun _ =>
                  nthN x78 (Int.toNat (subI .i64 a1 1)) fun y90 =>
                  nthN x78 (Int.toNat (subI .i64 (subI .i64 a3 1) (subI .i64 x77.1 a1))) fun y91 =>
                  Option.bind (nodeset_Compare y90 y91) fun x92 =>
                  bif (!(ltB x92 0)) then
                    Option.bind (slices_partitionEqualCmpFunc_int__r__nodeset_Compare a1 a3 (subI .i64 (subI .i64 a3 1) (subI .i64 x77.1 a1)) x78) fun x93 =>
                    slices_pdqsortCmpFunc_int__r__nodeset_Compare_l1 x93.1 a3 a5 a8 a10 x93.2
                  else
                    Option.bind (slices_partitionCmpFunc_int__r__nodeset_Compare a1 a3 (subI .i64 (subI .i64 a3 1) (subI .i64 x77.1 a1)) x78) fun x94 =>
                    bif (ltB (subI .i64 x94.1 a1) (subI .i64 a3 x94.1)) then
                      Option.bind (slices_pdqsortCmpFunc_int__r__nodeset_Compare a1 x94.1 a5 x94.2.2) fun x95 =>
                      slices_pdqsortCmpFunc_int__r__nodeset_Compare_l1 (addI .i64 x94.1 1) a3 a5 (leB (quoI .i64 (subI .i64 a3 a1) 8) (subI .i64 x94.1 a1)) x94.2.1 x95
                    else
                      Option.bind (slices_pdqsortCmpFunc_int__r__nodeset_Compare (addI .i64 x94.1 1) a3 a5 x94.2.2) fun x96 =>
                      slices_pdqsortCmpFunc_int__r__nodeset_Compare_l1 a1 x94.1 a5 (leB (quoI .i64 (subI .i64 a3 a1) 8) (subI .i64 a3 x94.1)) x94.2.1 x96
                else
                  Option.bind (slices_partitionCmpFunc_int__r__nodeset_Compare a1 a3 (subI .i64 (subI .i64 a3 1) (subI .i64 x77.1 a1)) x78) fun x97 =>
                  bif (ltB (subI .i64 x97.1 a1) (subI .i64 a3 x97.1)) then
                    Option.bind (slices_pdqsortCmpFunc_int__r__nodeset_Compare a1 x97.1 a5 x97.2.2) fun x98 =>
                    slices_pdqsortCmpFunc_int__r__nodeset_Compare_l1 (addI .i64 x97.1 1) a3 a5 (leB (quoI .i64 (subI .i64 a3 a1) 8) (subI .i64 x97.1 a1)) x97.2.1 x98
                  else
                    Option.bind (slices_pdqsortCmpFunc_int__r__nodeset_Compare (addI .i64 x97.1 1) a3 a5 x97.2.2) fun x99 =>
                    slices_pdqsortCmpFunc_int__r__nodeset_Compare_l1 a1 x97.1 a5 (leB (quoI .i64 (subI .i64 a3 a1) 8) (subI .i64 a3 x97.1)) x97.2.1 x99
            else
              bif (ltB 0 a1) then
                nth x78 (subI .i64 a1 1) fun _ =>
                nth x78 (subI .i64 (subI .i64 a3 1) (subI .i64 x77.1 a1)) fun _ =>
                nthN x78 (Int.toNat (subI .i64 a1 1)) fun y100 =>
                nthN x78 (Int.toNat (subI .i64 (subI .i64 a3 1) (subI .i64 x77.1 a1))) fun y101 =>
                Option.bind (nodeset_Compare y100 y101) fun x102 =>
                bif (!(ltB x102 0)) then
                  Option.bind (slices_partitionEqualCmpFunc_int__r__nodeset_Compare a1 a3 (subI .i64 (subI .i64 a3 1) (subI .i64 x77.1 a1)) x78) fun x103 =>
                  slices_pdqsortCmpFunc_int__r__nodeset_Compare_l1 x103.1 a3 a5 a8 a10 x103.2
                else
                  Option.bind (slices_partitionCmpFunc_int__r__nodeset_Compare a1 a3 (subI .i64 (subI .i64 a3 1) (subI .i64 x77.1 a1)) x78) fun x104 =>
                  bif (ltB (subI .i64 x104.1 a1) (subI .i64 a3 x104.1)) then
                    Option.bind (slices_pdqsortCmpFunc_int__r__nodeset_Compare a1 x104.1 a5 x104.2.2) fun x105 =>
                    slices_pdqsortCmpFunc_int__r__nodeset_Compare_l1 (addI .i64 x104.1 1) a3 a5 (leB (quoI .i64 (subI .i64 a3 a1) 8) (subI .i64 x104.1 a1)) x104.2.1 x105
                  else
                    Option.bind (slices_pdqsortCmpFunc_int__r__nodeset_Compare (addI .i64 x104.1 1) a3 a5 x104.2.2) fun x106 =>
                    slices_pdqsortCmpFunc_int__r__nodeset_Compare_l1 a1 x104.1 a5 (leB (quoI .i64 (subI .i64 a3 a1) 8) (subI .i64 a3 x104.1)) x104.2.1 x106
              else
                Option.bind (slices_partitionCmpFunc_int__r__nodeset_Compare a1 a3 (subI .i64 (subI .i64 a3 1) (subI .i64 x77.1 a1)) x78) fun x107 =>
                bif (ltB (subI .i64 x107.1 a1) (subI .i64 a3 x107.1)) then
                  Option.bind (slices_pdqsortCmpFunc_int__r__nodeset_Compare a1 x107.1 a5 x107.2.2) fun x108 =>
                  slices_pdqsortCmpFunc_int__r__nodeset_Compare_l1 (addI .i64 x107.1 1) a3 a5 (leB (quoI .i64 (subI .i64 a3 a1) 8) (subI .i64 x107.1 a1)) x107.2.1 x108
                else
                  Option.bind (slices_pdqsortCmpFunc_int__r__nodeset_Compare (addI .i64 x107.1 1) a3 a5 x107.2.2) fun x109 =>
                  slices_pdqsortCmpFunc_int__r__nodeset_Compare_l1 a1 x107.1 a5 (leB (quoI .i64 (subI .i64 a3 a1) 8) (subI .i64 a3 x107.1)) x107.2.1 x109
          else
            bif a8 then
              bif a10 then
                bif (eqB x77.2.1 1) then
                  Option.bind (slices_partialInsertionSortCmpFunc_int__r__nodeset_Compare a1 a3 x77.2.2) fun x110 =>
                  bif x110.1 then
                    some x110.2
                  else
                    bif (ltB 0 a1) then
                      nth x110.2 (subI .i64 a1 1) fun _ =>
                      nth x110.2 x77.1 fun _ =>
                      nthN x110.2 (Int.toNat (subI .i64 a1 1)) fun y111 =>
                      nthN x110.2 (Int.toNat x77.1) fun y112 =>
                      Option.bind (nodeset_Compare y111 y112) fun x113 =>
                      bif (!(ltB x113 0)) then
                        Option.bind (slices_partitionEqualCmpFunc_int__r__nodeset_Compare a1 a3 x77.1 x110.2) fun x114 =>
                        slices_pdqsortCmpFunc_int__r__nodeset_Compare_l1 x114.1 a3 a5 a8 a10 x114.2
                      else
                        Option.bind (slices_partitionCmpFunc_int__r__nodeset_Compare a1 a3 x77.1 x110.2) fun x115 =>
                        bif (ltB (subI .i64 x115.1 a1) (subI .i64 a3 x115.1)) then
                          Option.bind (slices_pdqsortCmpFunc_int__r__nodeset_Compare a1 x115.1 a5 x115.2.2) fun x116 =>
                          slices_pdqsortCmpFunc_int__r__nodeset_Compare_l1 (addI .i64 x115.1 1) a3 a5 (leB (quoI .i64 (subI .i64 a3 a1) 8) (subI .i64 x115.1 a1)) x115.2.1 x116
                        else
                          Option.bind (slices_pdqsortCmpFunc_int__r__nodeset_Compare (addI .i64 x115.1 1) a3 a5 x115.2.2) fun x117 =>
                          slices_pdqsortCmpFunc_int__r__nodeset_Compare_l1 a1 x115.1 a5 (leB (quoI .i64 (subI .i64 a3 a1) 8) (subI .i64 a3 x115.1)) x115.2.1 x117
                    else
                      Option.bind (slices_partitionCmpFunc_int__r__nodeset_Compare a1 a3 x77.1 x110.2) fun x118 =>
                      bif (ltB (subI .i64 x118.1 a1) (subI .i64 a3 x118.1)) then
                        Option.bind (slices_pdqsortCmpFunc_int__r__nodeset_Compare a1 x118.1 a5 x118.2.2) fun x119 =>
                        slices_pdqsortCmpFunc_int__r__nodeset_Compare_l1 (addI .i64 x118.1 1) a3 a5 (leB (quoI .i64 (subI .i64 a3 a1) 8) (subI .i64 x118.1 a1)) x118.2.1 x119
                      else
                        Option.bind (slices_pdqsortCmpFunc_int__r__nodeset_Compare (addI .i64 x118.1 1) a3 a5 x118.2.2) fun x120 =>
                        slices_pdqsortCmpFunc_int__r__nodeset_Compare_l1 a1 x118.1 a5 (leB (quoI .i64 (subI .i64 a3 a1) 8) (subI .i64 a3 x118.1)) x118.2.1 x120
                else
                  bif (ltB 0 a1) then
                    nth x77.2.2 (subI .i64 a1 1) fun _ =>
                    nth x77.2.2 x77.1 fun _ =>
                    nthN x77.2.2 (Int.toNat (subI .i64 a1 1)) fun y121 =>
                    nthN x77.2.2 (Int.toNat x77.1) fun y122 =>
                    Option.bind (nodeset_Compare y121 y122) fun x123 =>
                    bif (!(ltB x123 0)) then
                      Option.bind (slices_partitionEqualCmpFunc_int__r__nodeset_Compare a1 a3 x77.1 x77.2.2) fun x124 =>
                      slices_pdqsortCmpFunc_int__r__nodeset_Compare_l1 x124.1 a3 a5 a8 a10 x124.2
                    else
                      Option.bind (slices_partitionCmpFunc_int__r__nodeset_Compare a1 a3 x77.1 x77.2.2) fun x125 =>
                      bif (ltB (subI .i64 x125.1 a1) (subI .i64 a3 x125.1)) then
                        Option.bind (slices_pdqsortCmpFunc_int__r__nodeset_Compare a1 x125.1 a5 x125.2.2) fun x126 =>
                        slices_pdqsortCmpFunc_int__r__nodeset_Compare_l1 (addI .i64 x125.1 1) a3 a5 (leB (quoI .i64 (subI .i64 a3 a1) 8) (subI .i64 x125.1 a1)) x125.2.1 x126
                      else
                        Option.bind (slices_pdqsortCmpFunc_int__r__nodeset_Compare (addI .i64 x125.1 1) a3 a5 x125.2.2) fun x127 =>
                        slices_pdqsortCmpFunc_int__r__nodeset_Compare_l1 a1 x125.1 a5 (leB (quoI .i64 (subI .i64 a3 a1) 8) (subI .i64 a3 x125.1)) x125.2.1 x127
                  else
                    Option.bind (slices_partitionCmpFunc_int__r__nodeset_Compare a1 a3 x77.1 x77.2.2) fun x128 =>
                    bif (ltB (subI .i64 x128.1 a1) (subI .i64 a3 x128.1)) then
                      Option.bind (slices_pdqsortCmpFunc_int__r__nodeset_Compare a1 x128.1 a5 x128.2.2) fun x129 =>
                      slices_pdqsortCmpFunc_int__r__nodeset_Compare_l1 (addI .i64 x128.1 1) a3 a5 (leB (quoI .i64 (subI .i64 a3 a1) 8) (subI .i64 x128.1 a1)) x128.2.1 x129
                    else
                      Option.bind (slices_pdqsortCmpFunc_int__r__nodeset_Compare (addI .i64 x128.1 1) a3 a5 x128.2.2) fun x130 =>
                      slices_pdqsortCmpFunc_int__r__nodeset_Compare_l1 a1 x128.1 a5 (leB (quoI .i64 (subI .i64 a3 a1) 8) (subI .i64 a3 x128.1)) x128.2.1 x130
              else
                bif (ltB 0 a1) then
                  nth x77.2.2 (subI .i64 a1 1) fun _ =>
                  nth x77.2.2 x77.1 fun _ =>
                  nthN x77.2.2 (Int.toNat (subI .i64 a1 1)) fun y131 =>
                  nthN x77.2.2 (Int.toNat x77.1) fun y132 =>
                  Option.bind (nodeset_Compare y131 y132) fun x133 =>
                  bif (!(ltB x133 0)) then
                    Option.bind (slices_partitionEqualCmpFunc_int__r__nodeset_Compare a1 a3 x77.1 x77.2.2) fun x134 =>
                    slices_pdqsortCmpFunc_int__r__nodeset_Compare_l1 x134.1 a3 a5 a8 a10 x134.2
                  else
                    Option.bind (slices_partitionCmpFunc_int__r__nodeset_Compare a1 a3 x77.1 x77.2.2) fun x135 =>
                    bif (ltB (subI .i64 x135.1 a1) (subI .i64 a3 x135.1)) then
                      Option.bind (slices_pdqsortCmpFunc_int__r__nodeset_Compare a1 x135.1 a5 x135.2.2) fun x136 =>
                      slices_pdqsortCmpFunc_int__r__nodeset_Compare_l1 (addI .i64 x135.1 1) a3 a5 (leB (quoI .i64 (subI .i64 a3 a1) 8) (subI .i64 x135.1 a1)) x135.2.1 x136
                    else
                      Option.bind (slices_pdqsortCmpFunc_int__r__nodeset_Compare (addI .i64 x135.1 1) a3 a5 x135.2.2) fun x137 =>
                      slices_pdqsortCmpFunc_int__r__nodeset_Compare_l1 a1 x135.1 a5 (leB (quoI .i64 (subI .i64 a3 a1) 8) (subI .i64 a3 x135.1)) x135.2.1 x137
                else
                  Option.bind (slices_partitionCmpFunc_int__r__nodeset_Compare a1 a3 x77.1 x77.2.2) fun x138 =>
                  bif (ltB (subI .i64 x138.1 a1) (subI .i64 a3 x138.1)) then
                    Option.bind (slices_pdqsortCmpFunc_int__r__nodeset_Compare a1 x138.1 a5 x138.2.2) fun x139 =>
                    slices_pdqsortCmpFunc_int__r__nodeset_Compare_l1 (addI .i64 x138.1 1) a3 a5 (leB (quoI .i64 (subI .i64 a3 a1) 8) (subI .i64 x138.1 a1)) x138.2.1 x139
                  else
                    Option.bind (slices_pdqsortCmpFunc_int__r__nodeset_Compare (addI .i64 x138.1 1) a3 a5 x138.2.2) fun x140 =>
                    slices_pdqsortCmpFunc_int__r__nodeset_Compare_l1 a1 x138.1 a5 (leB (quoI .i64 (subI .i64 a3 a1) 8) (subI .i64 a3 x138.1)) x138.2.1 x140
            else
              bif (ltB 0 a1) then
                nth x77.2.2 (subI .i64 a1 1) fun _ =>
                nth x77.2.2 x77.1 fun _ =>
                nthN x77.2.2 (Int.toNat (subI .i64 a1 1)) fun y141 =>
                nthN x77.2.2 (Int.toNat x77.1) fun y142 =>
                Option.bind (nodeset_Compare y141 y142) fun x143 =>
                bif (!(ltB x143 0)) then
                  Option.bind (slices_partitionEqualCmpFunc_int__r__nodeset_Compare a1 a3 x77.1 x77.2.2) fun x144 =>
                  slices_pdqsortCmpFunc_int__r__nodeset_Compare_l1 x144.1 a3 a5 a8 a10 x144.2
                else
                  Option.bind (slices_partitionCmpFunc_int__r__nodeset_Compare a1 a3 x77.1 x77.2.2) fun x145 =>
                  bif (ltB (subI .i64 x145.1 a1) (subI .i64 a3 x145.1)) then
                    Option.bind (slices_pdqsortCmpFunc_int__r__nodeset_Compare a1 x145.1 a5 x145.2.2) fun x146 =>
                    slices_pdqsortCmpFunc_int__r__nodeset_Compare_l1 (addI .i64 x145.1 1) a3 a5 (leB (quoI .i64 (subI .i64 a3 a1) 8) (subI .i64 x145.1 a1)) x145.2.1 x146
                  else
                    Option.bind (slices_pdqsortCmpFunc_int__r__nodeset_Compare (addI .i64 x145.1 1) a3 a5 x145.2.2) fun x147 =>
                    slices_pdqsortCmpFunc_int__r__nodeset_Compare_l1 a1 x145.1 a5 (leB (quoI .i64 (subI .i64 a3 a1) 8) (subI .i64 a3 x145.1)) x145.2.1 x147
              else
                Option.bind (slices_partitionCmpFunc_int__r__nodeset_Compare a1 a3 x77.1 x77.2.2) fun x148 =>
                bif (ltB (subI .i64 x148.1 a1) (subI .i64 a3 x148.1)) then
                  Option.bind (slices_pdqsortCmpFunc_int__r__nodeset_Compare a1 x148.1 a5 x148.2.2) fun x149 =>
                  slices_pdqsortCmpFunc_int__r__nodeset_Compare_l1 (addI .i64 x148.1 1) a3 a5 (leB (quoI .i64 (subI .i64 a3 a1) 8) (subI .i64 x148.1 a1)) x148.2.1 x149
                else
                  Option.bind (slices_pdqsortCmpFunc_int__r__nodeset_Compare (addI .i64 x148.1 1) a3 a5 x148.2.2) fun x150 =>
                  slices_pdqsortCmpFunc_int__r__nodeset_Compare_l1 a1 x148.1 a5 (leB (quoI .i64 (subI .i64 a3 a1) 8) (subI .i64 a3 x148.1)) x148.2.1 x150
  ) (slices_pdqsortCmpFunc_int__r__nodeset_Compare_l1 a1 a3 a5 a8 a10 a12) :=
  goC_loopAt (T := tn) (o := ⟨[], [[.own .i64 false]]⟩) sigOk 100000 (b := codeAt Tryz.f71 [1, 1, 0, 0]) (by kernel_rfl) (by kernel_rfl)
theorem slices_insertionSortCmpFunc_int__r__nodeset_Compare_le (a_1 : Int) (b_2 : Int) (h0 : List (Int)) : Le (
    slices_insertionSortCmpFunc_int__r__nodeset_Compare_l1 a_1 b_2 (addI .i64 a_1 1) h0
  ) (slices_insertionSortCmpFunc_int__r__nodeset_Compare a_1 b_2 h0) :=
  callC_le (T := tn) (c := bodyOf Tryz.f85) (o := ⟨[], [[.own .i64 false]]⟩) sigOk 100000 (by kernel_rfl) Tryz.func85 (by kernel_rfl) (by kernel_rfl) (by kernel_rfl)
theorem slices_heapSortCmpFunc_int__r__nodeset_Compare_le (a_1 : Int) (b_2 : Int) (h0 : List (Int)) : Le (
    slices_heapSortCmpFunc_int__r__nodeset_Compare_l1 a_1 0 (subI .i64 b_2 a_1) (quoI .i64 (subI .i64 (subI .i64 b_2 a_1) 1) 2) h0
  ) (slices_heapSortCmpFunc_int__r__nodeset_Compare a_1 b_2 h0) :=
  callC_le (T := tn) (c := bodyOf Tryz.f86) (o := ⟨[], [[.own .i64 false]]⟩) sigOk 100000 (by kernel_rfl) Tryz.func86 (by kernel_rfl) (by kernel_rfl) (by kernel_rfl)
theorem slices_breakPatternsCmpFunc_int__r__nodeset_Compare_le (a_1 : Int) (b_2 : Int) (h0 : List (Int)) : Le (
    bif (leB 8 (subI .i64 b_2 a_1)) then
      Option.bind (slices_nextPowerOfTwo (subI .i64 b_2 a_1)) fun x0 =>
      slices_breakPatternsCmpFunc_int__r__nodeset_Compare_l1 a_1 (subI .i64 b_2 a_1) x0 (subI .i64 (addI .i64 a_1 (mulI .i64 (quoI .i64 (subI .i64 b_2 a_1) 4) 2)) 1) h0 (IntKind.wrap .u64 (subI .i64 b_2 a_1))
    else
      some h0
  ) (slices_breakPatternsCmpFunc_int__r__nodeset_Compare a_1 b_2 h0) :=
  callC_le (T := tn) (c := bodyOf Tryz.f87) (o := ⟨[], [[.own .i64 false]]⟩) sigOk 100000 (by kernel_rfl) Tryz.func87 (by kernel_rfl) (by kernel_rfl) (by kernel_rfl)
theorem slices_choosePivotCmpFunc_int__r__nodeset_Compare_le (a_1 : Int) (b_2 : Int) (h0 : List (Int)) : Le (
    bif (leB 8 (subI .i64 b_2 a_1)) then
      bif (leB 50 (subI .i64 b_2 a_1)) then
        Option.bind (slices_medianAdjacentCmpFunc_int__r__nodeset_Compare (addI .i64 a_1 (mulI .i64 (quoI .i64 (subI .i64 b_2 a_1) 4) 1)) h0 0) fun x0 =>
        Option.bind (slices_medianAdjacentCmpFunc_int__r__nodeset_Compare (addI .i64 a_1 (mulI .i64 (quoI .i64 (subI .i64 b_2 a_1) 4) 2)) x0.2.1 x0.2.2) fun x1 =>
        Option.bind (slices_medianAdjacentCmpFunc_int__r__nodeset_Compare (addI .i64 a_1 (mulI .i64 (quoI .i64 (subI .i64 b_2 a_1) 4) 3)) x1.2.1 x1.2.2) fun x2 =>
        Option.bind (slices_medianCmpFunc_int__r__nodeset_Compare x0.1 x1.1 x2.1 x2.2.1 x2.2.2) fun x3 =>
        bif (eqB x3.2.2 0) then
          some (x3.1, 1, x3.2.1)
        else
          bif (eqB x3.2.2 12) then
            some (x3.1, 2, x3.2.1)
          else
            some (x3.1, 0, x3.2.1)
      else
        Option.bind (slices_medianCmpFunc_int__r__nodeset_Compare (addI .i64 a_1 (mulI .i64 (quoI .i64 (subI .i64 b_2 a_1) 4) 1)) (addI .i64 a_1 (mulI .i64 (quoI .i64 (subI .i64 b_2 a_1) 4) 2)) (addI .i64 a_1 (mulI .i64 (quoI .i64 (subI .i64 b_2 a_1) 4) 3)) h0 0) fun x4 =>
        bif (eqB x4.2.2 0) then
          some (x4.1, 1, x4.2.1)
        else
          bif (eqB x4.2.2 12) then
            some (x4.1, 2, x4.2.1)
          else
            some (x4.1, 0, x4.2.1)
    else
      some ((addI .i64 a_1 (mulI .i64 (quoI .i64 (subI .i64 b_2 a_1) 4) 2)), 1, h0)
  ) (slices_choosePivotCmpFunc_int__r__nodeset_Compare a_1 b_2 h0) :=
  callC_le (T := tn) (c := bodyOf Tryz.f88) (o := ⟨[.lf (.i .i64), .lf (.i .i64)], [[.own .i64 false]]⟩) sigOk 100000 (by kernel_rfl) Tryz.func88 (by kernel_rfl) (by kernel_rfl) (by kernel_rfl)
theorem slices_reverseRangeCmpFunc_int__r__nodeset_Compare_le (a_1 : Int) (b_2 : Int) (h0 : List (Int)) : Le (
    slices_reverseRangeCmpFunc_int__r__nodeset_Compare_l1 a_1 (subI .i64 b_2 1) h0
  ) (slices_reverseRangeCmpFunc_int__r__nodeset_Compare a_1 b_2 h0) :=
  callC_le (T := tn) (c := bodyOf Tryz.f89) (o := ⟨[], [[.own .i64 false]]⟩) sigOk 100000 (by kernel_rfl) Tryz.func89 (by kernel_rfl) (by kernel_rfl) (by kernel_rfl)
theorem slices_partialInsertionSortCmpFunc_int__r__nodeset_Compare_le (a_1 : Int) (b_2 : Int) (h0 : List (Int)) : Le (
    slices_partialInsertionSortCmpFunc_int__r__nodeset_Compare_l1 a_1 b_2 (addI .i64 a_1 1) 0 h0
  ) (slices_partialInsertionSortCmpFunc_int__r__nodeset_Compare a_1 b_2 h0) :=
  callC_le (T := tn) (c := bodyOf Tryz.f90) (o := ⟨[.lf .b], [[.own .i64 false]]⟩) sigOk 100000 (by kernel_rfl) Tryz.func90 (by kernel_rfl) (by kernel_rfl) (by kernel_rfl)
theorem nodeset_Compare_le (a_0 : Int) (b_1 : Int) : Le (
    Option.bind (nodeset_rank a_0) fun x0 =>
    Option.bind (nodeset_rank b_1) fun x1 =>
    Option.bind (cmp_Compare_int_ x0 x1) fun x2 =>
    Option.bind (cmp_Compare_int_ a_0 b_1) fun x3 =>
    Option.bind (cmp_Or_int_ ([x2, x3] : List (Int))) fun x4 =>
    some x4
  ) (nodeset_Compare a_0 b_1) :=
  callC_le (T := tn) (c := bodyOf Tryz.f53) (o := ⟨[.lf (.i .i64)], []⟩) sigOk 100000 (by kernel_rfl) Tryz.func53 (by kernel_rfl) (by kernel_rfl) (by kernel_rfl)
theorem slices_partitionEqualCmpFunc_int__r__nodeset_Compare_le (a_1 : Int) (b_2 : Int) (pivot_3 : Int) (h0 : List (Int)) : Le (
    nth h0 pivot_3 fun _ =>
    nth h0 a_1 fun _ =>
    nthN h0 (Int.toNat pivot_3) fun y0 =>
    nthN h0 (Int.toNat a_1) fun y1 =>
    nth h0 a_1 fun _ =>
    nthN h0 (Int.toNat a_1) fun _y2 =>
    nth (List.set h0 (Int.toNat a_1) y0) pivot_3 fun _ =>
    nthN (List.set h0 (Int.toNat a_1) y0) (Int.toNat pivot_3) fun _y3 =>
    slices_partitionEqualCmpFunc_int__r__nodeset_Compare_l1 a_1 (addI .i64 a_1 1) (subI .i64 b_2 1) (List.set (List.set h0 (Int.toNat a_1) y0) (Int.toNat pivot_3) y1)
  ) (slices_partitionEqualCmpFunc_int__r__nodeset_Compare a_1 b_2 pivot_3 h0) :=
  callC_le (T := tn) (c := bodyOf Tryz.f91) (o := ⟨[.lf (.i .i64)], [[.own .i64 false]]⟩) sigOk 100000 (by kernel_rfl) Tryz.func91 (by kernel_rfl) (by kernel_rfl) (by kernel_rfl)
theorem slices_partitionCmpFunc_int__r__nodeset_Compare_le (a_1 : Int) (b_2 : Int) (pivot_3 : Int) (h0 : List (Int)) : Le (
    nth h0 pivot_3 fun _ =>
    nth h0 a_1 fun _ =>
    nthN h0 (Int.toNat pivot_3) fun y0 =>
    nthN h0 (Int.toNat a_1) fun y1 =>
    nth h0 a_1 fun _ =>
    nthN h0 (Int.toNat a_1) fun _y2 =>
    nth (List.set h0 (Int.toNat a_1) y0) pivot_3 fun _ =>
    nthN (List.set h0 (Int.toNat a_1) y0) (Int.toNat pivot_3) fun _y3 =>
    slices_partitionCmpFunc_int__r__nodeset_Compare_l1 a_1 (addI .i64 a_1 1) (subI .i64 b_2 1) (List.set (List.set h0 (Int.toNat a_1) y0) (Int.toNat pivot_3) y1)
  ) (slices_partitionCmpFunc_int__r__nodeset_Compare a_1 b_2 pivot_3 h0) :=
  callC_le (T := tn) (c := bodyOf Tryz.f92) (o := ⟨[.lf (.i .i64), .lf .b], [[.own .i64 false]]⟩) sigOk 100000 (by kernel_rfl) Tryz.func92 (by kernel_rfl) (by kernel_rfl) (by kernel_rfl)
theorem slices_nextPowerOfTwo_le (length_0 : Int) : Le (
    Option.bind (bits_Len (IntKind.wrap .u64 length_0)) fun x0 =>
    chk (0 ≤ x0) <|
    some (shlI .u64 1 x0)
  ) (slices_nextPowerOfTwo length_0) :=
  callC_le (T := tn) (c := bodyOf Tryz.f101) (o := ⟨[.lf (.i .u64)], []⟩) sigOk 100000 (by kernel_rfl) Tryz.func101 (by kernel_rfl) (by kernel_rfl) (by kernel_rfl)
theorem slices_medianAdjacentCmpFunc_int__r__nodeset_Compare_le (a_1 : Int) (h0 : List (Int)) (h1 : Int) : Le (
    Option.bind (slices_medianCmpFunc_int__r__nodeset_Compare (subI .i64 a_1 1) a_1 (addI .i64 a_1 1) h0 h1) fun x0 =>
    some (x0.1, x0.2.1, x0.2.2)
  ) (slices_medianAdjacentCmpFunc_int__r__nodeset_Compare a_1 h0 h1) :=
  callC_le (T := tn) (c := bodyOf Tryz.f103) (o := ⟨[.lf (.i .i64)], [[.own .i64 false], [.lf (.i .i64)]]⟩) sigOk 100000 (by kernel_rfl) Tryz.func103 (by kernel_rfl) (by kernel_rfl) (by kernel_rfl)
theorem slices_medianCmpFunc_int__r__nodeset_Compare_le (a_1 : Int) (b_2 : Int) (c_3 : Int) (h0 : List (Int)) (h1 : Int) : Le (
    Option.bind (slices_order2CmpFunc_int__r__nodeset_Compare a_1 b_2 h0 h1) fun x0 =>
    Option.bind (slices_order2CmpFunc_int__r__nodeset_Compare x0.2.1 c_3 x0.2.2.1 x0.2.2.2) fun x1 =>
    Option.bind (slices_order2CmpFunc_int__r__nodeset_Compare x0.1 x1.1 x1.2.2.1 x1.2.2.2) fun x2 =>
    some (x2.2.1, x2.2.2.1, x2.2.2.2)
  ) (slices_medianCmpFunc_int__r__nodeset_Compare a_1 b_2 c_3 h0 h1) :=
  callC_le (T := tn) (c := bodyOf Tryz.f104) (o := ⟨[.lf (.i .i64)], [[.own .i64 false], [.lf (.i .i64)]]⟩) sigOk 100000 (by kernel_rfl) Tryz.func104 (by kernel_rfl) (by kernel_rfl) (by kernel_rfl)
theorem nodeset_rank_le (s_0 : Int) : Le (
    Option.bind (nodeset_Valid s_0) fun x0 =>
    bif (!x0) then
      some (-1)
    else
      Option.bind (nodeset_Size s_0) fun x1 =>
      some x1
  ) (nodeset_rank s_0) :=
  callC_le (T := tn) (c := bodyOf Tryz.f75) (o := ⟨[.lf (.i .i64)], []⟩) sigOk 100000 (by kernel_rfl) Tryz.func75 (by kernel_rfl) (by kernel_rfl) (by kernel_rfl)
theorem cmp_Compare_int__le (x_0 : Int) (y_1 : Int) : Le (
    Option.bind (cmp_isNaN_int_ x_0) fun x0 =>
    Option.bind (cmp_isNaN_int_ y_1) fun x1 =>
    bif x0 then
      bif x1 then
        some 0
      else
        some (-1)
    else
      bif x1 then
        some 1
      else
        bif (ltB x_0 y_1) then
          some (-1)
        else
          bif (ltB y_1 x_0) then
            some 1
          else
            some 0
  ) (cmp_Compare_int_ x_0 y_1) :=
  callC_le (T := tn) (c := bodyOf Tryz.f74) (o := ⟨[.lf (.i .i64)], []⟩) sigOk 100000 (by kernel_rfl) Tryz.func74 (by kernel_rfl) (by kernel_rfl) (by kernel_rfl)
theorem cmp_Or_int__le (vals_0 : List (Int)) : Le (
    cmp_Or_int__l1 0 vals_0 ((List.length vals_0 : Nat) : Int) 0
  ) (cmp_Or_int_ vals_0) :=
  callC_le (T := tn) (c := bodyOf Tryz.f73) (o := ⟨[.lf (.i .i64)], []⟩) sigOk 100000 (by kernel_rfl) Tryz.func73 (by kernel_rfl) (by kernel_rfl) (by kernel_rfl)
theorem slices_order2CmpFunc_int__r__nodeset_Compare_le (a_1 : Int) (b_2 : Int) (h0 : List (Int)) (h1 : Int) : Le (
    nth h0 b_2 fun _ =>
    nth h0 a_1 fun _ =>
    nthN h0 (Int.toNat b_2) fun y0 =>
    nthN h0 (Int.toNat a_1) fun y1 =>
    Option.bind (nodeset_Compare y0 y1) fun x2 =>
    bif (ltB x2 0) then
      some (b_2, a_1, h0, (addI .i64 h1 1))
    else
      some (a_1, b_2, h0, h1)
  ) (slices_order2CmpFunc_int__r__nodeset_Compare a_1 b_2 h0 h1) :=
  callC_le (T := tn) (c := bodyOf Tryz.f106) (o := ⟨[.lf (.i .i64), .lf (.i .i64)], [[.own .i64 false], [.lf (.i .i64)]]⟩) sigOk 100000 (by kernel_rfl) Tryz.func106 (by kernel_rfl) (by kernel_rfl) (by kernel_rfl)
theorem nodeset_Size_le (s_0 : Int) : Le (
    Option.bind (nodeset_Valid s_0) fun x0 =>
    bif (!x0) then
      some 0
    else
      Option.bind (bits_OnesCount (IntKind.wrap .u64 s_0)) fun x1 =>
      some x1
  ) (nodeset_Size s_0) :=
  callC_le (T := tn) (c := bodyOf Tryz.f96) (o := ⟨[.lf (.i .i64)], []⟩) sigOk 100000 (by kernel_rfl) Tryz.func96 (by kernel_rfl) (by kernel_rfl) (by kernel_rfl)
theorem cmp_isNaN_int__le (x_0 : Int) : Le (
    some (neB x_0 x_0)
  ) (cmp_isNaN_int_ x_0) :=
  callC_le (T := tn) (c := bodyOf Tryz.f95) (o := ⟨[.lf .b], []⟩) sigOk 100000 (by kernel_rfl) Tryz.func95 (by kernel_rfl) (by kernel_rfl) (by kernel_rfl)
theorem bits_OnesCount_le (x_0 : Int) : Le (
    Option.bind (bits_OnesCount64 x_0) fun x0 =>
    some x0
  ) (bits_OnesCount x_0) :=
  callC_le (T := tn) (c := bodyOf Tryz.f105) (o := ⟨[.lf (.i .i64)], []⟩) sigOk 100000 (by kernel_rfl) Tryz.func105 (by kernel_rfl) (by kernel_rfl) (by kernel_rfl)
theorem bits_OnesCount64_le (x_0 : Int) : Le (
    some (andI .i64 (IntKind.wrap .i64 (addI .u64 (addI .u64 (addI .u64 (andI .u64 (addI .u64 (shrI .u64 (addI .u64 (andI .u64 (shrI .u64 (addI .u64 (andI .u64 (shrI .u64 x_0 1) 6148914691236517205) (andI .u64 x_0 6148914691236517205)) 2) 3689348814741910323) (andI .u64 (addI .u64 (andI .u64 (shrI .u64 x_0 1) 6148914691236517205) (andI .u64 x_0 6148914691236517205)) 3689348814741910323)) 4) (addI .u64 (andI .u64 (shrI .u64 (addI .u64 (andI .u64 (shrI .u64 x_0 1) 6148914691236517205) (andI .u64 x_0 6148914691236517205)) 2) 3689348814741910323) (andI .u64 (addI .u64 (andI .u64 (shrI .u64 x_0 1) 6148914691236517205) (andI .u64 x_0 6148914691236517205)) 3689348814741910323))) 1085102592571150095) (shrI .u64 (andI .u64 (addI .u64 (shrI .u64 (addI .u64 (andI .u64 (shrI .u64 (addI .u64 (andI .u64 (shrI .u64 x_0 1) 6148914691236517205) (andI .u64 x_0 6148914691236517205)) 2) 3689348814741910323) (andI .u64 (addI .u64 (andI .u64 (shrI .u64 x_0 1) 6148914691236517205) (andI .u64 x_0 6148914691236517205)) 3689348814741910323)) 4) (addI .u64 (andI .u64 (shrI .u64 (addI .u64 (andI .u64 (shrI .u64 x_0 1) 6148914691236517205) (andI .u64 x_0 6148914691236517205)) 2) 3689348814741910323) (andI .u64 (addI .u64 (andI .u64 (shrI .u64 x_0 1) 6148914691236517205) (andI .u64 x_0 6148914691236517205)) 3689348814741910323))) 1085102592571150095) 8)) (shrI .u64 (addI .u64 (andI .u64 (addI .u64 (shrI .u64 (addI .u64 (andI .u64 (shrI .u64 (addI .u64 (andI .u64 (shrI .u64 x_0 1) 6148914691236517205) (andI .u64 x_0 6148914691236517205)) 2) 3689348814741910323) (andI .u64 (addI .u64 (andI .u64 (shrI .u64 x_0 1) 6148914691236517205) (andI .u64 x_0 6148914691236517205)) 3689348814741910323)) 4) (addI .u64 (andI .u64 (shrI .u64 (addI .u64 (andI .u64 (shrI .u64 x_0 1) 6148914691236517205) (andI .u64 x_0 6148914691236517205)) 2) 3689348814741910323) (andI .u64 (addI .u64 (andI .u64 (shrI .u64 x_0 1) 6148914691236517205) (andI .u64 x_0 6148914691236517205)) 3689348814741910323))) 1085102592571150095) (shrI .u64 (andI .u64 (addI .u64 (shrI .u64 (addI .u64 (andI .u64 (shrI .u64 (addI .u64 (andI .u64 (shrI .u64 x_0 1) 6148914691236517205) (andI .u64 x_0 6148914691236517205)) 2) 3689348814741910323) (andI .u64 (addI .u64 (andI .u64 (shrI .u64 x_0 1) 6148914691236517205) (andI .u64 x_0 6148914691236517205)) 3689348814741910323)) 4) (addI .u64 (andI .u64 (shrI .u64 (addI .u64 (andI .u64 (shrI .u64 x_0 1) 6148914691236517205) (andI .u64 x_0 6148914691236517205)) 2) 3689348814741910323) (andI .u64 (addI .u64 (andI .u64 (shrI .u64 x_0 1) 6148914691236517205) (andI .u64 x_0 6148914691236517205)) 3689348814741910323))) 1085102592571150095) 8)) 16)) (shrI .u64 (addI .u64 (addI .u64 (andI .u64 (addI .u64 (shrI .u64 (addI .u64 (andI .u64 (shrI .u64 (addI .u64 (andI .u64 (shrI .u64 x_0 1) 6148914691236517205) (andI .u64 x_0 6148914691236517205)) 2) 3689348814741910323) (andI .u64 (addI .u64 (andI .u64 (shrI .u64 x_0 1) 6148914691236517205) (andI .u64 x_0 6148914691236517205)) 3689348814741910323)) 4) (addI .u64 (andI .u64 (shrI .u64 (addI .u64 (andI .u64 (shrI .u64 x_0 1) 6148914691236517205) (andI .u64 x_0 6148914691236517205)) 2) 3689348814741910323) (andI .u64 (addI .u64 (andI .u64 (shrI .u64 x_0 1) 6148914691236517205) (andI .u64 x_0 6148914691236517205)) 3689348814741910323))) 1085102592571150095) (shrI .u64 (andI .u64 (addI .u64 (shrI .u64 (addI .u64 (andI .u64 (shrI .u64 (addI .u64 (andI .u64 (shrI .u64 x_0 1) 6148914691236517205) (andI .u64 x_0 6148914691236517205)) 2) 3689348814741910323) (andI .u64 (addI .u64 (andI .u64 (shrI .u64 x_0 1) 6148914691236517205) (andI .u64 x_0 6148914691236517205)) 3689348814741910323)) 4) (addI .u64 (andI .u64 (shrI .u64 (addI .u64 (andI .u64 (shrI .u64 x_0 1) 6148914691236517205) (andI .u64 x_0 6148914691236517205)) 2) 3689348814741910323) (andI .u64 (addI .u64 (andI .u64 (shrI .u64 x_0 1) 6148914691236517205) (andI .u64 x_0 6148914691236517205)) 3689348814741910323))) 1085102592571150095) 8)) (shrI .u64 (addI .u64 (andI .u64 (addI .u64 (shrI .u64 (addI .u64 (andI .u64 (shrI .u64 (addI .u64 (andI .u64 (shrI .u64 x_0 1) 6148914691236517205) (andI .u64 x_0 6148914691236517205)) 2) 3689348814741910323) (andI .u64 (addI .u64 (andI .u64 (shrI .u64 x_0 1) 6148914691236517205) (andI .u64 x_0 6148914691236517205)) 3689348814741910323)) 4) (addI .u64 (andI .u64 (shrI .u64 (addI .u64 (andI .u64 (shrI .u64 x_0 1) 6148914691236517205) (andI .u64 x_0 6148914691236517205)) 2) 3689348814741910323) (andI .u64 (addI .u64 (andI .u64 (shrI .u64 x_0 1) 6148914691236517205) (andI .u64 x_0 6148914691236517205)) 3689348814741910323))) 1085102592571150095) (shrI .u64 (andI .u64 (addI .u64 (shrI .u64 (addI .u64 (andI .u64 (shrI .u64 (addI .u64 (andI .u64 (shrI .u64 x_0 1) 6148914691236517205) (andI .u64 x_0 6148914691236517205)) 2) 3689348814741910323) (andI .u64 (addI .u64 (andI .u64 (shrI .u64 x_0 1) 6148914691236517205) (andI .u64 x_0 6148914691236517205)) 3689348814741910323)) 4) (addI .u64 (andI .u64 (shrI .u64 (addI .u64 (andI .u64 (shrI .u64 x_0 1) 6148914691236517205) (andI .u64 x_0 6148914691236517205)) 2) 3689348814741910323) (andI .u64 (addI .u64 (andI .u64 (shrI .u64 x_0 1) 6148914691236517205) (andI .u64 x_0 6148914691236517205)) 3689348814741910323))) 1085102592571150095) 8)) 16)) 32))) 127)
  ) (bits_OnesCount64 x_0) :=
  callC_le (T := tn) (c := bodyOf Tryz.f108) (o := ⟨[.lf (.i .i64)], []⟩) sigOk 100000 (by kernel_rfl) Tryz.func108 (by kernel_rfl) (by kernel_rfl) (by kernel_rfl)
theorem ref10_Parts_l1_le (a1 : List (Int)) (a3 : Int) (a5 : List (Int)) (a7 : Int) (a9 : Int) (a11 : List (Member)) : Le (
    bif (ltB a9 a7) then
      nth a5 a9 fun y0 =>
      Option.bind (ref01_Has a3 y0) fun x1 =>
      bif x1 then
        ref10_Parts_l1 a1 a3 a5 a7 (addI .i64 a9 1) a11
      else
        Option.bind (ref10_reach (Config.mk a11) y0) fun x2 =>
        Option.bind (ref01_Nodes x2) fun x3 =>
        ref10_Parts_l2 a1 a3 y0 0 a5 a7 a9 x3 ((List.length x3 : Nat) : Int) 0 a11
    else
      some (a1, 0)
  ) (ref10_Parts_l1 a1 a3 a5 a7 a9 a11) :=
  goC_loopAt (T := tn) (o := ⟨[.lf (.l .i64), .lf (.i .i64)], []⟩) sigOk 100000 (b := codeAt Tryz.f14 [1, 1, 1, 1, 0, 1, 0, 0]) (by kernel_rfl) (by kernel_rfl)
theorem ref01_Has_le (s_0 : Int) (node_1 : Int) : Le (
    Option.bind (ref01_Valid s_0) fun x0 =>
    bif x0 then
      bif (leB 0 node_1) then
        bif (ltB node_1 10) then
          chk (0 ≤ node_1) <|
          some (eqB (andI .i64 (shrI .i64 s_0 node_1) 1) 1)
        else
          some false
      else
        some false
    else
      some false
  ) (ref01_Has s_0 node_1) :=
  callC_le (T := tn) (c := bodyOf Tryz.f41) (o := ⟨[.lf .b], []⟩) sigOk 100000 (by kernel_rfl) Tryz.func41 (by kernel_rfl) (by kernel_rfl) (by kernel_rfl)
theorem ref10_reach_le (c_0 : Config) (k_1 : Int) : Le (
    chk (0 ≤ k_1) <|
    ref10_reach_l1 (shlI .i64 1 k_1) true c_0.Members
  ) (ref10_reach c_0 k_1) :=
  callC_le (T := tn) (c := bodyOf Tryz.f42) (o := ⟨[.lf (.i .i64)], []⟩) sigOk 100000 (by kernel_rfl) Tryz.func42 (by kernel_rfl) (by kernel_rfl) (by kernel_rfl)
theorem ref01_Valid_le (s_0 : Int) : Le (
    bif (leB 0 s_0) then
      some (leB s_0 1023)
    else
      some false
  ) (ref01_Valid s_0) :=
  callC_le (T := tn) (c := bodyOf Tryz.f59) (o := ⟨[.lf .b], []⟩) sigOk 100000 (by kernel_rfl) Tryz.func59 (by kernel_rfl) (by kernel_rfl) (by kernel_rfl)
theorem quorums_Core_l1_le (a0 : Int) (a2 : Int) (a4 : List (Int)) (a6 : Int) (a8 : Int) (a10 : List (Member)) : Le (
    bif (ltB a8 a6) then
      nth a4 a8 fun y0 =>
      quorums_Core_l1 a0 (orI .i64 a2 y0) a4 a6 (addI .i64 a8 1) a10
    else
      some (a2, a0)
  ) (quorums_Core_l1 a0 a2 a4 a6 a8 a10) :=
  goC_loopAt (T := tn) (o := ⟨[.lf (.i .i64), .lf (.i .i64)], []⟩) sigOk 100000 (b := codeAt Tryz.f15 [1, 1, 1, 0, 1, 0, 0]) (by kernel_rfl) (by kernel_rfl)
theorem ref10_Core_l1_le (a0 : Int) (a2 : Int) (a4 : List (Int)) (a6 : Int) (a8 : Int) (a10 : List (Member)) : Le (
    bif (ltB a8 a6) then
      nth a4 a8 fun y0 =>
      ref10_Core_l1 a0 (orI .i64 a2 y0) a4 a6 (addI .i64 a8 1) a10
    else
      some (a2, a0)
  ) (ref10_Core_l1 a0 a2 a4 a6 a8 a10) :=
  goC_loopAt (T := tn) (o := ⟨[.lf (.i .i64), .lf (.i .i64)], []⟩) sigOk 100000 (b := codeAt Tryz.f16 [1, 1, 1, 0, 1, 0, 0]) (by kernel_rfl) (by kernel_rfl)
theorem quorums_Symmetric_l1_le (a1 : List (Int)) (a3 : Int) (a5 : Int) (a7 : List (Member)) : Le (
    bif (ltB a5 a3) then
      quorums_Symmetric_l2 a1 a5 a3 a5 a1 ((List.length a1 : Nat) : Int) 0 a7
    else
      some (true, 0)
  ) (quorums_Symmetric_l1 a1 a3 a5 a7) :=
  goC_loopAt (T := tn) (o := ⟨[.lf .b, .lf (.i .i64)], []⟩) sigOk 100000 (b := codeAt Tryz.f17 [1, 1, 1, 0, 1, 0, 0]) (by kernel_rfl) (by kernel_rfl)
theorem ref10_Symmetric_l1_le (a1 : List (Int)) (a3 : List (Int)) (a5 : Int) (a7 : Int) (a9 : List (Member)) : Le (
    bif (ltB a7 a5) then
      nth a3 a7 fun y0 =>
      ref10_Symmetric_l2 a1 y0 0 a3 a5 a7 a9
    else
      some (true, 0)
  ) (ref10_Symmetric_l1 a1 a3 a5 a7 a9) :=
  goC_loopAt (T := tn) (o := ⟨[.lf .b, .lf (.i .i64)], []⟩) sigOk 100000 (b := codeAt Tryz.f18 [1, 1, 1, 0, 1, 0, 0]) (by kernel_rfl) (by kernel_rfl)
theorem ref06_Valid_l1_le (a1 : List (Member)) (a3 : Int) (a5 : Int) (a7 : List (Member)) : Le (
    bif (ltB a5 a3) then
      nth a1 a5 fun y0 =>
      bif (!y0.Declared) then
        Option.bind (ref02_Same y0.Trust (Trust.mk 0 ([] : List (Int)) ([] : List (Trust)))) fun x1 =>
        bif (!x1) then
          some 1
        else
          ref06_Valid_l1 a1 a3 (addI .i64 a5 1) a7
      else
        Option.bind (ref02_Valid y0.Trust) fun x2 =>
        bif (neB x2 0) then
          some x2
        else
          chk (0 ≤ ((List.length a7 : Nat) : Int)) <|
          Option.bind (ref02_Uses y0.Trust) fun x3 =>
          bif (leB (shlI .i64 1 ((List.length a7 : Nat) : Int)) x3) then
            some 5
          else
            ref06_Valid_l1 a1 a3 (addI .i64 a5 1) a7
    else
      some 0
  ) (ref06_Valid_l1 a1 a3 a5 a7) :=
  goC_loopAt (T := tn) (o := ⟨[.lf (.i .i64)], []⟩) sigOk 100000 (b := codeAt Tryz.f32 [1, 1, 0, 1, 0, 0]) (by kernel_rfl) (by kernel_rfl)
theorem ref02_Same_le (a_0 : Trust) (b_1 : Trust) : Le (
    bif (neB a_0.Threshold b_1.Threshold) then
      some false
    else
      Option.bind (ref01_Same a_0.Nodes b_1.Nodes) fun x0 =>
      bif (!x0) then
        some false
      else
        bif (neB ((List.length a_0.Inner : Nat) : Int) ((List.length b_1.Inner : Nat) : Int)) then
          some false
        else
          ref02_Same_l1 ((List.length a_0.Inner : Nat) : Int) 0 a_0.Threshold a_0.Nodes a_0.Inner b_1.Threshold b_1.Nodes b_1.Inner
  ) (ref02_Same a_0 b_1) :=
  callC_le (T := tn) (c := bodyOf Tryz.f57) (o := ⟨[.lf .b], []⟩) sigOk 100000 (by kernel_rfl) Tryz.func57 (by kernel_rfl) (by kernel_rfl) (by kernel_rfl)
theorem ref02_Uses_le (t_0 : Trust) : Le (
    ref02_Uses_l1 0 t_0.Nodes ((List.length t_0.Nodes : Nat) : Int) 0 t_0.Threshold t_0.Nodes t_0.Inner
  ) (ref02_Uses t_0) :=
  callC_le (T := tn) (c := bodyOf Tryz.f58) (o := ⟨[.lf (.i .i64)], []⟩) sigOk 100000 (by kernel_rfl) Tryz.func58 (by kernel_rfl) (by kernel_rfl) (by kernel_rfl)
theorem ref01_Same_le (a_0 : List (Int)) (b_1 : List (Int)) : Le (
    bif (neB ((List.length a_0 : Nat) : Int) ((List.length b_1 : Nat) : Int)) then
      some false
    else
      ref01_Same_l1 a_0 b_1 ((List.length a_0 : Nat) : Int) 0
  ) (ref01_Same a_0 b_1) :=
  callC_le (T := tn) (c := bodyOf Tryz.f78) (o := ⟨[.lf .b], []⟩) sigOk 100000 (by kernel_rfl) Tryz.func78 (by kernel_rfl) (by kernel_rfl) (by kernel_rfl)
theorem ref10_all_l1_le (a1 : List (Int)) (a3 : Int) (a5 : List (Member)) : Le (
    chk (0 ≤ ((List.length a5 : Nat) : Int)) <|
    bif (ltB a3 (shlI .i64 1 ((List.length a5 : Nat) : Int))) then
      Option.bind (ref09_Quorum (Config.mk a5) a3) fun x0 =>
      bif x0 then
        capOk (List.length a1 + List.length ([a3] : List (Int))) <|
        ref10_all_l1 (a1 ++ ([a3] : List (Int))) (addI .i64 a3 1) a5
      else
        ref10_all_l1 a1 (addI .i64 a3 1) a5
    else
      some a1
  ) (ref10_all_l1 a1 a3 a5) :=
  goC_loopAt (T := tn) (o := ⟨[.lf (.l .i64)], []⟩) sigOk 100000 (b := codeAt Tryz.f34 [1, 1, 0, 1, 0, 0]) (by kernel_rfl) (by kernel_rfl)
theorem ref09_Quorum_le (c_0 : Config) (s_1 : Int) : Le (
    Option.bind (ref01_Valid s_1) fun x0 =>
    bif (!x0) then
      some false
    else
      bif (eqB s_1 0) then
        some false
      else
        Option.bind (ref06_Declared c_0) fun x1 =>
        bif (neB (andI .i64 s_1 x1) s_1) then
          some false
        else
          Option.bind (ref01_Nodes s_1) fun x2 =>
          ref09_Quorum_l1 s_1 x2 ((List.length x2 : Nat) : Int) 0 c_0.Members
  ) (ref09_Quorum c_0 s_1) :=
  callC_le (T := tn) (c := bodyOf Tryz.f61) (o := ⟨[.lf .b], []⟩) sigOk 100000 (by kernel_rfl) Tryz.func61 (by kernel_rfl) (by kernel_rfl) (by kernel_rfl)
theorem ref01_Least_l1_le (a0 : List (Int)) (a2 : List (Int)) (a4 : List (Int)) (a6 : Int) (a8 : Int) : Le (
    bif (ltB a8 a6) then
      nth a4 a8 fun y0 =>
      Option.bind (ref01_Valid y0) fun x1 =>
      ref01_Least_l2 a0 a2 y0 x1 a4 a6 a8 a0 ((List.length a0 : Nat) : Int) 0
    else
      some a2
  ) (ref01_Least_l1 a0 a2 a4 a6 a8) :=
  goC_loopAt (T := tn) (o := ⟨[.lf (.l .i64)], []⟩) sigOk 100000 (b := codeAt Tryz.f33 [1, 1, 0, 1, 0, 0]) (by kernel_rfl) (by kernel_rfl)
end Go.Proofs.YtflmdbdigoeclaaGreat
