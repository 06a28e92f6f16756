/- What the functions come to, printed by a program and checked by the kernel. -/
import Derived.Test.YtfjcndlhpfbcgaaP16Df
namespace Go.Proofs.Ytfjcndlhpfbcgaa
open Go Go.Ab
set_option maxRecDepth 100000
theorem ref02_Depth_le (t_0 : Trust) : Le (
    ref02_Depth_l1 0 t_0.Inner ((List.length t_0.Inner : Nat) : Int) 0 t_0.Threshold t_0.Nodes t_0.Inner
  ) (ref02_Depth t_0) :=
  callC_le (T := tn) (c := bodyOf Try.f58) (o := ⟨[.lf (.i .i64)], []⟩) sigOk 100000 (by kernel_rfl) Try.func58 (by kernel_rfl) (by kernel_rfl) (by kernel_rfl)
theorem ref02_Size_le (t_0 : Trust) : Le (
    ref02_Size_l1 (addI .i64 ((List.length t_0.Nodes : Nat) : Int) ((List.length t_0.Inner : Nat) : Int)) t_0.Inner ((List.length t_0.Inner : Nat) : Int) 0 t_0.Threshold t_0.Nodes t_0.Inner
  ) (ref02_Size t_0) :=
  callC_le (T := tn) (c := bodyOf Try.f59) (o := ⟨[.lf (.i .i64)], []⟩) sigOk 100000 (by kernel_rfl) Try.func59 (by kernel_rfl) (by kernel_rfl) (by kernel_rfl)
theorem ref02_check_le (t_0 : Trust) : Le (
    bif (ltB t_0.Threshold 1) then
      some 4
    else
      bif (ltB (addI .i64 ((List.length t_0.Nodes : Nat) : Int) ((List.length t_0.Inner : Nat) : Int)) t_0.Threshold) then
        some 4
      else
        ref02_check_l1 t_0.Nodes ((List.length t_0.Nodes : Nat) : Int) 0 t_0.Threshold t_0.Nodes t_0.Inner
  ) (ref02_check t_0) :=
  callC_le (T := tn) (c := bodyOf Try.f60) (o := ⟨[.lf (.i .i64)], []⟩) sigOk 100000 (by kernel_rfl) Try.func60 (by kernel_rfl) (by kernel_rfl) (by kernel_rfl)
theorem law16_same_l1_le (a0 : Int) (a4 : Int) (a6 : List (Member)) (a8 : Int) (a10 : List (Int)) (a12 : List (Trust)) : Le (
    bif (ltB a4 a0) then
      capOk (List.length a10 + List.length ([a4] : List (Int))) <|
      law16_same_l1 a0 (addI .i64 a4 1) a6 a8 (a10 ++ ([a4] : List (Int))) a12
    else
      law16_same_l2 a0 0 a6 a8 a10 a12 ([] : List (Member))
  ) (law16_same_l1 a0 a4 a6 a8 a10 a12) :=
  goC_loopAt (T := tn) (o := ⟨[.ag .Config], []⟩) sigOk 100000 (b := codeAt Try.f5 [1, 1, 0, 1, 0, 0]) (by kernel_rfl) (by kernel_rfl)
theorem danger_least__danger_splits_l1_le (a2 : List (Int)) (a4 : List (Int)) (a6 : Int) (a8 : Int) (a10 : List (Member)) : Le (
    bif (ltB a8 a6) then
      nth a4 a8 fun y0 =>
      Option.bind (danger_splits (Config.mk a10) y0) fun x1 =>
      bif x1 then
        capOk (List.length a2 + List.length ([y0] : List (Int))) <|
        danger_least__danger_splits_l1 (a2 ++ ([y0] : List (Int))) a4 a6 (addI .i64 a8 1) a10
      else
        danger_least__danger_splits_l1 a2 a4 a6 (addI .i64 a8 1) a10
    else
      Option.bind (nodeset_Least a2) fun x2 =>
      some x2
  ) (danger_least__danger_splits_l1 a2 a4 a6 a8 a10) :=
  goC_loopAt (T := tn) (o := ⟨[.lf (.l .i64)], []⟩) sigOk 100000 (b := codeAt Try.f16 [1, 1, 0, 1, 0, 0]) (by kernel_rfl) (by kernel_rfl)
theorem nodeset_Least_le (l_0 : List (Int)) : Le (
    Option.bind (slices_Clone___int_int_ l_0) fun x0 =>
    Option.bind (slices_DeleteFunc___int_int__r__nodeset_Least_1 x0.2) fun x1 =>
    Option.bind (slices_SortFunc___int_int__r__nodeset_Compare x1.2) fun x2 =>
    nodeset_Least_l1 ([] : List (Int)) x2 ((List.length x2 : Nat) : Int) 0
  ) (nodeset_Least l_0) :=
  callC_le (T := tn) (c := bodyOf Try.f31) (o := ⟨[.lf (.l .i64)], []⟩) sigOk 100000 (by kernel_rfl) Try.func31 (by kernel_rfl) (by kernel_rfl) (by kernel_rfl)
theorem slices_Clone___int_int__le (s_0 : List (Int)) : Le (
    capOk (List.length ([] : List (Int)) + List.length s_0) <|
    some ((), (([] : List (Int)) ++ s_0))
  ) (slices_Clone___int_int_ s_0) :=
  callC_nil (T := tn) (c := bodyOf Try.f44) (rest := codeAt Try.f44 [1, 1]) (o := ⟨[.ref 0], [[.own .i64 false]]⟩) sigOk 100000 (by kernel_rfl) Try.func44 (by kernel_rfl) (by kernel_rfl) (by kernel_rfl) (by kernel_rfl) (fun hx r hr => by subst hx; cases hr; exact ⟨rfl, rfl⟩)
theorem slices_DeleteFunc___int_int__r__nodeset_Least_1_le (h0 : List (Int)) : Le (
    Option.bind (slices_IndexFunc___int_int__r__nodeset_Least_1 h0) fun x0 =>
    bif (eqB x0.1 (-1)) then
      some ((), x0.2)
    else
      slices_DeleteFunc___int_int__r__nodeset_Least_1_l1 x0.1 (addI .i64 x0.1 1) x0.2
  ) (slices_DeleteFunc___int_int__r__nodeset_Least_1 h0) :=
  callC_le (T := tn) (c := bodyOf Try.f43) (o := ⟨[.ref 0], [[.own .i64 false]]⟩) sigOk 100000 (by kernel_rfl) Try.func43 (by kernel_rfl) (by kernel_rfl) (by kernel_rfl)
theorem slices_SortFunc___int_int__r__nodeset_Compare_le (h0 : List (Int)) : Le (
    Option.bind (bits_Len (IntKind.wrap .u64 ((List.length h0 : Nat) : Int))) fun x0 =>
    Option.bind (slices_pdqsortCmpFunc_int__r__nodeset_Compare 0 ((List.length h0 : Nat) : Int) x0 h0) fun x1 =>
    some x1
  ) (slices_SortFunc___int_int__r__nodeset_Compare h0) :=
  callC_le (T := tn) (c := bodyOf Try.f41) (o := ⟨[], [[.own .i64 false]]⟩) sigOk 100000 (by kernel_rfl) Try.func41 (by kernel_rfl) (by kernel_rfl) (by kernel_rfl)
theorem slices_IndexFunc___int_int__r__nodeset_Least_1_le (h0 : List (Int)) : Le (
    slices_IndexFunc___int_int__r__nodeset_Least_1_l1 ((List.length h0 : Nat) : Int) 0 h0
  ) (slices_IndexFunc___int_int__r__nodeset_Least_1 h0) :=
  callC_le (T := tn) (c := bodyOf Try.f67) (o := ⟨[.lf (.i .i64)], [[.own .i64 false]]⟩) sigOk 100000 (by kernel_rfl) Try.func67 (by kernel_rfl) (by kernel_rfl) (by kernel_rfl)
theorem bits_Len_le (x_0 : Int) : Le (
    Option.bind (bits_Len64 x_0) fun x0 =>
    some x0
  ) (bits_Len x_0) :=
  callC_le (T := tn) (c := bodyOf Try.f63) (o := ⟨[.lf (.i .i64)], []⟩) sigOk 100000 (by kernel_rfl) Try.func63 (by kernel_rfl) (by kernel_rfl) (by kernel_rfl)
theorem slices_pdqsortCmpFunc_int__r__nodeset_Compare_le (a_1 : Int) (b_2 : Int) (limit_3 : Int) (h0 : List (Int)) : Le (
    slices_pdqsortCmpFunc_int__r__nodeset_Compare_l1 a_1 b_2 limit_3 true true h0
  ) (slices_pdqsortCmpFunc_int__r__nodeset_Compare a_1 b_2 limit_3 h0) :=
  callC_le (T := tn) (c := bodyOf Try.f62) (o := ⟨[], [[.own .i64 false]]⟩) sigOk 100000 (by kernel_rfl) Try.func62 (by kernel_rfl) (by kernel_rfl) (by kernel_rfl)
theorem bits_Len64_le (x_0 : Int) : Le (
    bif (leB 4294967296 x_0) then
      bif (leB 65536 (shrI .u64 x_0 32)) then
        bif (leB 256 (shrI .u64 (shrI .u64 x_0 32) 16)) then
          nth ([0, 1, 2, 2, 3, 3, 3, 3, 4, 4, 4, 4, 4, 4, 4, 4, 5, 5, 5, 5, 5, 5, 5, 5, 5, 5, 5, 5, 5, 5, 5, 5, 6, 6, 6, 6, 6, 6, 6, 6, 6, 6, 6, 6, 6, 6, 6, 6, 6, 6, 6, 6, 6, 6, 6, 6, 6, 6, 6, 6, 6, 6, 6, 6, 7, 7, 7, 7, 7, 7, 7, 7, 7, 7, 7, 7, 7, 7, 7, 7, 7, 7, 7, 7, 7, 7, 7, 7, 7, 7, 7, 7, 7, 7, 7, 7, 7, 7, 7, 7, 7, 7, 7, 7, 7, 7, 7, 7, 7, 7, 7, 7, 7, 7, 7, 7, 7, 7, 7, 7, 7, 7, 7, 7, 7, 7, 7, 7, 8, 8, 8, 8, 8, 8, 8, 8, 8, 8, 8, 8, 8, 8, 8, 8, 8, 8, 8, 8, 8, 8, 8, 8, 8, 8, 8, 8, 8, 8, 8, 8, 8, 8, 8, 8, 8, 8, 8, 8, 8, 8, 8, 8, 8, 8, 8, 8, 8, 8, 8, 8, 8, 8, 8, 8, 8, 8, 8, 8, 8, 8, 8, 8, 8, 8, 8, 8, 8, 8, 8, 8, 8, 8, 8, 8, 8, 8, 8, 8, 8, 8, 8, 8, 8, 8, 8, 8, 8, 8, 8, 8, 8, 8, 8, 8, 8, 8, 8, 8, 8, 8, 8, 8, 8, 8, 8, 8, 8, 8, 8, 8, 8, 8, 8, 8, 8, 8, 8, 8, 8, 8, 8, 8, 8, 8, 8, 8] : List UInt8) (IntKind.wrap .u8 (shrI .u64 (shrI .u64 (shrI .u64 x_0 32) 16) 8)) fun y0 =>
          some (addI .i64 56 (IntKind.wrap .i64 ((y0.toNat : Nat) : Int)))
        else
          nth ([0, 1, 2, 2, 3, 3, 3, 3, 4, 4, 4, 4, 4, 4, 4, 4, 5, 5, 5, 5, 5, 5, 5, 5, 5, 5, 5, 5, 5, 5, 5, 5, 6, 6, 6, 6, 6, 6, 6, 6, 6, 6, 6, 6, 6, 6, 6, 6, 6, 6, 6, 6, 6, 6, 6, 6, 6, 6, 6, 6, 6, 6, 6, 6, 7, 7, 7, 7, 7, 7, 7, 7, 7, 7, 7, 7, 7, 7, 7, 7, 7, 7, 7, 7, 7, 7, 7, 7, 7, 7, 7, 7, 7, 7, 7, 7, 7, 7, 7, 7, 7, 7, 7, 7, 7, 7, 7, 7, 7, 7, 7, 7, 7, 7, 7, 7, 7, 7, 7, 7, 7, 7, 7, 7, 7, 7, 7, 7, 8, 8, 8, 8, 8, 8, 8, 8, 8, 8, 8, 8, 8, 8, 8, 8, 8, 8, 8, 8, 8, 8, 8, 8, 8, 8, 8, 8, 8, 8, 8, 8, 8, 8, 8, 8, 8, 8, 8, 8, 8, 8, 8, 8, 8, 8, 8, 8, 8, 8, 8, 8, 8, 8, 8, 8, 8, 8, 8, 8, 8, 8, 8, 8, 8, 8, 8, 8, 8, 8, 8, 8, 8, 8, 8, 8, 8, 8, 8, 8, 8, 8, 8, 8, 8, 8, 8, 8, 8, 8, 8, 8, 8, 8, 8, 8, 8, 8, 8, 8, 8, 8, 8, 8, 8, 8, 8, 8, 8, 8, 8, 8, 8, 8, 8, 8, 8, 8, 8, 8, 8, 8, 8, 8, 8, 8, 8, 8] : List UInt8) (IntKind.wrap .u8 (shrI .u64 (shrI .u64 x_0 32) 16)) fun y1 =>
          some (addI .i64 48 (IntKind.wrap .i64 ((y1.toNat : Nat) : Int)))
      else
        bif (leB 256 (shrI .u64 x_0 32)) then
          nth ([0, 1, 2, 2, 3, 3, 3, 3, 4, 4, 4, 4, 4, 4, 4, 4, 5, 5, 5, 5, 5, 5, 5, 5, 5, 5, 5, 5, 5, 5, 5, 5, 6, 6, 6, 6, 6, 6, 6, 6, 6, 6, 6, 6, 6, 6, 6, 6, 6, 6, 6, 6, 6, 6, 6, 6, 6, 6, 6, 6, 6, 6, 6, 6, 7, 7, 7, 7, 7, 7, 7, 7, 7, 7, 7, 7, 7, 7, 7, 7, 7, 7, 7, 7, 7, 7, 7, 7, 7, 7, 7, 7, 7, 7, 7, 7, 7, 7, 7, 7, 7, 7, 7, 7, 7, 7, 7, 7, 7, 7, 7, 7, 7, 7, 7, 7, 7, 7, 7, 7, 7, 7, 7, 7, 7, 7, 7, 7, 8, 8, 8, 8, 8, 8, 8, 8, 8, 8, 8, 8, 8, 8, 8, 8, 8, 8, 8, 8, 8, 8, 8, 8, 8, 8, 8, 8, 8, 8, 8, 8, 8, 8, 8, 8, 8, 8, 8, 8, 8, 8, 8, 8, 8, 8, 8, 8, 8, 8, 8, 8, 8, 8, 8, 8, 8, 8, 8, 8, 8, 8, 8, 8, 8, 8, 8, 8, 8, 8, 8, 8, 8, 8, 8, 8, 8, 8, 8, 8, 8, 8, 8, 8, 8, 8, 8, 8, 8, 8, 8, 8, 8, 8, 8, 8, 8, 8, 8, 8, 8, 8, 8, 8, 8, 8, 8, 8, 8, 8, 8, 8, 8, 8, 8, 8, 8, 8, 8, 8, 8, 8, 8, 8, 8, 8, 8, 8] : List UInt8) (IntKind.wrap .u8 (shrI .u64 (shrI .u64 x_0 32) 8)) fun y2 =>
          some (addI .i64 40 (IntKind.wrap .i64 ((y2.toNat : Nat) : Int)))
        else
          nth ([0, 1, 2, 2, 3, 3, 3, 3, 4, 4, 4, 4, 4, 4, 4, 4, 5, 5, 5, 5, 5, 5, 5, 5, 5, 5, 5, 5, 5, 5, 5, 5, 6, 6, 6, 6, 6, 6, 6, 6, 6, 6, 6, 6, 6, 6, 6, 6, 6, 6, 6, 6, 6, 6, 6, 6, 6, 6, 6, 6, 6, 6, 6, 6, 7, 7, 7, 7, 7, 7, 7, 7, 7, 7, 7, 7, 7, 7, 7, 7, 7, 7, 7, 7, 7, 7, 7, 7, 7, 7, 7, 7, 7, 7, 7, 7, 7, 7, 7, 7, 7, 7, 7, 7, 7, 7, 7, 7, 7, 7, 7, 7, 7, 7, 7, 7, 7, 7, 7, 7, 7, 7, 7, 7, 7, 7, 7, 7, 8, 8, 8, 8, 8, 8, 8, 8, 8, 8, 8, 8, 8, 8, 8, 8, 8, 8, 8, 8, 8, 8, 8, 8, 8, 8, 8, 8, 8, 8, 8, 8, 8, 8, 8, 8, 8, 8, 8, 8, 8, 8, 8, 8, 8, 8, 8, 8, 8, 8, 8, 8, 8, 8, 8, 8, 8, 8, 8, 8, 8, 8, 8, 8, 8, 8, 8, 8, 8, 8, 8, 8, 8, 8, 8, 8, 8, 8, 8, 8, 8, 8, 8, 8, 8, 8, 8, 8, 8, 8, 8, 8, 8, 8, 8, 8, 8, 8, 8, 8, 8, 8, 8, 8, 8, 8, 8, 8, 8, 8, 8, 8, 8, 8, 8, 8, 8, 8, 8, 8, 8, 8, 8, 8, 8, 8, 8, 8] : List UInt8) (IntKind.wrap .u8 (shrI .u64 x_0 32)) fun y3 =>
          some (addI .i64 32 (IntKind.wrap .i64 ((y3.toNat : Nat) : Int)))
    else
      bif (leB 65536 x_0) then
        bif (leB 256 (shrI .u64 x_0 16)) then
          nth ([0, 1, 2, 2, 3, 3, 3, 3, 4, 4, 4, 4, 4, 4, 4, 4, 5, 5, 5, 5, 5, 5, 5, 5, 5, 5, 5, 5, 5, 5, 5, 5, 6, 6, 6, 6, 6, 6, 6, 6, 6, 6, 6, 6, 6, 6, 6, 6, 6, 6, 6, 6, 6, 6, 6, 6, 6, 6, 6, 6, 6, 6, 6, 6, 7, 7, 7, 7, 7, 7, 7, 7, 7, 7, 7, 7, 7, 7, 7, 7, 7, 7, 7, 7, 7, 7, 7, 7, 7, 7, 7, 7, 7, 7, 7, 7, 7, 7, 7, 7, 7, 7, 7, 7, 7, 7, 7, 7, 7, 7, 7, 7, 7, 7, 7, 7, 7, 7, 7, 7, 7, 7, 7, 7, 7, 7, 7, 7, 8, 8, 8, 8, 8, 8, 8, 8, 8, 8, 8, 8, 8, 8, 8, 8, 8, 8, 8, 8, 8, 8, 8, 8, 8, 8, 8, 8, 8, 8, 8, 8, 8, 8, 8, 8, 8, 8, 8, 8, 8, 8, 8, 8, 8, 8, 8, 8, 8, 8, 8, 8, 8, 8, 8, 8, 8, 8, 8, 8, 8, 8, 8, 8, 8, 8, 8, 8, 8, 8, 8, 8, 8, 8, 8, 8, 8, 8, 8, 8, 8, 8, 8, 8, 8, 8, 8, 8, 8, 8, 8, 8, 8, 8, 8, 8, 8, 8, 8, 8, 8, 8, 8, 8, 8, 8, 8, 8, 8, 8, 8, 8, 8, 8, 8, 8, 8, 8, 8, 8, 8, 8, 8, 8, 8, 8, 8, 8] : List UInt8) (IntKind.wrap .u8 (shrI .u64 (shrI .u64 x_0 16) 8)) fun y4 =>
          some (addI .i64 24 (IntKind.wrap .i64 ((y4.toNat : Nat) : Int)))
        else
          nth ([0, 1, 2, 2, 3, 3, 3, 3, 4, 4, 4, 4, 4, 4, 4, 4, 5, 5, 5, 5, 5, 5, 5, 5, 5, 5, 5, 5, 5, 5, 5, 5, 6, 6, 6, 6, 6, 6, 6, 6, 6, 6, 6, 6, 6, 6, 6, 6, 6, 6, 6, 6, 6, 6, 6, 6, 6, 6, 6, 6, 6, 6, 6, 6, 7, 7, 7, 7, 7, 7, 7, 7, 7, 7, 7, 7, 7, 7, 7, 7, 7, 7, 7, 7, 7, 7, 7, 7, 7, 7, 7, 7, 7, 7, 7, 7, 7, 7, 7, 7, 7, 7, 7, 7, 7, 7, 7, 7, 7, 7, 7, 7, 7, 7, 7, 7, 7, 7, 7, 7, 7, 7, 7, 7, 7, 7, 7, 7, 8, 8, 8, 8, 8, 8, 8, 8, 8, 8, 8, 8, 8, 8, 8, 8, 8, 8, 8, 8, 8, 8, 8, 8, 8, 8, 8, 8, 8, 8, 8, 8, 8, 8, 8, 8, 8, 8, 8, 8, 8, 8, 8, 8, 8, 8, 8, 8, 8, 8, 8, 8, 8, 8, 8, 8, 8, 8, 8, 8, 8, 8, 8, 8, 8, 8, 8, 8, 8, 8, 8, 8, 8, 8, 8, 8, 8, 8, 8, 8, 8, 8, 8, 8, 8, 8, 8, 8, 8, 8, 8, 8, 8, 8, 8, 8, 8, 8, 8, 8, 8, 8, 8, 8, 8, 8, 8, 8, 8, 8, 8, 8, 8, 8, 8, 8, 8, 8, 8, 8, 8, 8, 8, 8, 8, 8, 8, 8] : List UInt8) (IntKind.wrap .u8 (shrI .u64 x_0 16)) fun y5 =>
          some (addI .i64 16 (IntKind.wrap .i64 ((y5.toNat : Nat) : Int)))
      else
        bif (leB 256 x_0) then
          nth ([0, 1, 2, 2, 3, 3, 3, 3, 4, 4, 4, 4, 4, 4, 4, 4, 5, 5, 5, 5, 5, 5, 5, 5, 5, 5, 5, 5, 5, 5, 5, 5, 6, 6, 6, 6, 6, 6, 6, 6, 6, 6, 6, 6, 6, 6, 6, 6, 6, 6, 6, 6, 6, 6, 6, 6, 6, 6, 6, 6, 6, 6, 6, 6, 7, 7, 7, 7, 7, 7, 7, 7, 7, 7, 7, 7, 7, 7, 7, 7, 7, 7, 7, 7, 7, 7, 7, 7, 7, 7, 7, 7, 7, 7, 7, 7, 7, 7, 7, 7, 7, 7, 7, 7, 7, 7, 7, 7, 7, 7, 7, 7, 7, 7, 7, 7, 7, 7, 7, 7, 7, 7, 7, 7, 7, 7, 7, 7, 8, 8, 8, 8, 8, 8, 8, 8, 8, 8, 8, 8, 8, 8, 8, 8, 8, 8, 8, 8, 8, 8, 8, 8, 8, 8, 8, 8, 8, 8, 8, 8, 8, 8, 8, 8, 8, 8, 8, 8, 8, 8, 8, 8, 8, 8, 8, 8, 8, 8, 8, 8, 8, 8, 8, 8, 8, 8, 8, 8, 8, 8, 8, 8, 8, 8, 8, 8, 8, 8, 8, 8, 8, 8, 8, 8, 8, 8, 8, 8, 8, 8, 8, 8, 8, 8, 8, 8, 8, 8, 8, 8, 8, 8, 8, 8, 8, 8, 8, 8, 8, 8, 8, 8, 8, 8, 8, 8, 8, 8, 8, 8, 8, 8, 8, 8, 8, 8, 8, 8, 8, 8, 8, 8, 8, 8, 8, 8] : List UInt8) (IntKind.wrap .u8 (shrI .u64 x_0 8)) fun y6 =>
          some (addI .i64 8 (IntKind.wrap .i64 ((y6.toNat : Nat) : Int)))
        else
          nth ([0, 1, 2, 2, 3, 3, 3, 3, 4, 4, 4, 4, 4, 4, 4, 4, 5, 5, 5, 5, 5, 5, 5, 5, 5, 5, 5, 5, 5, 5, 5, 5, 6, 6, 6, 6, 6, 6, 6, 6, 6, 6, 6, 6, 6, 6, 6, 6, 6, 6, 6, 6, 6, 6, 6, 6, 6, 6, 6, 6, 6, 6, 6, 6, 7, 7, 7, 7, 7, 7, 7, 7, 7, 7, 7, 7, 7, 7, 7, 7, 7, 7, 7, 7, 7, 7, 7, 7, 7, 7, 7, 7, 7, 7, 7, 7, 7, 7, 7, 7, 7, 7, 7, 7, 7, 7, 7, 7, 7, 7, 7, 7, 7, 7, 7, 7, 7, 7, 7, 7, 7, 7, 7, 7, 7, 7, 7, 7, 8, 8, 8, 8, 8, 8, 8, 8, 8, 8, 8, 8, 8, 8, 8, 8, 8, 8, 8, 8, 8, 8, 8, 8, 8, 8, 8, 8, 8, 8, 8, 8, 8, 8, 8, 8, 8, 8, 8, 8, 8, 8, 8, 8, 8, 8, 8, 8, 8, 8, 8, 8, 8, 8, 8, 8, 8, 8, 8, 8, 8, 8, 8, 8, 8, 8, 8, 8, 8, 8, 8, 8, 8, 8, 8, 8, 8, 8, 8, 8, 8, 8, 8, 8, 8, 8, 8, 8, 8, 8, 8, 8, 8, 8, 8, 8, 8, 8, 8, 8, 8, 8, 8, 8, 8, 8, 8, 8, 8, 8, 8, 8, 8, 8, 8, 8, 8, 8, 8, 8, 8, 8, 8, 8, 8, 8, 8, 8] : List UInt8) (IntKind.wrap .u8 x_0) fun y7 =>
          some (addI .i64 0 (IntKind.wrap .i64 ((y7.toNat : Nat) : Int)))
  ) (bits_Len64 x_0) :=
  callC_le (T := tn) (c := bodyOf Try.f90) (o := ⟨[.lf (.i .i64)], []⟩) sigOk 100000 (by kernel_rfl) Try.func90 (by kernel_rfl) (by kernel_rfl) (by kernel_rfl)
theorem configuration_Valid_l1_le (a1 : List (Member)) (a3 : Int) (a5 : Int) (a7 : List (Member)) : Le (
    bif (ltB a5 a3) then
      nth a1 a5 fun y0 =>
      Option.bind (configuration_member y0 ((List.length a7 : Nat) : Int)) fun x1 =>
      bif (neB x1 0) then
        some x1
      else
        configuration_Valid_l1 a1 a3 (addI .i64 a5 1) a7
    else
      some 0
  ) (configuration_Valid_l1 a1 a3 a5 a7) :=
  goC_loopAt (T := tn) (o := ⟨[.lf (.i .i64)], []⟩) sigOk 100000 (b := codeAt Try.f18 [1, 1, 0, 1, 0, 0]) (by kernel_rfl) (by kernel_rfl)
theorem configuration_member_le (m_0 : Member) (members_1 : Int) : Le (
    bif (!m_0.Declared) then
      Option.bind (configuration_blank m_0.Trust) fun x0 =>
      bif (!x0) then
        some 1
      else
        some 0
    else
      Option.bind (threshold_Valid m_0.Trust) fun x1 =>
      bif (neB x1 0) then
        some x1
      else
        chk (0 ≤ members_1) <|
        Option.bind (threshold_Uses m_0.Trust) fun x2 =>
        bif (leB (shlI .i64 1 members_1) x2) then
          some 5
        else
          some 0
  ) (configuration_member m_0 members_1) :=
  callC_le (T := tn) (c := bodyOf Try.f34) (o := ⟨[.lf (.i .i64)], []⟩) sigOk 100000 (by kernel_rfl) Try.func34 (by kernel_rfl) (by kernel_rfl) (by kernel_rfl)
theorem configuration_blank_le (t_0 : Trust) : Le (
    bif (eqB t_0.Threshold 0) then
      bif (eqB ((List.length t_0.Nodes : Nat) : Int) 0) then
        some (eqB ((List.length t_0.Inner : Nat) : Int) 0)
      else
        some false
    else
      some false
  ) (configuration_blank t_0) :=
  callC_le (T := tn) (c := bodyOf Try.f52) (o := ⟨[.lf .b], []⟩) sigOk 100000 (by kernel_rfl) Try.func52 (by kernel_rfl) (by kernel_rfl) (by kernel_rfl)
theorem threshold_Valid_le (t_0 : Trust) : Le (
    Option.bind (threshold_Depth t_0) fun x0 =>
    bif (ltB 4 x0) then
      some 3
    else
      Option.bind (threshold_Size t_0) fun x1 =>
      bif (ltB 200 x1) then
        some 3
      else
        Option.bind (threshold_level t_0) fun x2 =>
        some x2
  ) (threshold_Valid t_0) :=
  callC_le (T := tn) (c := bodyOf Try.f53) (o := ⟨[.lf (.i .i64)], []⟩) sigOk 100000 (by kernel_rfl) Try.func53 (by kernel_rfl) (by kernel_rfl) (by kernel_rfl)
theorem threshold_Uses_le (t_0 : Trust) : Le (
    threshold_Uses_l1 0 t_0.Nodes ((List.length t_0.Nodes : Nat) : Int) 0 t_0.Threshold t_0.Nodes t_0.Inner
  ) (threshold_Uses t_0) :=
  callC_le (T := tn) (c := bodyOf Try.f54) (o := ⟨[.lf (.i .i64)], []⟩) sigOk 100000 (by kernel_rfl) Try.func54 (by kernel_rfl) (by kernel_rfl) (by kernel_rfl)
theorem threshold_Depth_le (t_0 : Trust) : Le (
    threshold_Depth_l1 0 t_0.Inner ((List.length t_0.Inner : Nat) : Int) 0 t_0.Threshold t_0.Nodes t_0.Inner
  ) (threshold_Depth t_0) :=
  callC_le (T := tn) (c := bodyOf Try.f72) (o := ⟨[.lf (.i .i64)], []⟩) sigOk 100000 (by kernel_rfl) Try.func72 (by kernel_rfl) (by kernel_rfl) (by kernel_rfl)
theorem threshold_Size_le (t_0 : Trust) : Le (
    threshold_Size_l1 (addI .i64 ((List.length t_0.Nodes : Nat) : Int) ((List.length t_0.Inner : Nat) : Int)) t_0.Inner ((List.length t_0.Inner : Nat) : Int) 0 t_0.Threshold t_0.Nodes t_0.Inner
  ) (threshold_Size t_0) :=
  callC_le (T := tn) (c := bodyOf Try.f73) (o := ⟨[.lf (.i .i64)], []⟩) sigOk 100000 (by kernel_rfl) Try.func73 (by kernel_rfl) (by kernel_rfl) (by kernel_rfl)
theorem threshold_level_le (t_0 : Trust) : Le (
    bif (ltB t_0.Threshold 1) then
      some 4
    else
      bif (ltB (addI .i64 ((List.length t_0.Nodes : Nat) : Int) ((List.length t_0.Inner : Nat) : Int)) t_0.Threshold) then
        some 4
      else
        Option.bind (slices_ContainsFunc___int_int___threshold_level_1 t_0.Nodes) fun x0 =>
        bif x0 then
          some 5
        else
          Option.bind (nodeset_Of t_0.Nodes) fun x1 =>
          bif (neB x1.2 0) then
            some x1.2
          else
            threshold_level_l1 t_0.Inner ((List.length t_0.Inner : Nat) : Int) 0 t_0.Threshold t_0.Nodes t_0.Inner
  ) (threshold_level t_0) :=
  callC_le (T := tn) (c := bodyOf Try.f74) (o := ⟨[.lf (.i .i64)], []⟩) sigOk 100000 (by kernel_rfl) Try.func74 (by kernel_rfl) (by kernel_rfl) (by kernel_rfl)
theorem slices_ContainsFunc___int_int___threshold_level_1_le (s_0 : List (Int)) : Le (
    Option.bind (slices_IndexFunc___int_int___threshold_level_1 s_0) fun x0 =>
    some (leB 0 x0)
  ) (slices_ContainsFunc___int_int___threshold_level_1 s_0) :=
  callC_le (T := tn) (c := bodyOf Try.f46) (o := ⟨[.lf .b], []⟩) sigOk 100000 (by kernel_rfl) Try.func46 (by kernel_rfl) (by kernel_rfl) (by kernel_rfl)
theorem nodeset_Of_le (nodes_0 : List (Int)) : Le (
    nodeset_Of_l1 0 nodes_0 ((List.length nodes_0 : Nat) : Int) 0
  ) (nodeset_Of nodes_0) :=
  callC_le (T := tn) (c := bodyOf Try.f95) (o := ⟨[.lf (.i .i64), .lf (.i .i64)], []⟩) sigOk 100000 (by kernel_rfl) Try.func95 (by kernel_rfl) (by kernel_rfl) (by kernel_rfl)
theorem slices_IndexFunc___int_int___threshold_level_1_le (s_0 : List (Int)) : Le (
    slices_IndexFunc___int_int___threshold_level_1_l1 s_0 ((List.length s_0 : Nat) : Int) 0
  ) (slices_IndexFunc___int_int___threshold_level_1 s_0) :=
  callC_le (T := tn) (c := bodyOf Try.f67) (o := ⟨[.lf (.i .i64)], []⟩) sigOk 100000 (by kernel_rfl) Try.func67 (by kernel_rfl) (by kernel_rfl) (by kernel_rfl)
theorem danger_least__danger_halts_l1_le (a2 : List (Int)) (a4 : List (Int)) (a6 : Int) (a8 : Int) (a10 : List (Member)) : Le (
    bif (ltB a8 a6) then
      nth a4 a8 fun y0 =>
      Option.bind (danger_halts (Config.mk a10) y0) fun x1 =>
      bif x1 then
        capOk (List.length a2 + List.length ([y0] : List (Int))) <|
        danger_least__danger_halts_l1 (a2 ++ ([y0] : List (Int))) a4 a6 (addI .i64 a8 1) a10
      else
        danger_least__danger_halts_l1 a2 a4 a6 (addI .i64 a8 1) a10
    else
      Option.bind (nodeset_Least a2) fun x2 =>
      some x2
  ) (danger_least__danger_halts_l1 a2 a4 a6 a8 a10) :=
  goC_loopAt (T := tn) (o := ⟨[.lf (.l .i64)], []⟩) sigOk 100000 (b := codeAt Try.f16 [1, 1, 0, 1, 0, 0]) (by kernel_rfl) (by kernel_rfl)
theorem danger_halts_le (c_0 : Config) (s_1 : Int) : Le (
    Option.bind (danger_members c_0) fun x0 =>
    Option.bind (closure_Greatest c_0 (andNotI .i64 x0 s_1)) fun x1 =>
    some (eqB x1 0)
  ) (danger_halts c_0 s_1) :=
  callC_le (T := tn) (c := bodyOf Try.f19) (o := ⟨[.lf .b], []⟩) sigOk 100000 (by kernel_rfl) Try.func19 (by kernel_rfl) (by kernel_rfl) (by kernel_rfl)
theorem closure_Greatest_le (c_0 : Config) (s_1 : Int) : Le (
    Option.bind (closure_eliminate c_0 s_1) fun x0 =>
    some x0.1
  ) (closure_Greatest c_0 s_1) :=
  callC_le (T := tn) (c := bodyOf Try.f35) (o := ⟨[.lf (.i .i64)], []⟩) sigOk 100000 (by kernel_rfl) Try.func35 (by kernel_rfl) (by kernel_rfl) (by kernel_rfl)
theorem closure_eliminate_le (c_0 : Config) (s_1 : Int) : Le (
    Option.bind (nodeset_Valid s_1) fun x0 =>
    bif (!x0) then
      some (0, ([] : List (Int)))
    else
      Option.bind (configuration_Declared c_0) fun x1 =>
      closure_eliminate_l1 (andI .i64 s_1 x1) ([] : List (Int)) c_0.Members
  ) (closure_eliminate c_0 s_1) :=
  callC_le (T := tn) (c := bodyOf Try.f55) (o := ⟨[.lf (.i .i64), .lf (.l .i64)], []⟩) sigOk 100000 (by kernel_rfl) Try.func55 (by kernel_rfl) (by kernel_rfl) (by kernel_rfl)
theorem configuration_Declared_le (c_0 : Config) : Le (
    configuration_Declared_l1 0 c_0.Members ((List.length c_0.Members : Nat) : Int) 0 c_0.Members
  ) (configuration_Declared c_0) :=
  callC_le (T := tn) (c := bodyOf Try.f76) (o := ⟨[.lf (.i .i64)], []⟩) sigOk 100000 (by kernel_rfl) Try.func76 (by kernel_rfl) (by kernel_rfl) (by kernel_rfl)
theorem nodeset_Subsets_l1_le (a0 : Int) (a2 : List (Int)) (a4 : Int) : Le (
    Option.bind (nodeset_Valid a0) fun x0 =>
    bif x0 then
      bif (leB a4 a0) then
        bif (eqB (andNotI .i64 a4 a0) 0) then
          capOk (List.length a2 + List.length ([a4] : List (Int))) <|
          nodeset_Subsets_l1 a0 (a2 ++ ([a4] : List (Int))) (addI .i64 a4 1)
        else
          nodeset_Subsets_l1 a0 a2 (addI .i64 a4 1)
      else
        Option.bind (slices_SortFunc___int_int__r__nodeset_Compare a2) fun x1 =>
        some x1
    else
      Option.bind (slices_SortFunc___int_int__r__nodeset_Compare a2) fun x2 =>
      some x2
  ) (nodeset_Subsets_l1 a0 a2 a4) :=
  goC_loopAt (T := tn) (o := ⟨[.lf (.l .i64)], []⟩) sigOk 100000 (b := codeAt Try.f29 [1, 1, 0, 1, 0, 0]) (by kernel_rfl) (by kernel_rfl)
theorem law16_DangerLeast_l2_le (a1 : Int) (a3 : List (Int)) (a5 : Int) (a7 : Bool) (a9 : Int) (a11 : Bool) (a13 : List (Int)) (a15 : Int) (a17 : Int) (a19 : List (Int)) (a21 : Int) (a23 : List (Member)) : Le (
    bif (ltB a17 a15) then
      nth a13 a17 fun y0 =>
      bif a11 then
        law16_DangerLeast_l2 a1 a3 a5 a7 a9 true a13 a15 (addI .i64 a17 1) a19 a21 a23
      else
        bif (neB y0 a5) then
          law16_DangerLeast_l2 a1 a3 a5 a7 a9 (eqB (andI .i64 a5 y0) y0) a13 a15 (addI .i64 a17 1) a19 a21 a23
        else
          law16_DangerLeast_l2 a1 a3 a5 a7 a9 false a13 a15 (addI .i64 a17 1) a19 a21 a23
    else
      bif (neB a9 0) then
        some false
      else
        bif a7 then
          Option.bind (mk_In a3 a5) fun x1 =>
          bif (!((!a11) == x1)) then
            some false
          else
            bif (!a7) then
              Option.bind (mk_In a3 a5) fun x2 =>
              bif x2 then
                some false
              else
                law16_DangerLeast_l1 a1 a3 (addI .i64 a5 1) a19 a21 a23
            else
              law16_DangerLeast_l1 a1 a3 (addI .i64 a5 1) a19 a21 a23
        else
          bif (!a7) then
            Option.bind (mk_In a3 a5) fun x3 =>
            bif x3 then
              some false
            else
              law16_DangerLeast_l1 a1 a3 (addI .i64 a5 1) a19 a21 a23
          else
            law16_DangerLeast_l1 a1 a3 (addI .i64 a5 1) a19 a21 a23
  ) (law16_DangerLeast_l2 a1 a3 a5 a7 a9 a11 a13 a15 a17 a19 a21 a23) :=
  goC_loopAt (T := tn) (o := ⟨[.lf .b], []⟩) sigOk 100000 (b := codeAt Try.f4 [1, 1, 1, 1, 1, 1, 0, 1, 0, 0, 1, 0, 0, 1, 1, 0, 1, 0, 0]) (by kernel_rfl) (by kernel_rfl)
theorem mk_In_le (l_0 : List (Int)) (x_1 : Int) : Le (
    mk_In_l1 x_1 l_0 ((List.length l_0 : Nat) : Int) 0
  ) (mk_In l_0 x_1) :=
  callC_le (T := tn) (c := bodyOf Try.f14) (o := ⟨[.lf .b], []⟩) sigOk 100000 (by kernel_rfl) Try.func14 (by kernel_rfl) (by kernel_rfl) (by kernel_rfl)
theorem mk_Ints_l1_le (a0 : List (Int)) (a2 : List (Int)) (a4 : Int) (a6 : Int) : Le (
    bif (ltB a6 a4) then
      nth a0 a6 fun y0 =>
      nth a2 a6 fun y1 =>
      bif (neB y0 y1) then
        some false
      else
        mk_Ints_l1 a0 a2 a4 (addI .i64 a6 1)
    else
      some true
  ) (mk_Ints_l1 a0 a2 a4 a6) :=
  goC_loopAt (T := tn) (o := ⟨[.lf .b], []⟩) sigOk 100000 (b := codeAt Try.f22 [1, 1, 0, 1, 0, 0]) (by kernel_rfl) (by kernel_rfl)
theorem deletion_Delete_l1_le (a0 : Int) (a4 : List (Member)) (a6 : Int) (a8 : Int) (a10 : List (Member)) (a12 : List (Member)) (a14 : List (Member)) : Le (
    bif (ltB a8 a6) then
      nth a4 a8 fun y0 =>
      Option.bind (nodeset_Has a0 a8) fun x1 =>
      bif x1 then
        capOk (List.length a14 + List.length ([(Member.mk false (Trust.mk 0 ([] : List (Int)) ([] : List (Trust))))] : List (Member))) <|
        deletion_Delete_l1 a0 a4 a6 (addI .i64 a8 1) a10 a12 (a14 ++ ([(Member.mk false (Trust.mk 0 ([] : List (Int)) ([] : List (Trust))))] : List (Member)))
      else
        bif y0.Declared then
          Option.bind (deletion_Trust y0.Trust a8 a0) fun x2 =>
          capOk (List.length a14 + List.length ([(Member.mk y0.Declared (Trust.mk x2.Threshold x2.Nodes x2.Inner))] : List (Member))) <|
          deletion_Delete_l1 a0 a4 a6 (addI .i64 a8 1) a10 a12 (a14 ++ ([(Member.mk y0.Declared (Trust.mk x2.Threshold x2.Nodes x2.Inner))] : List (Member)))
        else
          Option.bind (deletion_copied y0.Trust) fun x3 =>
          capOk (List.length a14 + List.length ([(Member.mk y0.Declared (Trust.mk x3.Threshold x3.Nodes x3.Inner))] : List (Member))) <|
          deletion_Delete_l1 a0 a4 a6 (addI .i64 a8 1) a10 a12 (a14 ++ ([(Member.mk y0.Declared (Trust.mk x3.Threshold x3.Nodes x3.Inner))] : List (Member)))
    else
      some (Config.mk a14)
  ) (deletion_Delete_l1 a0 a4 a6 a8 a10 a12 a14) :=
  goC_loopAt (T := tn) (o := ⟨[.ag .Config], []⟩) sigOk 100000 (b := codeAt Try.f33 [1, 1, 0, 1, 0, 0]) (by kernel_rfl) (by kernel_rfl)
theorem nodeset_Has_le (s_0 : Int) (node_1 : Int) : Le (
    Option.bind (nodeset_Valid s_0) fun x0 =>
    bif x0 then
      bif (leB 0 node_1) then
        bif (ltB node_1 10) then
          chk (0 ≤ node_1) <|
          some (neB (andI .i64 s_0 (shlI .i64 1 node_1)) 0)
        else
          some false
      else
        some false
    else
      some false
  ) (nodeset_Has s_0 node_1) :=
  callC_le (T := tn) (c := bodyOf Try.f49) (o := ⟨[.lf .b], []⟩) sigOk 100000 (by kernel_rfl) Try.func49 (by kernel_rfl) (by kernel_rfl) (by kernel_rfl)
theorem deletion_Trust_le (t_0 : Trust) (node_1 : Int) (s_2 : Int) : Le (
    Option.bind (nodeset_Valid s_2) fun x0 =>
    bif (!x0) then
      Option.bind (deletion_copied t_0) fun x1 =>
      some (Trust.mk x1.Threshold x1.Nodes x1.Inner)
    else
      Option.bind (deletion_level t_0 s_2) fun x2 =>
      bif (eqB x2.Threshold 0) then
        some (Trust.mk 1 ([node_1] : List (Int)) ([] : List (Trust)))
      else
        some (Trust.mk x2.Threshold x2.Nodes x2.Inner)
  ) (deletion_Trust t_0 node_1 s_2) :=
  callC_le (T := tn) (c := bodyOf Try.f50) (o := ⟨[.ag .Trust], []⟩) sigOk 100000 (by kernel_rfl) Try.func50 (by kernel_rfl) (by kernel_rfl) (by kernel_rfl)
theorem deletion_copied_le (t_0 : Trust) : Le (
    capOk (List.length ([] : List (Int)) + List.length t_0.Nodes) <|
    deletion_copied_l1 t_0.Inner ((List.length t_0.Inner : Nat) : Int) 0 t_0.Threshold t_0.Nodes t_0.Inner 0 ([] : List (Int)) ([] : List (Trust)) t_0.Threshold (([] : List (Int)) ++ t_0.Nodes) ([] : List (Trust))
  ) (deletion_copied t_0) :=
  callC_le (T := tn) (c := bodyOf Try.f51) (o := ⟨[.ag .Trust], []⟩) sigOk 100000 (by kernel_rfl) Try.func51 (by kernel_rfl) (by kernel_rfl) (by kernel_rfl)
theorem deletion_level_le (t_0 : Trust) (s_1 : Int) : Le (
    deletion_level_l1 s_1 t_0.Nodes ((List.length t_0.Nodes : Nat) : Int) 0 t_0.Threshold t_0.Nodes t_0.Inner 0 ([] : List (Int)) ([] : List (Trust)) (if 0 > t_0.Threshold then 0 else t_0.Threshold) ([] : List (Int)) ([] : List (Trust))
  ) (deletion_level t_0 s_1) :=
  callC_le (T := tn) (c := bodyOf Try.f71) (o := ⟨[.ag .Trust], []⟩) sigOk 100000 (by kernel_rfl) Try.func71 (by kernel_rfl) (by kernel_rfl) (by kernel_rfl)
theorem intersection_find_l1_le (a1 : Int) (a3 : Int) (a5 : Bool) (a7 : List (Member)) : Le (
    bif a5 then
      Option.bind (closure_Quorum (Config.mk a7) a3) fun x0 =>
      bif (!x0) then
        Option.bind (nodeset_Next a3 a1) fun x1 =>
        intersection_find_l1 a1 x1.1 x1.2 a7
      else
        Option.bind (intersection_members (Config.mk a7)) fun x2 =>
        Option.bind (closure_Greatest (Config.mk a7) (andNotI .i64 x2 a3)) fun x3 =>
        bif (neB x3 0) then
          some (a3, x3)
        else
          Option.bind (nodeset_Next a3 a1) fun x4 =>
          intersection_find_l1 a1 x4.1 x4.2 a7
    else
      some (0, 0)
  ) (intersection_find_l1 a1 a3 a5 a7) :=
  goC_loopAt (T := tn) (o := ⟨[.lf (.i .i64), .lf (.i .i64)], []⟩) sigOk 100000 (b := codeAt Try.f48 [1, 1, 0, 1, 0, 0]) (by kernel_rfl) (by kernel_rfl)
theorem closure_Quorum_le (c_0 : Config) (s_1 : Int) : Le (
    Option.bind (nodeset_Valid s_1) fun x0 =>
    bif (!x0) then
      some false
    else
      bif (eqB s_1 0) then
        some false
      else
        Option.bind (closure_inside c_0 s_1) fun x1 =>
        bif (!x1) then
          some false
        else
          Option.bind (closure_unhappy c_0 s_1) fun x2 =>
          some (!x2.2)
  ) (closure_Quorum c_0 s_1) :=
  callC_le (T := tn) (c := bodyOf Try.f69) (o := ⟨[.lf .b], []⟩) sigOk 100000 (by kernel_rfl) Try.func69 (by kernel_rfl) (by kernel_rfl) (by kernel_rfl)
end Go.Proofs.Ytfjcndlhpfbcgaa
