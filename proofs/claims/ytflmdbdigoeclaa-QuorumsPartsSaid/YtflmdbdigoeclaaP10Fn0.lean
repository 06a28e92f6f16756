/- What the functions come to, printed by a program and checked by the kernel. -/
import Derived.Test.YtflmdbdigoeclaaP10Df
namespace Go.Proofs.Ytflmdbdigoeclaa
open Go Go.Ab
set_option maxRecDepth 100000
theorem law10_QuorumsParts_le (t_0 : List (Int)) : Le (
    Option.bind (mk_New t_0) fun x0 =>
    Option.bind (mk_Config 9 x0.2.1 x0.2.2) fun x1 =>
    Option.bind (quorums_Parts x1.1) fun x2 =>
    Option.bind (quorums_Minimal x1.1) fun x3 =>
    bif (neB x2.2 0) then
      some false
    else
      bif (neB x3.2 0) then
        some false
      else
        law10_QuorumsParts_l1 x2.1 x3.1 0 x2.1 ((List.length x2.1 : Nat) : Int) 0 x1.2.1 x1.2.2 x1.1.Members
  ) (law10_QuorumsParts t_0) :=
  callC_le (T := tn) (c := bodyOf Try.f4) (o := ⟨[.lf .b], []⟩) sigOk 100000 (by kernel_rfl) Try.func4 (by kernel_rfl) (by kernel_rfl) (by kernel_rfl)
theorem mk_New_le (l_0 : List (Int)) : Le (
    hiK (List.length l_0) (if 400 < ((List.length l_0 : Nat) : Int) then 400 else ((List.length l_0 : Nat) : Int)) fun b0 =>
    some ((), (List.drop 0 (List.take b0 l_0)), 0)
  ) (mk_New l_0) :=
  callC_le (T := tn) (c := bodyOf Try.f7) (o := ⟨[.ptr 0 0], [[.lf (.l .i64), .lf (.i .i64)]]⟩) sigOk 100000 (by kernel_rfl) Try.func7 (by kernel_rfl) (by kernel_rfl) (by kernel_rfl)
theorem mk_Config_le (n_1 : Int) (h0 : List (Int)) (h1 : Int) : Le (
    Option.bind (mk_Tape_Range 1 n_1 h0 h1) fun x0 =>
    Option.bind (mk_Tape_N 3 x0.2.1 x0.2.2) fun x1 =>
    mk_Config_l1 x0.1 x1.1 0 x1.2.1 x1.2.2 ([] : List (Member)) ([] : List (Member))
  ) (mk_Config n_1 h0 h1) :=
  callC_le (T := tn) (c := bodyOf Try.f8) (o := ⟨[.ag .Config], [[.lf (.l .i64), .lf (.i .i64)]]⟩) sigOk 100000 (by kernel_rfl) Try.func8 (by kernel_rfl) (by kernel_rfl) (by kernel_rfl)
theorem quorums_Minimal_le (c_0 : Config) : Le (
    Option.bind (configuration_Valid c_0) fun x0 =>
    bif (neB x0 0) then
      some (([] : List (Int)), x0)
    else
      Option.bind (quorums_all c_0) fun x1 =>
      Option.bind (nodeset_Least x1) fun x2 =>
      some (x2, 0)
  ) (quorums_Minimal c_0) :=
  callC_le (T := tn) (c := bodyOf Try.f9) (o := ⟨[.lf (.l .i64), .lf (.i .i64)], []⟩) sigOk 100000 (by kernel_rfl) Try.func9 (by kernel_rfl) (by kernel_rfl) (by kernel_rfl)
theorem quorums_Parts_le (c_0 : Config) : Le (
    Option.bind (configuration_Valid c_0) fun x0 =>
    bif (neB x0 0) then
      some (([] : List (Int)), x0)
    else
      chk (((List.length c_0.Members : Nat) : Int) = ((List.length c_0.Members : Nat) : Int) ∧ 0 ≤ ((List.length c_0.Members : Nat) : Int) ∧ ((List.length c_0.Members : Nat) : Int) ≤ 65536) <|
      Option.bind (configuration_Declared c_0) fun x1 =>
      Option.bind (nodeset_Nodes x1) fun x2 =>
      quorums_Parts_l1 (List.replicate (Int.toNat ((List.length c_0.Members : Nat) : Int)) 0) x2 ((List.length x2 : Nat) : Int) 0 c_0.Members
  ) (quorums_Parts c_0) :=
  callC_le (T := tn) (c := bodyOf Try.f14) (o := ⟨[.lf (.l .i64), .lf (.i .i64)], []⟩) sigOk 100000 (by kernel_rfl) Try.func14 (by kernel_rfl) (by kernel_rfl) (by kernel_rfl)
theorem mk_Tape_Range_le (a_1 : Int) (b_2 : Int) (h0 : List (Int)) (h1 : Int) : Le (
    Option.bind (mk_Tape_N (addI .i64 (subI .i64 b_2 a_1) 1) h0 h1) fun x0 =>
    some ((addI .i64 a_1 x0.1), x0.2.1, x0.2.2)
  ) (mk_Tape_Range a_1 b_2 h0 h1) :=
  callC_le (T := tn) (c := bodyOf Try.f21) (o := ⟨[.lf (.i .i64)], [[.lf (.l .i64), .lf (.i .i64)]]⟩) sigOk 100000 (by kernel_rfl) Try.func21 (by kernel_rfl) (by kernel_rfl) (by kernel_rfl)
theorem mk_Trust_le (n_1 : Int) (deep_2 : Int) (h0 : List (Int)) (h1 : Int) : Le (
    Option.bind (mk_trust n_1 deep_2 h0 h1) fun x0 =>
    Option.bind (ref02_Valid x0.1) fun x1 =>
    bif (neB x1 0) then
      Option.bind (mk_Tape_N n_1 x0.2.1 x0.2.2) fun x2 =>
      some ((Trust.mk 1 ([x2.1] : List (Int)) ([] : List (Trust))), x2.2.1, x2.2.2)
    else
      some ((Trust.mk x0.1.Threshold x0.1.Nodes x0.1.Inner), x0.2.1, x0.2.2)
  ) (mk_Trust n_1 deep_2 h0 h1) :=
  callC_le (T := tn) (c := bodyOf Try.f22) (o := ⟨[.ag .Trust], [[.lf (.l .i64), .lf (.i .i64)]]⟩) sigOk 100000 (by kernel_rfl) Try.func22 (by kernel_rfl) (by kernel_rfl) (by kernel_rfl)
theorem mk_Tape_N_le (n_1 : Int) (h0 : List (Int)) (h1 : Int) : Le (
    bif (leB ((List.length h0 : Nat) : Int) h1) then
      some (0, h0, h1)
    else
      nth h0 h1 fun y0 =>
      chk (n_1 ≠ 0) <|
      bif (ltB (remI .i64 y0 n_1) 0) then
        some ((addI .i64 (remI .i64 y0 n_1) n_1), h0, (addI .i64 h1 1))
      else
        some ((remI .i64 y0 n_1), h0, (addI .i64 h1 1))
  ) (mk_Tape_N n_1 h0 h1) :=
  callC_le (T := tn) (c := bodyOf Try.f11) (o := ⟨[.lf (.i .i64)], [[.lf (.l .i64), .lf (.i .i64)]]⟩) sigOk 100000 (by kernel_rfl) Try.func11 (by kernel_rfl) (by kernel_rfl) (by kernel_rfl)
theorem configuration_Valid_le (c_0 : Config) : Le (
    bif (ltB 10 ((List.length c_0.Members : Nat) : Int)) then
      some 3
    else
      configuration_Valid_l1 c_0.Members ((List.length c_0.Members : Nat) : Int) 0 c_0.Members
  ) (configuration_Valid c_0) :=
  callC_le (T := tn) (c := bodyOf Try.f26) (o := ⟨[.lf (.i .i64)], []⟩) sigOk 100000 (by kernel_rfl) Try.func26 (by kernel_rfl) (by kernel_rfl) (by kernel_rfl)
theorem quorums_all_le (c_0 : Config) : Le (
    chk (0 ≤ ((List.length c_0.Members : Nat) : Int)) <|
    quorums_all_l1 ([] : List (Int)) (shlI .i64 1 ((List.length c_0.Members : Nat) : Int)) 0 c_0.Members
  ) (quorums_all c_0) :=
  callC_le (T := tn) (c := bodyOf Try.f28) (o := ⟨[.lf (.l .i64)], []⟩) sigOk 100000 (by kernel_rfl) Try.func28 (by kernel_rfl) (by kernel_rfl) (by kernel_rfl)
theorem nodeset_Least_le (l_0 : List (Int)) : Le (
    Option.bind (slices_Clone___int_int_ l_0) fun x0 =>
    Option.bind (slices_DeleteFunc___int_int__r__nodeset_Least_1 x0.2) fun x1 =>
    Option.bind (slices_SortFunc___int_int__r__nodeset_Compare x1.2) fun x2 =>
    nodeset_Least_l1 ([] : List (Int)) x2 ((List.length x2 : Nat) : Int) 0
  ) (nodeset_Least l_0) :=
  callC_le (T := tn) (c := bodyOf Try.f27) (o := ⟨[.lf (.l .i64)], []⟩) sigOk 100000 (by kernel_rfl) Try.func27 (by kernel_rfl) (by kernel_rfl) (by kernel_rfl)
theorem configuration_Declared_le (c_0 : Config) : Le (
    configuration_Declared_l1 0 c_0.Members ((List.length c_0.Members : Nat) : Int) 0 c_0.Members
  ) (configuration_Declared c_0) :=
  callC_le (T := tn) (c := bodyOf Try.f33) (o := ⟨[.lf (.i .i64)], []⟩) sigOk 100000 (by kernel_rfl) Try.func33 (by kernel_rfl) (by kernel_rfl) (by kernel_rfl)
theorem nodeset_Nodes_le (s_0 : Int) : Le (
    nodeset_Nodes_l1 s_0 ([] : List (Int)) 0
  ) (nodeset_Nodes s_0) :=
  callC_le (T := tn) (c := bodyOf Try.f32) (o := ⟨[.lf (.l .i64)], []⟩) sigOk 100000 (by kernel_rfl) Try.func32 (by kernel_rfl) (by kernel_rfl) (by kernel_rfl)
theorem mk_trust_le (n_1 : Int) (deep_2 : Int) (h0 : List (Int)) (h1 : Int) : Le (
    Option.bind (mk_Tape_Order n_1 h0 h1) fun x0 =>
    Option.bind (mk_Tape_Range 1 (if 5 < n_1 then 5 else n_1) x0.2.1 x0.2.2) fun x1 =>
    hiK (List.length x0.1) x1.1 fun b2 =>
    mk_trust_l1 n_1 deep_2 (List.drop 0 (List.take b2 x0.1)) ((List.length (List.drop 0 (List.take b2 x0.1)) : Nat) : Int) 0 x1.2.1 x1.2.2 0 ([] : List (Int)) ([] : List (Trust)) 0 ([] : List (Int)) ([] : List (Trust))
  ) (mk_trust n_1 deep_2 h0 h1) :=
  callC_le (T := tn) (c := bodyOf Try.f37) (o := ⟨[.ag .Trust], [[.lf (.l .i64), .lf (.i .i64)]]⟩) sigOk 100000 (by kernel_rfl) Try.func37 (by kernel_rfl) (by kernel_rfl) (by kernel_rfl)
theorem ref02_Valid_le (t_0 : Trust) : Le (
    Option.bind (ref02_Depth t_0) fun x0 =>
    bif (ltB 4 x0) then
      some 3
    else
      Option.bind (ref02_Size t_0) fun x1 =>
      bif (ltB 200 x1) then
        some 3
      else
        Option.bind (ref02_check t_0) fun x2 =>
        some x2
  ) (ref02_Valid t_0) :=
  callC_le (T := tn) (c := bodyOf Try.f38) (o := ⟨[.lf (.i .i64)], []⟩) sigOk 100000 (by kernel_rfl) Try.func38 (by kernel_rfl) (by kernel_rfl) (by kernel_rfl)
theorem slices_Clone___int_int__le (s_0 : List (Int)) : Le (
    capOk (List.length ([] : List (Int)) + List.length s_0) <|
    some ((), (([] : List (Int)) ++ s_0))
  ) (slices_Clone___int_int_ s_0) :=
  callC_nil (T := tn) (c := bodyOf Try.f43) (rest := codeAt Try.f43 [1, 1]) (o := ⟨[.ref 0], [[.own .i64 false]]⟩) sigOk 100000 (by kernel_rfl) Try.func43 (by kernel_rfl) (by kernel_rfl) (by kernel_rfl) (by kernel_rfl) (fun hx r hr => by subst hx; cases hr; exact ⟨rfl, rfl⟩)
theorem slices_DeleteFunc___int_int__r__nodeset_Least_1_le (h0 : List (Int)) : Le (
    Option.bind (slices_IndexFunc___int_int__r__nodeset_Least_1 h0) fun x0 =>
    bif (eqB x0.1 (-1)) then
      some ((), x0.2)
    else
      slices_DeleteFunc___int_int__r__nodeset_Least_1_l1 x0.1 (addI .i64 x0.1 1) x0.2
  ) (slices_DeleteFunc___int_int__r__nodeset_Least_1 h0) :=
  callC_le (T := tn) (c := bodyOf Try.f42) (o := ⟨[.ref 0], [[.own .i64 false]]⟩) sigOk 100000 (by kernel_rfl) Try.func42 (by kernel_rfl) (by kernel_rfl) (by kernel_rfl)
theorem slices_SortFunc___int_int__r__nodeset_Compare_le (h0 : List (Int)) : Le (
    Option.bind (bits_Len (IntKind.wrap .u64 ((List.length h0 : Nat) : Int))) fun x0 =>
    Option.bind (slices_pdqsortCmpFunc_int__r__nodeset_Compare 0 ((List.length h0 : Nat) : Int) x0 h0) fun x1 =>
    some x1
  ) (slices_SortFunc___int_int__r__nodeset_Compare h0) :=
  callC_le (T := tn) (c := bodyOf Try.f46) (o := ⟨[], [[.own .i64 false]]⟩) sigOk 100000 (by kernel_rfl) Try.func46 (by kernel_rfl) (by kernel_rfl) (by kernel_rfl)
theorem mk_Tape_Order_le (n_1 : Int) (h0 : List (Int)) (h1 : Int) : Le (
    mk_Tape_Order_l1 n_1 ([] : List (Int)) 0 h0 h1
  ) (mk_Tape_Order n_1 h0 h1) :=
  callC_le (T := tn) (c := bodyOf Try.f52) (o := ⟨[.lf (.l .i64)], [[.lf (.l .i64), .lf (.i .i64)]]⟩) sigOk 100000 (by kernel_rfl) Try.func52 (by kernel_rfl) (by kernel_rfl) (by kernel_rfl)
theorem ref02_Depth_le (t_0 : Trust) : Le (
    ref02_Depth_l1 0 t_0.Inner ((List.length t_0.Inner : Nat) : Int) 0 t_0.Threshold t_0.Nodes t_0.Inner
  ) (ref02_Depth t_0) :=
  callC_le (T := tn) (c := bodyOf Try.f53) (o := ⟨[.lf (.i .i64)], []⟩) sigOk 100000 (by kernel_rfl) Try.func53 (by kernel_rfl) (by kernel_rfl) (by kernel_rfl)
theorem ref02_Size_le (t_0 : Trust) : Le (
    ref02_Size_l1 (addI .i64 ((List.length t_0.Nodes : Nat) : Int) ((List.length t_0.Inner : Nat) : Int)) t_0.Inner ((List.length t_0.Inner : Nat) : Int) 0 t_0.Threshold t_0.Nodes t_0.Inner
  ) (ref02_Size t_0) :=
  callC_le (T := tn) (c := bodyOf Try.f54) (o := ⟨[.lf (.i .i64)], []⟩) sigOk 100000 (by kernel_rfl) Try.func54 (by kernel_rfl) (by kernel_rfl) (by kernel_rfl)
theorem ref02_check_le (t_0 : Trust) : Le (
    bif (ltB t_0.Threshold 1) then
      some 4
    else
      bif (ltB (addI .i64 ((List.length t_0.Nodes : Nat) : Int) ((List.length t_0.Inner : Nat) : Int)) t_0.Threshold) then
        some 4
      else
        ref02_check_l1 t_0.Nodes ((List.length t_0.Nodes : Nat) : Int) 0 t_0.Threshold t_0.Nodes t_0.Inner
  ) (ref02_check t_0) :=
  callC_le (T := tn) (c := bodyOf Try.f55) (o := ⟨[.lf (.i .i64)], []⟩) sigOk 100000 (by kernel_rfl) Try.func55 (by kernel_rfl) (by kernel_rfl) (by kernel_rfl)
theorem slices_IndexFunc___int_int__r__nodeset_Least_1_le (h0 : List (Int)) : Le (
    slices_IndexFunc___int_int__r__nodeset_Least_1_l1 ((List.length h0 : Nat) : Int) 0 h0
  ) (slices_IndexFunc___int_int__r__nodeset_Least_1 h0) :=
  callC_le (T := tn) (c := bodyOf Try.f58) (o := ⟨[.lf (.i .i64)], [[.own .i64 false]]⟩) sigOk 100000 (by kernel_rfl) Try.func58 (by kernel_rfl) (by kernel_rfl) (by kernel_rfl)
theorem bits_Len_le (x_0 : Int) : Le (
    Option.bind (bits_Len64 x_0) fun x0 =>
    some x0
  ) (bits_Len x_0) :=
  callC_le (T := tn) (c := bodyOf Try.f61) (o := ⟨[.lf (.i .i64)], []⟩) sigOk 100000 (by kernel_rfl) Try.func61 (by kernel_rfl) (by kernel_rfl) (by kernel_rfl)
theorem slices_pdqsortCmpFunc_int__r__nodeset_Compare_le (a_1 : Int) (b_2 : Int) (limit_3 : Int) (h0 : List (Int)) : Le (
    slices_pdqsortCmpFunc_int__r__nodeset_Compare_l1 a_1 b_2 limit_3 true true h0
  ) (slices_pdqsortCmpFunc_int__r__nodeset_Compare a_1 b_2 limit_3 h0) :=
  callC_le (T := tn) (c := bodyOf Try.f60) (o := ⟨[], [[.own .i64 false]]⟩) sigOk 100000 (by kernel_rfl) Try.func60 (by kernel_rfl) (by kernel_rfl) (by kernel_rfl)
theorem bits_Len64_le (x_0 : Int) : Le (
    bif (leB 4294967296 x_0) then
      bif (leB 65536 (shrI .u64 x_0 32)) then
        bif (leB 256 (shrI .u64 (shrI .u64 x_0 32) 16)) then
          nth ([0, 1, 2, 2, 3, 3, 3, 3, 4, 4, 4, 4, 4, 4, 4, 4, 5, 5, 5, 5, 5, 5, 5, 5, 5, 5, 5, 5, 5, 5, 5, 5, 6, 6, 6, 6, 6, 6, 6, 6, 6, 6, 6, 6, 6, 6, 6, 6, 6, 6, 6, 6, 6, 6, 6, 6, 6, 6, 6, 6, 6, 6, 6, 6, 7, 7, 7, 7, 7, 7, 7, 7, 7, 7, 7, 7, 7, 7, 7, 7, 7, 7, 7, 7, 7, 7, 7, 7, 7, 7, 7, 7, 7, 7, 7, 7, 7, 7, 7, 7, 7, 7, 7, 7, 7, 7, 7, 7, 7, 7, 7, 7, 7, 7, 7, 7, 7, 7, 7, 7, 7, 7, 7, 7, 7, 7, 7, 7, 8, 8, 8, 8, 8, 8, 8, 8, 8, 8, 8, 8, 8, 8, 8, 8, 8, 8, 8, 8, 8, 8, 8, 8, 8, 8, 8, 8, 8, 8, 8, 8, 8, 8, 8, 8, 8, 8, 8, 8, 8, 8, 8, 8, 8, 8, 8, 8, 8, 8, 8, 8, 8, 8, 8, 8, 8, 8, 8, 8, 8, 8, 8, 8, 8, 8, 8, 8, 8, 8, 8, 8, 8, 8, 8, 8, 8, 8, 8, 8, 8, 8, 8, 8, 8, 8, 8, 8, 8, 8, 8, 8, 8, 8, 8, 8, 8, 8, 8, 8, 8, 8, 8, 8, 8, 8, 8, 8, 8, 8, 8, 8, 8, 8, 8, 8, 8, 8, 8, 8, 8, 8, 8, 8, 8, 8, 8, 8] : List UInt8) (IntKind.wrap .u8 (shrI .u64 (shrI .u64 (shrI .u64 x_0 32) 16) 8)) fun y0 =>
          some (addI .i64 56 (IntKind.wrap .i64 ((y0.toNat : Nat) : Int)))
        else
          nth ([0, 1, 2, 2, 3, 3, 3, 3, 4, 4, 4, 4, 4, 4, 4, 4, 5, 5, 5, 5, 5, 5, 5, 5, 5, 5, 5, 5, 5, 5, 5, 5, 6, 6, 6, 6, 6, 6, 6, 6, 6, 6, 6, 6, 6, 6, 6, 6, 6, 6, 6, 6, 6, 6, 6, 6, 6, 6, 6, 6, 6, 6, 6, 6, 7, 7, 7, 7, 7, 7, 7, 7, 7, 7, 7, 7, 7, 7, 7, 7, 7, 7, 7, 7, 7, 7, 7, 7, 7, 7, 7, 7, 7, 7, 7, 7, 7, 7, 7, 7, 7, 7, 7, 7, 7, 7, 7, 7, 7, 7, 7, 7, 7, 7, 7, 7, 7, 7, 7, 7, 7, 7, 7, 7, 7, 7, 7, 7, 8, 8, 8, 8, 8, 8, 8, 8, 8, 8, 8, 8, 8, 8, 8, 8, 8, 8, 8, 8, 8, 8, 8, 8, 8, 8, 8, 8, 8, 8, 8, 8, 8, 8, 8, 8, 8, 8, 8, 8, 8, 8, 8, 8, 8, 8, 8, 8, 8, 8, 8, 8, 8, 8, 8, 8, 8, 8, 8, 8, 8, 8, 8, 8, 8, 8, 8, 8, 8, 8, 8, 8, 8, 8, 8, 8, 8, 8, 8, 8, 8, 8, 8, 8, 8, 8, 8, 8, 8, 8, 8, 8, 8, 8, 8, 8, 8, 8, 8, 8, 8, 8, 8, 8, 8, 8, 8, 8, 8, 8, 8, 8, 8, 8, 8, 8, 8, 8, 8, 8, 8, 8, 8, 8, 8, 8, 8, 8] : List UInt8) (IntKind.wrap .u8 (shrI .u64 (shrI .u64 x_0 32) 16)) fun y1 =>
          some (addI .i64 48 (IntKind.wrap .i64 ((y1.toNat : Nat) : Int)))
      else
        bif (leB 256 (shrI .u64 x_0 32)) then
          nth ([0, 1, 2, 2, 3, 3, 3, 3, 4, 4, 4, 4, 4, 4, 4, 4, 5, 5, 5, 5, 5, 5, 5, 5, 5, 5, 5, 5, 5, 5, 5, 5, 6, 6, 6, 6, 6, 6, 6, 6, 6, 6, 6, 6, 6, 6, 6, 6, 6, 6, 6, 6, 6, 6, 6, 6, 6, 6, 6, 6, 6, 6, 6, 6, 7, 7, 7, 7, 7, 7, 7, 7, 7, 7, 7, 7, 7, 7, 7, 7, 7, 7, 7, 7, 7, 7, 7, 7, 7, 7, 7, 7, 7, 7, 7, 7, 7, 7, 7, 7, 7, 7, 7, 7, 7, 7, 7, 7, 7, 7, 7, 7, 7, 7, 7, 7, 7, 7, 7, 7, 7, 7, 7, 7, 7, 7, 7, 7, 8, 8, 8, 8, 8, 8, 8, 8, 8, 8, 8, 8, 8, 8, 8, 8, 8, 8, 8, 8, 8, 8, 8, 8, 8, 8, 8, 8, 8, 8, 8, 8, 8, 8, 8, 8, 8, 8, 8, 8, 8, 8, 8, 8, 8, 8, 8, 8, 8, 8, 8, 8, 8, 8, 8, 8, 8, 8, 8, 8, 8, 8, 8, 8, 8, 8, 8, 8, 8, 8, 8, 8, 8, 8, 8, 8, 8, 8, 8, 8, 8, 8, 8, 8, 8, 8, 8, 8, 8, 8, 8, 8, 8, 8, 8, 8, 8, 8, 8, 8, 8, 8, 8, 8, 8, 8, 8, 8, 8, 8, 8, 8, 8, 8, 8, 8, 8, 8, 8, 8, 8, 8, 8, 8, 8, 8, 8, 8] : List UInt8) (IntKind.wrap .u8 (shrI .u64 (shrI .u64 x_0 32) 8)) fun y2 =>
          some (addI .i64 40 (IntKind.wrap .i64 ((y2.toNat : Nat) : Int)))
        else
          nth ([0, 1, 2, 2, 3, 3, 3, 3, 4, 4, 4, 4, 4, 4, 4, 4, 5, 5, 5, 5, 5, 5, 5, 5, 5, 5, 5, 5, 5, 5, 5, 5, 6, 6, 6, 6, 6, 6, 6, 6, 6, 6, 6, 6, 6, 6, 6, 6, 6, 6, 6, 6, 6, 6, 6, 6, 6, 6, 6, 6, 6, 6, 6, 6, 7, 7, 7, 7, 7, 7, 7, 7, 7, 7, 7, 7, 7, 7, 7, 7, 7, 7, 7, 7, 7, 7, 7, 7, 7, 7, 7, 7, 7, 7, 7, 7, 7, 7, 7, 7, 7, 7, 7, 7, 7, 7, 7, 7, 7, 7, 7, 7, 7, 7, 7, 7, 7, 7, 7, 7, 7, 7, 7, 7, 7, 7, 7, 7, 8, 8, 8, 8, 8, 8, 8, 8, 8, 8, 8, 8, 8, 8, 8, 8, 8, 8, 8, 8, 8, 8, 8, 8, 8, 8, 8, 8, 8, 8, 8, 8, 8, 8, 8, 8, 8, 8, 8, 8, 8, 8, 8, 8, 8, 8, 8, 8, 8, 8, 8, 8, 8, 8, 8, 8, 8, 8, 8, 8, 8, 8, 8, 8, 8, 8, 8, 8, 8, 8, 8, 8, 8, 8, 8, 8, 8, 8, 8, 8, 8, 8, 8, 8, 8, 8, 8, 8, 8, 8, 8, 8, 8, 8, 8, 8, 8, 8, 8, 8, 8, 8, 8, 8, 8, 8, 8, 8, 8, 8, 8, 8, 8, 8, 8, 8, 8, 8, 8, 8, 8, 8, 8, 8, 8, 8, 8, 8] : List UInt8) (IntKind.wrap .u8 (shrI .u64 x_0 32)) fun y3 =>
          some (addI .i64 32 (IntKind.wrap .i64 ((y3.toNat : Nat) : Int)))
    else
      bif (leB 65536 x_0) then
        bif (leB 256 (shrI .u64 x_0 16)) then
          nth ([0, 1, 2, 2, 3, 3, 3, 3, 4, 4, 4, 4, 4, 4, 4, 4, 5, 5, 5, 5, 5, 5, 5, 5, 5, 5, 5, 5, 5, 5, 5, 5, 6, 6, 6, 6, 6, 6, 6, 6, 6, 6, 6, 6, 6, 6, 6, 6, 6, 6, 6, 6, 6, 6, 6, 6, 6, 6, 6, 6, 6, 6, 6, 6, 7, 7, 7, 7, 7, 7, 7, 7, 7, 7, 7, 7, 7, 7, 7, 7, 7, 7, 7, 7, 7, 7, 7, 7, 7, 7, 7, 7, 7, 7, 7, 7, 7, 7, 7, 7, 7, 7, 7, 7, 7, 7, 7, 7, 7, 7, 7, 7, 7, 7, 7, 7, 7, 7, 7, 7, 7, 7, 7, 7, 7, 7, 7, 7, 8, 8, 8, 8, 8, 8, 8, 8, 8, 8, 8, 8, 8, 8, 8, 8, 8, 8, 8, 8, 8, 8, 8, 8, 8, 8, 8, 8, 8, 8, 8, 8, 8, 8, 8, 8, 8, 8, 8, 8, 8, 8, 8, 8, 8, 8, 8, 8, 8, 8, 8, 8, 8, 8, 8, 8, 8, 8, 8, 8, 8, 8, 8, 8, 8, 8, 8, 8, 8, 8, 8, 8, 8, 8, 8, 8, 8, 8, 8, 8, 8, 8, 8, 8, 8, 8, 8, 8, 8, 8, 8, 8, 8, 8, 8, 8, 8, 8, 8, 8, 8, 8, 8, 8, 8, 8, 8, 8, 8, 8, 8, 8, 8, 8, 8, 8, 8, 8, 8, 8, 8, 8, 8, 8, 8, 8, 8, 8] : List UInt8) (IntKind.wrap .u8 (shrI .u64 (shrI .u64 x_0 16) 8)) fun y4 =>
          some (addI .i64 24 (IntKind.wrap .i64 ((y4.toNat : Nat) : Int)))
        else
          nth ([0, 1, 2, 2, 3, 3, 3, 3, 4, 4, 4, 4, 4, 4, 4, 4, 5, 5, 5, 5, 5, 5, 5, 5, 5, 5, 5, 5, 5, 5, 5, 5, 6, 6, 6, 6, 6, 6, 6, 6, 6, 6, 6, 6, 6, 6, 6, 6, 6, 6, 6, 6, 6, 6, 6, 6, 6, 6, 6, 6, 6, 6, 6, 6, 7, 7, 7, 7, 7, 7, 7, 7, 7, 7, 7, 7, 7, 7, 7, 7, 7, 7, 7, 7, 7, 7, 7, 7, 7, 7, 7, 7, 7, 7, 7, 7, 7, 7, 7, 7, 7, 7, 7, 7, 7, 7, 7, 7, 7, 7, 7, 7, 7, 7, 7, 7, 7, 7, 7, 7, 7, 7, 7, 7, 7, 7, 7, 7, 8, 8, 8, 8, 8, 8, 8, 8, 8, 8, 8, 8, 8, 8, 8, 8, 8, 8, 8, 8, 8, 8, 8, 8, 8, 8, 8, 8, 8, 8, 8, 8, 8, 8, 8, 8, 8, 8, 8, 8, 8, 8, 8, 8, 8, 8, 8, 8, 8, 8, 8, 8, 8, 8, 8, 8, 8, 8, 8, 8, 8, 8, 8, 8, 8, 8, 8, 8, 8, 8, 8, 8, 8, 8, 8, 8, 8, 8, 8, 8, 8, 8, 8, 8, 8, 8, 8, 8, 8, 8, 8, 8, 8, 8, 8, 8, 8, 8, 8, 8, 8, 8, 8, 8, 8, 8, 8, 8, 8, 8, 8, 8, 8, 8, 8, 8, 8, 8, 8, 8, 8, 8, 8, 8, 8, 8, 8, 8] : List UInt8) (IntKind.wrap .u8 (shrI .u64 x_0 16)) fun y5 =>
          some (addI .i64 16 (IntKind.wrap .i64 ((y5.toNat : Nat) : Int)))
      else
        bif (leB 256 x_0) then
          nth ([0, 1, 2, 2, 3, 3, 3, 3, 4, 4, 4, 4, 4, 4, 4, 4, 5, 5, 5, 5, 5, 5, 5, 5, 5, 5, 5, 5, 5, 5, 5, 5, 6, 6, 6, 6, 6, 6, 6, 6, 6, 6, 6, 6, 6, 6, 6, 6, 6, 6, 6, 6, 6, 6, 6, 6, 6, 6, 6, 6, 6, 6, 6, 6, 7, 7, 7, 7, 7, 7, 7, 7, 7, 7, 7, 7, 7, 7, 7, 7, 7, 7, 7, 7, 7, 7, 7, 7, 7, 7, 7, 7, 7, 7, 7, 7, 7, 7, 7, 7, 7, 7, 7, 7, 7, 7, 7, 7, 7, 7, 7, 7, 7, 7, 7, 7, 7, 7, 7, 7, 7, 7, 7, 7, 7, 7, 7, 7, 8, 8, 8, 8, 8, 8, 8, 8, 8, 8, 8, 8, 8, 8, 8, 8, 8, 8, 8, 8, 8, 8, 8, 8, 8, 8, 8, 8, 8, 8, 8, 8, 8, 8, 8, 8, 8, 8, 8, 8, 8, 8, 8, 8, 8, 8, 8, 8, 8, 8, 8, 8, 8, 8, 8, 8, 8, 8, 8, 8, 8, 8, 8, 8, 8, 8, 8, 8, 8, 8, 8, 8, 8, 8, 8, 8, 8, 8, 8, 8, 8, 8, 8, 8, 8, 8, 8, 8, 8, 8, 8, 8, 8, 8, 8, 8, 8, 8, 8, 8, 8, 8, 8, 8, 8, 8, 8, 8, 8, 8, 8, 8, 8, 8, 8, 8, 8, 8, 8, 8, 8, 8, 8, 8, 8, 8, 8, 8] : List UInt8) (IntKind.wrap .u8 (shrI .u64 x_0 8)) fun y6 =>
          some (addI .i64 8 (IntKind.wrap .i64 ((y6.toNat : Nat) : Int)))
        else
          nth ([0, 1, 2, 2, 3, 3, 3, 3, 4, 4, 4, 4, 4, 4, 4, 4, 5, 5, 5, 5, 5, 5, 5, 5, 5, 5, 5, 5, 5, 5, 5, 5, 6, 6, 6, 6, 6, 6, 6, 6, 6, 6, 6, 6, 6, 6, 6, 6, 6, 6, 6, 6, 6, 6, 6, 6, 6, 6, 6, 6, 6, 6, 6, 6, 7, 7, 7, 7, 7, 7, 7, 7, 7, 7, 7, 7, 7, 7, 7, 7, 7, 7, 7, 7, 7, 7, 7, 7, 7, 7, 7, 7, 7, 7, 7, 7, 7, 7, 7, 7, 7, 7, 7, 7, 7, 7, 7, 7, 7, 7, 7, 7, 7, 7, 7, 7, 7, 7, 7, 7, 7, 7, 7, 7, 7, 7, 7, 7, 8, 8, 8, 8, 8, 8, 8, 8, 8, 8, 8, 8, 8, 8, 8, 8, 8, 8, 8, 8, 8, 8, 8, 8, 8, 8, 8, 8, 8, 8, 8, 8, 8, 8, 8, 8, 8, 8, 8, 8, 8, 8, 8, 8, 8, 8, 8, 8, 8, 8, 8, 8, 8, 8, 8, 8, 8, 8, 8, 8, 8, 8, 8, 8, 8, 8, 8, 8, 8, 8, 8, 8, 8, 8, 8, 8, 8, 8, 8, 8, 8, 8, 8, 8, 8, 8, 8, 8, 8, 8, 8, 8, 8, 8, 8, 8, 8, 8, 8, 8, 8, 8, 8, 8, 8, 8, 8, 8, 8, 8, 8, 8, 8, 8, 8, 8, 8, 8, 8, 8, 8, 8, 8, 8, 8, 8, 8, 8] : List UInt8) (IntKind.wrap .u8 x_0) fun y7 =>
          some (addI .i64 0 (IntKind.wrap .i64 ((y7.toNat : Nat) : Int)))
  ) (bits_Len64 x_0) :=
  callC_le (T := tn) (c := bodyOf Try.f81) (o := ⟨[.lf (.i .i64)], []⟩) sigOk 100000 (by kernel_rfl) Try.func81 (by kernel_rfl) (by kernel_rfl) (by kernel_rfl)
theorem law10_QuorumsParts_l1_le (a1 : List (Int)) (a3 : List (Int)) (a5 : Int) (a7 : List (Int)) (a9 : Int) (a11 : Int) (a13 : List (Int)) (a15 : Int) (a17 : List (Member)) : Le (
    bif (ltB a11 a9) then
      nth a7 a11 fun y0 =>
      bif (eqB y0 0) then
        some false
      else
        bif (neB (andI .i64 a5 y0) 0) then
          some false
        else
          law10_QuorumsParts_l1 a1 a3 (orI .i64 a5 y0) a7 a9 (addI .i64 a11 1) a13 a15 a17
    else
      law10_QuorumsParts_l2 a1 a5 a3 ((List.length a3 : Nat) : Int) 0 a13 a15 a17
  ) (law10_QuorumsParts_l1 a1 a3 a5 a7 a9 a11 a13 a15 a17) :=
  goC_loopAt (T := tn) (o := ⟨[.lf .b], []⟩) sigOk 100000 (b := codeAt Try.f4 [1, 1, 1, 1, 1, 1, 1, 0, 1, 0, 0]) (by kernel_rfl) (by kernel_rfl)
theorem mk_Config_l1_le (a2 : Int) (a4 : Int) (a7 : Int) (a9 : List (Int)) (a11 : Int) (a13 : List (Member)) (a15 : List (Member)) : Le (
    bif (ltB a7 a2) then
      bif (eqB a4 0) then
        Option.bind (mk_Trust a2 2 a9 a11) fun x0 =>
        Option.bind (mk_Tape_N 12 x0.2.1 x0.2.2) fun x1 =>
        bif (eqB x1.1 11) then
          capOk (List.length a15 + List.length ([(Member.mk false (Trust.mk 0 ([] : List (Int)) ([] : List (Trust))))] : List (Member))) <|
          mk_Config_l1 a2 a4 (addI .i64 a7 1) x1.2.1 x1.2.2 a13 (a15 ++ ([(Member.mk false (Trust.mk 0 ([] : List (Int)) ([] : List (Trust))))] : List (Member)))
        else
          capOk (List.length a15 + List.length ([(Member.mk true (Trust.mk x0.1.Threshold x0.1.Nodes x0.1.Inner))] : List (Member))) <|
          mk_Config_l1 a2 a4 (addI .i64 a7 1) x1.2.1 x1.2.2 a13 (a15 ++ ([(Member.mk true (Trust.mk x0.1.Threshold x0.1.Nodes x0.1.Inner))] : List (Member)))
      else
        bif (eqB a4 1) then
          Option.bind (mk_most a2 a9 a11) fun x2 =>
          Option.bind (mk_Tape_N 12 x2.2.1 x2.2.2) fun x3 =>
          bif (eqB x3.1 11) then
            capOk (List.length a15 + List.length ([(Member.mk false (Trust.mk 0 ([] : List (Int)) ([] : List (Trust))))] : List (Member))) <|
            mk_Config_l1 a2 a4 (addI .i64 a7 1) x3.2.1 x3.2.2 a13 (a15 ++ ([(Member.mk false (Trust.mk 0 ([] : List (Int)) ([] : List (Trust))))] : List (Member)))
          else
            capOk (List.length a15 + List.length ([(Member.mk true (Trust.mk x2.1.Threshold x2.1.Nodes x2.1.Inner))] : List (Member))) <|
            mk_Config_l1 a2 a4 (addI .i64 a7 1) x3.2.1 x3.2.2 a13 (a15 ++ ([(Member.mk true (Trust.mk x2.1.Threshold x2.1.Nodes x2.1.Inner))] : List (Member)))
        else
          Option.bind (mk_group a2 a7 a9 a11) fun x4 =>
          Option.bind (mk_Tape_N 12 x4.2.1 x4.2.2) fun x5 =>
          bif (eqB x5.1 11) then
            capOk (List.length a15 + List.length ([(Member.mk false (Trust.mk 0 ([] : List (Int)) ([] : List (Trust))))] : List (Member))) <|
            mk_Config_l1 a2 a4 (addI .i64 a7 1) x5.2.1 x5.2.2 a13 (a15 ++ ([(Member.mk false (Trust.mk 0 ([] : List (Int)) ([] : List (Trust))))] : List (Member)))
          else
            capOk (List.length a15 + List.length ([(Member.mk true (Trust.mk x4.1.Threshold x4.1.Nodes x4.1.Inner))] : List (Member))) <|
            mk_Config_l1 a2 a4 (addI .i64 a7 1) x5.2.1 x5.2.2 a13 (a15 ++ ([(Member.mk true (Trust.mk x4.1.Threshold x4.1.Nodes x4.1.Inner))] : List (Member)))
    else
      some ((Config.mk a15), a9, a11)
  ) (mk_Config_l1 a2 a4 a7 a9 a11 a13 a15) :=
  goC_loopAt (T := tn) (o := ⟨[.ag .Config], [[.lf (.l .i64), .lf (.i .i64)]]⟩) sigOk 100000 (b := codeAt Try.f8 [1, 1, 1, 1, 0, 1, 0, 0]) (by kernel_rfl) (by kernel_rfl)
theorem mk_most_le (m_1 : Int) (h0 : List (Int)) (h1 : Int) : Le (
    mk_most_l1 m_1 0 h0 h1 0 ([] : List (Int)) ([] : List (Trust)) 0 ([] : List (Int)) ([] : List (Trust))
  ) (mk_most m_1 h0 h1) :=
  callC_le (T := tn) (c := bodyOf Try.f24) (o := ⟨[.ag .Trust], [[.lf (.l .i64), .lf (.i .i64)]]⟩) sigOk 100000 (by kernel_rfl) Try.func24 (by kernel_rfl) (by kernel_rfl) (by kernel_rfl)
theorem mk_group_le (m_1 : Int) (k_2 : Int) (h0 : List (Int)) (h1 : Int) : Le (
    mk_group_l1 m_1 k_2 ([] : List (Trust)) 0 h0 h1 0 ([] : List (Int)) ([] : List (Trust))
  ) (mk_group m_1 k_2 h0 h1) :=
  callC_le (T := tn) (c := bodyOf Try.f25) (o := ⟨[.ag .Trust], [[.lf (.l .i64), .lf (.i .i64)]]⟩) sigOk 100000 (by kernel_rfl) Try.func25 (by kernel_rfl) (by kernel_rfl) (by kernel_rfl)
end Go.Proofs.Ytflmdbdigoeclaa
