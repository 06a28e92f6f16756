/- What the functions come to, printed by a program and checked by the kernel. -/
import Derived.Test.YtfailfoncbbgjaaP11Df
namespace Go.Proofs.Ytfailfoncbbgjaa
open Go Go.Ab
set_option maxRecDepth 100000
theorem law11_BlockingMeets_le (t_0 : List (Int)) : Le (
    Option.bind (mk_New t_0) fun x0 =>
    Option.bind (mk_Config 7 x0.2.1 x0.2.2) fun x1 =>
    Option.bind (mk_Tape_N ((List.length x1.1.Members : Nat) : Int) x1.2.1 x1.2.2) fun x2 =>
    nth x1.1.Members x2.1 fun y3 =>
    bif (!y3.Declared) then
      Option.bind (law11_awake) fun x4 =>
      some x4
    else
      nth x1.1.Members x2.1 fun y5 =>
      Option.bind (ref05_Slices y5.Trust) fun x6 =>
      law11_BlockingMeets_l1 x2.1 ([] : List (Int)) x6.1 ((List.length x6.1 : Nat) : Int) 0 x2.2.1 x2.2.2 x1.1.Members
  ) (law11_BlockingMeets t_0) :=
  callC_le (T := tn) (c := bodyOf Try.f3) (o := ⟨[.lf .b], []⟩) sigOk 100000 (by kernel_rfl) Try.func3 (by kernel_rfl) (by kernel_rfl) (by kernel_rfl)
theorem mk_New_le (l_0 : List (Int)) : Le (
    hiK (List.length l_0) (if 400 < ((List.length l_0 : Nat) : Int) then 400 else ((List.length l_0 : Nat) : Int)) fun b0 =>
    some ((), (List.drop 0 (List.take b0 l_0)), 0)
  ) (mk_New l_0) :=
  callC_le (T := tn) (c := bodyOf Try.f8) (o := ⟨[.ptr 0 0], [[.lf (.l .i64), .lf (.i .i64)]]⟩) sigOk 100000 (by kernel_rfl) Try.func8 (by kernel_rfl) (by kernel_rfl) (by kernel_rfl)
theorem mk_Config_le (n_1 : Int) (h0 : List (Int)) (h1 : Int) : Le (
    Option.bind (mk_Tape_Range 1 n_1 h0 h1) fun x0 =>
    Option.bind (mk_Tape_N 3 x0.2.1 x0.2.2) fun x1 =>
    mk_Config_l1 x0.1 x1.1 0 x1.2.1 x1.2.2 ([] : List (Member)) ([] : List (Member))
  ) (mk_Config n_1 h0 h1) :=
  callC_le (T := tn) (c := bodyOf Try.f9) (o := ⟨[.ag .Config], [[.lf (.l .i64), .lf (.i .i64)]]⟩) sigOk 100000 (by kernel_rfl) Try.func9 (by kernel_rfl) (by kernel_rfl) (by kernel_rfl)
theorem mk_Tape_N_le (n_1 : Int) (h0 : List (Int)) (h1 : Int) : Le (
    bif (leB ((List.length h0 : Nat) : Int) h1) then
      some (0, h0, h1)
    else
      nth h0 h1 fun y0 =>
      chk (n_1 ≠ 0) <|
      bif (ltB (remI .i64 y0 n_1) 0) then
        some ((addI .i64 (remI .i64 y0 n_1) n_1), h0, (addI .i64 h1 1))
      else
        some ((remI .i64 y0 n_1), h0, (addI .i64 h1 1))
  ) (mk_Tape_N n_1 h0 h1) :=
  callC_le (T := tn) (c := bodyOf Try.f10) (o := ⟨[.lf (.i .i64)], [[.lf (.l .i64), .lf (.i .i64)]]⟩) sigOk 100000 (by kernel_rfl) Try.func10 (by kernel_rfl) (by kernel_rfl) (by kernel_rfl)
theorem ref05_Slices_le (t_0 : Trust) : Le (
    Option.bind (ref02_Valid t_0) fun x0 =>
    bif (neB x0 0) then
      some (([] : List (Int)), x0)
    else
      ref05_Slices_l1 ([] : List (Int)) 0 t_0.Threshold t_0.Nodes t_0.Inner
  ) (ref05_Slices t_0) :=
  callC_le (T := tn) (c := bodyOf Try.f12) (o := ⟨[.lf (.l .i64), .lf (.i .i64)], []⟩) sigOk 100000 (by kernel_rfl) Try.func12 (by kernel_rfl) (by kernel_rfl) (by kernel_rfl)
theorem ref01_Nodes_le (s_0 : Int) : Le (
    ref01_Nodes_l1 s_0 ([] : List (Int)) 0
  ) (ref01_Nodes s_0) :=
  callC_le (T := tn) (c := bodyOf Try.f19) (o := ⟨[.lf (.l .i64)], []⟩) sigOk 100000 (by kernel_rfl) Try.func19 (by kernel_rfl) (by kernel_rfl) (by kernel_rfl)
theorem blocking_Least_le (c_0 : Config) (v_1 : Int) : Le (
    Option.bind (configuration_Valid c_0) fun x0 =>
    bif (neB x0 0) then
      some (([] : List (Int)), x0)
    else
      bif (ltB v_1 0) then
        some (([] : List (Int)), 5)
      else
        bif (leB ((List.length c_0.Members : Nat) : Int) v_1) then
          some (([] : List (Int)), 5)
        else
          nth c_0.Members v_1 fun y1 =>
          bif (!y1.Declared) then
            some (([] : List (Int)), 10)
          else
            nth c_0.Members v_1 fun y2 =>
            Option.bind (threshold_Uses y2.Trust) fun x3 =>
            Option.bind (nodeset_Subsets x3) fun x4 =>
            blocking_Least_l1 v_1 ([] : List (Int)) x4 ((List.length x4 : Nat) : Int) 0 c_0.Members
  ) (blocking_Least c_0 v_1) :=
  callC_le (T := tn) (c := bodyOf Try.f15) (o := ⟨[.lf (.l .i64), .lf (.i .i64)], []⟩) sigOk 100000 (by kernel_rfl) Try.func15 (by kernel_rfl) (by kernel_rfl) (by kernel_rfl)
theorem mk_Ints_le (a_0 : List (Int)) (b_1 : List (Int)) : Le (
    bif (neB ((List.length a_0 : Nat) : Int) ((List.length b_1 : Nat) : Int)) then
      some false
    else
      mk_Ints_l1 a_0 b_1 ((List.length a_0 : Nat) : Int) 0
  ) (mk_Ints a_0 b_1) :=
  callC_le (T := tn) (c := bodyOf Try.f16) (o := ⟨[.lf .b], []⟩) sigOk 100000 (by kernel_rfl) Try.func16 (by kernel_rfl) (by kernel_rfl) (by kernel_rfl)
theorem blocking_Blocks_le (c_0 : Config) (v_1 : Int) (s_2 : Int) : Le (
    Option.bind (nodeset_Valid s_2) fun x0 =>
    bif (!x0) then
      some false
    else
      Option.bind (configuration_Declared c_0) fun x1 =>
      Option.bind (nodeset_Has x1 v_1) fun x2 =>
      bif (!x2) then
        some false
      else
        chk (0 ≤ v_1) <|
        nth c_0.Members v_1 fun y3 =>
        Option.bind (threshold_Satisfied y3.Trust (orI .i64 (andNotI .i64 1023 s_2) (shlI .i64 1 v_1))) fun x4 =>
        some (!x4)
  ) (blocking_Blocks c_0 v_1 s_2) :=
  callC_le (T := tn) (c := bodyOf Try.f13) (o := ⟨[.lf .b], []⟩) sigOk 100000 (by kernel_rfl) Try.func13 (by kernel_rfl) (by kernel_rfl) (by kernel_rfl)
theorem mk_Tape_Range_le (a_1 : Int) (b_2 : Int) (h0 : List (Int)) (h1 : Int) : Le (
    Option.bind (mk_Tape_N (addI .i64 (subI .i64 b_2 a_1) 1) h0 h1) fun x0 =>
    some ((addI .i64 a_1 x0.1), x0.2.1, x0.2.2)
  ) (mk_Tape_Range a_1 b_2 h0 h1) :=
  callC_le (T := tn) (c := bodyOf Try.f30) (o := ⟨[.lf (.i .i64)], [[.lf (.l .i64), .lf (.i .i64)]]⟩) sigOk 100000 (by kernel_rfl) Try.func30 (by kernel_rfl) (by kernel_rfl) (by kernel_rfl)
theorem mk_Tape_Pick_le (l_1 : List (Int)) (h0 : List (Int)) (h1 : Int) : Le (
    Option.bind (mk_Tape_N ((List.length l_1 : Nat) : Int) h0 h1) fun x0 =>
    nth l_1 x0.1 fun y1 =>
    some (y1, x0.2.1, x0.2.2)
  ) (mk_Tape_Pick l_1 h0 h1) :=
  callC_le (T := tn) (c := bodyOf Try.f50) (o := ⟨[.lf (.i .i64)], [[.lf (.l .i64), .lf (.i .i64)]]⟩) sigOk 100000 (by kernel_rfl) Try.func50 (by kernel_rfl) (by kernel_rfl) (by kernel_rfl)
theorem nodeset_Valid_le (s_0 : Int) : Le (
    Option.bind (nodeset_below s_0 10) fun x0 =>
    some x0
  ) (nodeset_Valid s_0) :=
  callC_le (T := tn) (c := bodyOf Try.f38) (o := ⟨[.lf .b], []⟩) sigOk 100000 (by kernel_rfl) Try.func38 (by kernel_rfl) (by kernel_rfl) (by kernel_rfl)
theorem ref02_Valid_le (t_0 : Trust) : Le (
    Option.bind (ref02_Depth t_0) fun x0 =>
    bif (ltB 4 x0) then
      some 3
    else
      Option.bind (ref02_Size t_0) fun x1 =>
      bif (ltB 200 x1) then
        some 3
      else
        Option.bind (ref02_check t_0) fun x2 =>
        some x2
  ) (ref02_Valid t_0) :=
  callC_le (T := tn) (c := bodyOf Try.f35) (o := ⟨[.lf (.i .i64)], []⟩) sigOk 100000 (by kernel_rfl) Try.func35 (by kernel_rfl) (by kernel_rfl) (by kernel_rfl)
theorem configuration_Valid_le (c_0 : Config) : Le (
    bif (ltB 10 ((List.length c_0.Members : Nat) : Int)) then
      some 3
    else
      configuration_Valid_l1 c_0.Members ((List.length c_0.Members : Nat) : Int) 0 c_0.Members
  ) (configuration_Valid c_0) :=
  callC_le (T := tn) (c := bodyOf Try.f42) (o := ⟨[.lf (.i .i64)], []⟩) sigOk 100000 (by kernel_rfl) Try.func42 (by kernel_rfl) (by kernel_rfl) (by kernel_rfl)
theorem threshold_Uses_le (t_0 : Trust) : Le (
    threshold_Uses_l1 0 t_0.Nodes ((List.length t_0.Nodes : Nat) : Int) 0 t_0.Threshold t_0.Nodes t_0.Inner
  ) (threshold_Uses t_0) :=
  callC_le (T := tn) (c := bodyOf Try.f44) (o := ⟨[.lf (.i .i64)], []⟩) sigOk 100000 (by kernel_rfl) Try.func44 (by kernel_rfl) (by kernel_rfl) (by kernel_rfl)
theorem nodeset_Subsets_le (s_0 : Int) : Le (
    nodeset_Subsets_l1 s_0 ([] : List (Int)) 0
  ) (nodeset_Subsets s_0) :=
  callC_le (T := tn) (c := bodyOf Try.f43) (o := ⟨[.lf (.l .i64)], []⟩) sigOk 100000 (by kernel_rfl) Try.func43 (by kernel_rfl) (by kernel_rfl) (by kernel_rfl)
theorem configuration_Declared_le (c_0 : Config) : Le (
    configuration_Declared_l1 0 c_0.Members ((List.length c_0.Members : Nat) : Int) 0 c_0.Members
  ) (configuration_Declared c_0) :=
  callC_le (T := tn) (c := bodyOf Try.f40) (o := ⟨[.lf (.i .i64)], []⟩) sigOk 100000 (by kernel_rfl) Try.func40 (by kernel_rfl) (by kernel_rfl) (by kernel_rfl)
theorem nodeset_Has_le (s_0 : Int) (node_1 : Int) : Le (
    Option.bind (nodeset_Valid s_0) fun x0 =>
    bif x0 then
      bif (leB 0 node_1) then
        bif (ltB node_1 10) then
          chk (0 ≤ node_1) <|
          some (neB (andI .i64 s_0 (shlI .i64 1 node_1)) 0)
        else
          some false
      else
        some false
    else
      some false
  ) (nodeset_Has s_0 node_1) :=
  callC_le (T := tn) (c := bodyOf Try.f39) (o := ⟨[.lf .b], []⟩) sigOk 100000 (by kernel_rfl) Try.func39 (by kernel_rfl) (by kernel_rfl) (by kernel_rfl)
theorem threshold_Satisfied_le (t_0 : Trust) (s_1 : Int) : Le (
    Option.bind (nodeset_Valid s_1) fun x0 =>
    bif (!x0) then
      some false
    else
      threshold_Satisfied_l1 s_1 0 t_0.Nodes ((List.length t_0.Nodes : Nat) : Int) 0 t_0.Threshold t_0.Nodes t_0.Inner
  ) (threshold_Satisfied t_0 s_1) :=
  callC_le (T := tn) (c := bodyOf Try.f41) (o := ⟨[.lf .b], []⟩) sigOk 100000 (by kernel_rfl) Try.func41 (by kernel_rfl) (by kernel_rfl) (by kernel_rfl)
theorem nodeset_below_le (s_0 : Int) (n_1 : Int) : Le (
    bif (leB 0 s_0) then
      chk (0 ≤ n_1) <|
      some (ltB s_0 (shlI .i64 1 n_1))
    else
      some false
  ) (nodeset_below s_0 n_1) :=
  callC_le (T := tn) (c := bodyOf Try.f60) (o := ⟨[.lf .b], []⟩) sigOk 100000 (by kernel_rfl) Try.func60 (by kernel_rfl) (by kernel_rfl) (by kernel_rfl)
theorem ref02_Depth_le (t_0 : Trust) : Le (
    ref02_Depth_l1 0 t_0.Inner ((List.length t_0.Inner : Nat) : Int) 0 t_0.Threshold t_0.Nodes t_0.Inner
  ) (ref02_Depth t_0) :=
  callC_le (T := tn) (c := bodyOf Try.f55) (o := ⟨[.lf (.i .i64)], []⟩) sigOk 100000 (by kernel_rfl) Try.func55 (by kernel_rfl) (by kernel_rfl) (by kernel_rfl)
theorem ref02_Size_le (t_0 : Trust) : Le (
    ref02_Size_l1 (addI .i64 ((List.length t_0.Nodes : Nat) : Int) ((List.length t_0.Inner : Nat) : Int)) t_0.Inner ((List.length t_0.Inner : Nat) : Int) 0 t_0.Threshold t_0.Nodes t_0.Inner
  ) (ref02_Size t_0) :=
  callC_le (T := tn) (c := bodyOf Try.f56) (o := ⟨[.lf (.i .i64)], []⟩) sigOk 100000 (by kernel_rfl) Try.func56 (by kernel_rfl) (by kernel_rfl) (by kernel_rfl)
theorem ref02_check_le (t_0 : Trust) : Le (
    bif (ltB t_0.Threshold 1) then
      some 4
    else
      bif (ltB (addI .i64 ((List.length t_0.Nodes : Nat) : Int) ((List.length t_0.Inner : Nat) : Int)) t_0.Threshold) then
        some 4
      else
        ref02_check_l1 t_0.Nodes ((List.length t_0.Nodes : Nat) : Int) 0 t_0.Threshold t_0.Nodes t_0.Inner
  ) (ref02_check t_0) :=
  callC_le (T := tn) (c := bodyOf Try.f57) (o := ⟨[.lf (.i .i64)], []⟩) sigOk 100000 (by kernel_rfl) Try.func57 (by kernel_rfl) (by kernel_rfl) (by kernel_rfl)
theorem law11_BlockingMeets_l1_le (a2 : Int) (a4 : List (Int)) (a6 : List (Int)) (a8 : Int) (a10 : Int) (a12 : List (Int)) (a14 : Int) (a16 : List (Member)) : Le (
    bif (ltB a10 a8) then
      nth a6 a10 fun y0 =>
      chk (0 ≤ a2) <|
      capOk (List.length a4 + List.length ([(andNotI .i64 y0 (shlI .i64 1 a2))] : List (Int))) <|
      law11_BlockingMeets_l1 a2 (a4 ++ ([(andNotI .i64 y0 (shlI .i64 1 a2))] : List (Int))) a6 a8 (addI .i64 a10 1) a12 a14 a16
    else
      law11_BlockingMeets_l2 a2 a4 0 a12 a14 a16
  ) (law11_BlockingMeets_l1 a2 a4 a6 a8 a10 a12 a14 a16) :=
  goC_loopAt (T := tn) (o := ⟨[.lf .b], []⟩) sigOk 100000 (b := codeAt Try.f3 [1, 1, 1, 1, 1, 1, 1, 0, 1, 0, 0]) (by kernel_rfl) (by kernel_rfl)
end Go.Proofs.Ytfailfoncbbgjaa
