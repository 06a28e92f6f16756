/- What the functions come to, printed by a program and checked by the kernel. -/
import Derived.Test.YtfemjbmfpnpjfaaDoorR1Df
namespace Go.Proofs.YtfemjbmfpnpjfaaDoor
open Go Go.Ab
set_option maxRecDepth 100000
theorem law13_DeletionMeans_le (t_0 : List (Int)) : Le (
    Option.bind (mk_New t_0) fun x0 =>
    Option.bind (mk_Tape_Range 1 10 x0.2.1 x0.2.2) fun x1 =>
    Option.bind (mk_Trust x1.1 4 x1.2.1 x1.2.2) fun x2 =>
    law13_DeletionMeans_l1 x1.1 0 x2.2.1 x2.2.2 x2.1.Threshold x2.1.Nodes x2.1.Inner
  ) (law13_DeletionMeans t_0) :=
  callC_le (T := tn) (c := bodyOf Tryd.f3) (o := ⟨[.lf .b], []⟩) sigOk 100000 (by kernel_rfl) Tryd.func3 (by kernel_rfl) (by kernel_rfl) (by kernel_rfl)
theorem law13_DeletionGrows_le (t_0 : List (Int)) : Le (
    Option.bind (mk_New t_0) fun x0 =>
    Option.bind (mk_Tape_Range 1 10 x0.2.1 x0.2.2) fun x1 =>
    Option.bind (mk_Trust x1.1 4 x1.2.1 x1.2.2) fun x2 =>
    law13_DeletionGrows_l1 x1.1 0 x2.2.1 x2.2.2 x2.1.Threshold x2.1.Nodes x2.1.Inner
  ) (law13_DeletionGrows t_0) :=
  callC_le (T := tn) (c := bodyOf Tryd.f4) (o := ⟨[.lf .b], []⟩) sigOk 100000 (by kernel_rfl) Tryd.func4 (by kernel_rfl) (by kernel_rfl) (by kernel_rfl)
theorem law13_DeletionTwice_le (t_0 : List (Int)) : Le (
    Option.bind (mk_New t_0) fun x0 =>
    Option.bind (mk_Config 10 x0.2.1 x0.2.2) fun x1 =>
    Option.bind (mk_Tape_N 1024 x1.2.1 x1.2.2) fun x2 =>
    Option.bind (mk_Tape_N 1024 x2.2.1 x2.2.2) fun x3 =>
    Option.bind (deletion_Delete x1.1 x2.1) fun x4 =>
    Option.bind (deletion_Delete x4 x3.1) fun x5 =>
    Option.bind (deletion_Delete x1.1 (orI .i64 x2.1 x3.1)) fun x6 =>
    Option.bind (ref06_Same x5 x6) fun x7 =>
    bif x7 then
      Option.bind (deletion_Delete x1.1 x3.1) fun x8 =>
      Option.bind (deletion_Delete x8 x2.1) fun x9 =>
      Option.bind (ref06_Same x5 x9) fun x10 =>
      bif x10 then
        Option.bind (deletion_Delete x1.1 0) fun x11 =>
        Option.bind (ref06_Same x11 x1.1) fun x12 =>
        bif x12 then
          Option.bind (law13_awake) fun x13 =>
          some x13
        else
          some false
      else
        some false
    else
      some false
  ) (law13_DeletionTwice t_0) :=
  callC_le (T := tn) (c := bodyOf Tryd.f6) (o := ⟨[.lf .b], []⟩) sigOk 100000 (by kernel_rfl) Tryd.func6 (by kernel_rfl) (by kernel_rfl) (by kernel_rfl)
theorem law13_DeletionQuorums_le (t_0 : List (Int)) : Le (
    Option.bind (mk_New t_0) fun x0 =>
    Option.bind (mk_Config 8 x0.2.1 x0.2.2) fun x1 =>
    chk (0 ≤ ((List.length x1.1.Members : Nat) : Int)) <|
    Option.bind (mk_Tape_N 256 x1.2.1 x1.2.2) fun x2 =>
    Option.bind (deletion_Delete x1.1 (andI .i64 x2.1 (subI .i64 (shlI .i64 1 ((List.length x1.1.Members : Nat) : Int)) 1))) fun x3 =>
    Option.bind (ref06_Valid x3) fun x4 =>
    bif (neB x4 0) then
      some false
    else
      Option.bind (ref06_Declared x3) fun x5 =>
      Option.bind (ref06_Declared x1.1) fun x6 =>
      bif (neB x5 (andNotI .i64 x6 (andI .i64 x2.1 (subI .i64 (shlI .i64 1 ((List.length x1.1.Members : Nat) : Int)) 1)))) then
        some false
      else
        bif (neB ((List.length x3.Members : Nat) : Int) ((List.length x1.1.Members : Nat) : Int)) then
          some false
        else
          law13_DeletionQuorums_l1 (subI .i64 (shlI .i64 1 ((List.length x1.1.Members : Nat) : Int)) 1) (andI .i64 x2.1 (subI .i64 (shlI .i64 1 ((List.length x1.1.Members : Nat) : Int)) 1)) 0 x2.2.1 x2.2.2 x1.1.Members x3.Members
  ) (law13_DeletionQuorums t_0) :=
  callC_le (T := tn) (c := bodyOf Tryd.f7) (o := ⟨[.lf .b], []⟩) sigOk 100000 (by kernel_rfl) Tryd.func7 (by kernel_rfl) (by kernel_rfl) (by kernel_rfl)
theorem law13_DeletionAnswers_le (t_0 : List (Int)) (raw_1 : Trust) (c_2 : Config) (node_3 : Int) (x_4 : Int) : Le (
    Option.bind (mk_SmallTrust raw_1) fun x0 =>
    bif (!x0) then
      Option.bind (law13_awake) fun x1 =>
      some x1
    else
      Option.bind (mk_SmallConfig c_2) fun x2 =>
      bif (!x2) then
        Option.bind (law13_awake) fun x3 =>
        some x3
      else
        Option.bind (mk_New t_0) fun x4 =>
        Option.bind (mk_Config 10 x4.2.1 x4.2.2) fun x5 =>
        Option.bind (mk_Trust 10 4 x5.2.1 x5.2.2) fun x6 =>
        Option.bind (mk_Tape_N 1024 x6.2.1 x6.2.2) fun x7 =>
        Option.bind (mk_Tape_N 1024 x7.2.1 x7.2.2) fun x8 =>
        law13_DeletionAnswers_l1 node_3 ([x_4, x7.1, x8.1, 0, 1023] : List (Int)) ((List.length ([x_4, x7.1, x8.1, 0, 1023] : List (Int)) : Nat) : Int) 0 raw_1.Threshold raw_1.Nodes raw_1.Inner c_2.Members x8.2.1 x8.2.2 x5.1.Members x6.1.Threshold x6.1.Nodes x6.1.Inner
  ) (law13_DeletionAnswers t_0 raw_1 c_2 node_3 x_4) :=
  callC_le (T := tn) (c := bodyOf Tryd.f5) (o := ⟨[.lf .b], []⟩) sigOk 100000 (by kernel_rfl) Tryd.func5 (by kernel_rfl) (by kernel_rfl) (by kernel_rfl)
theorem mk_New_le (l_0 : List (Int)) : Le (
    hiK (List.length l_0) (if 400 < ((List.length l_0 : Nat) : Int) then 400 else ((List.length l_0 : Nat) : Int)) fun b0 =>
    some ((), (List.drop 0 (List.take b0 l_0)), 0)
  ) (mk_New l_0) :=
  callC_le (T := tn) (c := bodyOf Tryd.f8) (o := ⟨[.ptr 0 0], [[.lf (.l .i64), .lf (.i .i64)]]⟩) sigOk 100000 (by kernel_rfl) Tryd.func8 (by kernel_rfl) (by kernel_rfl) (by kernel_rfl)
theorem mk_Tape_Range_le (a_1 : Int) (b_2 : Int) (h0 : List (Int)) (h1 : Int) : Le (
    Option.bind (mk_Tape_N (addI .i64 (subI .i64 b_2 a_1) 1) h0 h1) fun x0 =>
    some ((addI .i64 a_1 x0.1), x0.2.1, x0.2.2)
  ) (mk_Tape_Range a_1 b_2 h0 h1) :=
  callC_le (T := tn) (c := bodyOf Tryd.f9) (o := ⟨[.lf (.i .i64)], [[.lf (.l .i64), .lf (.i .i64)]]⟩) sigOk 100000 (by kernel_rfl) Tryd.func9 (by kernel_rfl) (by kernel_rfl) (by kernel_rfl)
theorem mk_Trust_le (n_1 : Int) (deep_2 : Int) (h0 : List (Int)) (h1 : Int) : Le (
    Option.bind (mk_trust n_1 deep_2 h0 h1) fun x0 =>
    Option.bind (ref02_Valid x0.1) fun x1 =>
    bif (neB x1 0) then
      Option.bind (mk_Tape_N n_1 x0.2.1 x0.2.2) fun x2 =>
      some ((Trust.mk 1 ([x2.1] : List (Int)) ([] : List (Trust))), x2.2.1, x2.2.2)
    else
      some ((Trust.mk x0.1.Threshold x0.1.Nodes x0.1.Inner), x0.2.1, x0.2.2)
  ) (mk_Trust n_1 deep_2 h0 h1) :=
  callC_le (T := tn) (c := bodyOf Tryd.f10) (o := ⟨[.ag .Trust], [[.lf (.l .i64), .lf (.i .i64)]]⟩) sigOk 100000 (by kernel_rfl) Tryd.func10 (by kernel_rfl) (by kernel_rfl) (by kernel_rfl)
theorem mk_Config_le (n_1 : Int) (h0 : List (Int)) (h1 : Int) : Le (
    Option.bind (mk_Tape_Range 1 n_1 h0 h1) fun x0 =>
    Option.bind (mk_Tape_N 3 x0.2.1 x0.2.2) fun x1 =>
    mk_Config_l1 x0.1 x1.1 0 x1.2.1 x1.2.2 ([] : List (Member)) ([] : List (Member))
  ) (mk_Config n_1 h0 h1) :=
  callC_le (T := tn) (c := bodyOf Tryd.f19) (o := ⟨[.ag .Config], [[.lf (.l .i64), .lf (.i .i64)]]⟩) sigOk 100000 (by kernel_rfl) Tryd.func19 (by kernel_rfl) (by kernel_rfl) (by kernel_rfl)
theorem mk_Tape_N_le (n_1 : Int) (h0 : List (Int)) (h1 : Int) : Le (
    bif (leB ((List.length h0 : Nat) : Int) h1) then
      some (0, h0, h1)
    else
      nth h0 h1 fun y0 =>
      chk (n_1 ≠ 0) <|
      bif (ltB (remI .i64 y0 n_1) 0) then
        some ((addI .i64 (remI .i64 y0 n_1) n_1), h0, (addI .i64 h1 1))
      else
        some ((remI .i64 y0 n_1), h0, (addI .i64 h1 1))
  ) (mk_Tape_N n_1 h0 h1) :=
  callC_le (T := tn) (c := bodyOf Tryd.f11) (o := ⟨[.lf (.i .i64)], [[.lf (.l .i64), .lf (.i .i64)]]⟩) sigOk 100000 (by kernel_rfl) Tryd.func11 (by kernel_rfl) (by kernel_rfl) (by kernel_rfl)
theorem deletion_Delete_le (c_0 : Config) (s_1 : Int) : Le (
    deletion_Delete_l1 s_1 c_0.Members ((List.length c_0.Members : Nat) : Int) 0 c_0.Members ([] : List (Member)) ([] : List (Member))
  ) (deletion_Delete c_0 s_1) :=
  callC_le (T := tn) (c := bodyOf Tryd.f25) (o := ⟨[.ag .Config], []⟩) sigOk 100000 (by kernel_rfl) Tryd.func25 (by kernel_rfl) (by kernel_rfl) (by kernel_rfl)
theorem ref06_Same_le (a_0 : Config) (b_1 : Config) : Le (
    bif (neB ((List.length a_0.Members : Nat) : Int) ((List.length b_1.Members : Nat) : Int)) then
      some false
    else
      ref06_Same_l1 ((List.length a_0.Members : Nat) : Int) 0 a_0.Members b_1.Members
  ) (ref06_Same a_0 b_1) :=
  callC_le (T := tn) (c := bodyOf Tryd.f24) (o := ⟨[.lf .b], []⟩) sigOk 100000 (by kernel_rfl) Tryd.func24 (by kernel_rfl) (by kernel_rfl) (by kernel_rfl)
theorem law13_awake_le  : Le (
    Option.bind (ref03_Parse ([51, 32, 111, 102, 32, 40, 48, 44, 32, 49, 44, 32, 53, 44, 32, 50, 32, 111, 102, 32, 40, 50, 44, 32, 51, 44, 32, 52, 41, 41] : List UInt8)) fun x0 =>
    Option.bind (deletion_Trust x0.1 0 6) fun x1 =>
    Option.bind (ref03_Text x1) fun x2 =>
    bif (eqS x2 ([50, 32, 111, 102, 32, 40, 48, 44, 32, 53, 44, 32, 49, 32, 111, 102, 32, 40, 51, 44, 32, 52, 41, 41] : List UInt8)) then
      Option.bind (deletion_Trust x0.1 4 35) fun x3 =>
      Option.bind (ref03_Text x3) fun x4 =>
      some (eqS x4 ([49, 32, 111, 102, 32, 40, 52, 41] : List UInt8))
    else
      some false
  ) (law13_awake) :=
  callC_le (T := tn) (c := bodyOf Tryd.f16) (o := ⟨[.lf .b], []⟩) sigOk 100000 (by kernel_rfl) Tryd.func16 (by kernel_rfl) (by kernel_rfl) (by kernel_rfl)
theorem ref06_Valid_le (c_0 : Config) : Le (
    bif (ltB 10 ((List.length c_0.Members : Nat) : Int)) then
      some 3
    else
      ref06_Valid_l1 c_0.Members ((List.length c_0.Members : Nat) : Int) 0 c_0.Members
  ) (ref06_Valid c_0) :=
  callC_le (T := tn) (c := bodyOf Tryd.f27) (o := ⟨[.lf (.i .i64)], []⟩) sigOk 100000 (by kernel_rfl) Tryd.func27 (by kernel_rfl) (by kernel_rfl) (by kernel_rfl)
theorem ref06_Declared_le (c_0 : Config) : Le (
    ref06_Declared_l1 0 c_0.Members ((List.length c_0.Members : Nat) : Int) 0 c_0.Members
  ) (ref06_Declared c_0) :=
  callC_le (T := tn) (c := bodyOf Tryd.f28) (o := ⟨[.lf (.i .i64)], []⟩) sigOk 100000 (by kernel_rfl) Tryd.func28 (by kernel_rfl) (by kernel_rfl) (by kernel_rfl)
theorem mk_SmallTrust_le (x_0 : Trust) : Le (
    Option.bind (mk_entries x_0 0) fun x0 =>
    some (leB x0 400)
  ) (mk_SmallTrust x_0) :=
  callC_le (T := tn) (c := bodyOf Tryd.f17) (o := ⟨[.lf .b], []⟩) sigOk 100000 (by kernel_rfl) Tryd.func17 (by kernel_rfl) (by kernel_rfl) (by kernel_rfl)
theorem mk_SmallConfig_le (c_0 : Config) : Le (
    bif (ltB 30 ((List.length c_0.Members : Nat) : Int)) then
      some false
    else
      mk_SmallConfig_l1 0 0 c_0.Members
  ) (mk_SmallConfig c_0) :=
  callC_le (T := tn) (c := bodyOf Tryd.f18) (o := ⟨[.lf .b], []⟩) sigOk 100000 (by kernel_rfl) Tryd.func18 (by kernel_rfl) (by kernel_rfl) (by kernel_rfl)
theorem mk_trust_le (n_1 : Int) (deep_2 : Int) (h0 : List (Int)) (h1 : Int) : Le (
    Option.bind (mk_Tape_Order n_1 h0 h1) fun x0 =>
    Option.bind (mk_Tape_Range 1 (if 5 < n_1 then 5 else n_1) x0.2.1 x0.2.2) fun x1 =>
    hiK (List.length x0.1) x1.1 fun b2 =>
    mk_trust_l1 n_1 deep_2 (List.drop 0 (List.take b2 x0.1)) ((List.length (List.drop 0 (List.take b2 x0.1)) : Nat) : Int) 0 x1.2.1 x1.2.2 0 ([] : List (Int)) ([] : List (Trust)) 0 ([] : List (Int)) ([] : List (Trust))
  ) (mk_trust n_1 deep_2 h0 h1) :=
  callC_le (T := tn) (c := bodyOf Tryd.f31) (o := ⟨[.ag .Trust], [[.lf (.l .i64), .lf (.i .i64)]]⟩) sigOk 100000 (by kernel_rfl) Tryd.func31 (by kernel_rfl) (by kernel_rfl) (by kernel_rfl)
theorem ref02_Valid_le (t_0 : Trust) : Le (
    Option.bind (ref02_Depth t_0) fun x0 =>
    bif (ltB 4 x0) then
      some 3
    else
      Option.bind (ref02_Size t_0) fun x1 =>
      bif (ltB 200 x1) then
        some 3
      else
        Option.bind (ref02_check t_0) fun x2 =>
        some x2
  ) (ref02_Valid t_0) :=
  callC_le (T := tn) (c := bodyOf Tryd.f14) (o := ⟨[.lf (.i .i64)], []⟩) sigOk 100000 (by kernel_rfl) Tryd.func14 (by kernel_rfl) (by kernel_rfl) (by kernel_rfl)
theorem ref03_Parse_le (text_0 : List UInt8) : Le (
    bif (ltB 6000 ((List.length text_0 : Nat) : Int)) then
      some ((Trust.mk 0 ([] : List (Int)) ([] : List (Trust))), 0, 3)
    else
      Option.bind (ref03_reader_number text_0 0) fun x0 =>
      bif x0.2.1 then
        Option.bind (ref03_reader_rest x0.1 x0.2.2.1 x0.2.2.2) fun x1 =>
        Option.bind (ref03_reader_skip x1.2.2.1 x1.2.2.2) fun x2 =>
        bif (!x1.2.1) then
          some ((Trust.mk 0 ([] : List (Int)) ([] : List (Trust))), x2.2, 2)
        else
          bif (ltB x2.2 ((List.length text_0 : Nat) : Int)) then
            some ((Trust.mk 0 ([] : List (Int)) ([] : List (Trust))), x2.2, 2)
          else
            Option.bind (ref02_Valid x1.1) fun x3 =>
            bif (neB x3 0) then
              some ((Trust.mk 0 ([] : List (Int)) ([] : List (Trust))), 0, x3)
            else
              some ((Trust.mk x1.1.Threshold x1.1.Nodes x1.1.Inner), 0, 0)
      else
        Option.bind (ref03_reader_skip x0.2.2.1 x0.2.2.2) fun x4 =>
        bif (!x0.2.1) then
          some ((Trust.mk 0 ([] : List (Int)) ([] : List (Trust))), x4.2, 2)
        else
          bif (ltB x4.2 ((List.length text_0 : Nat) : Int)) then
            some ((Trust.mk 0 ([] : List (Int)) ([] : List (Trust))), x4.2, 2)
          else
            Option.bind (ref02_Valid (Trust.mk 0 ([] : List (Int)) ([] : List (Trust)))) fun x5 =>
            bif (neB x5 0) then
              some ((Trust.mk 0 ([] : List (Int)) ([] : List (Trust))), 0, x5)
            else
              some ((Trust.mk 0 ([] : List (Int)) ([] : List (Trust))), 0, 0)
  ) (ref03_Parse text_0) :=
  callC_le (T := tn) (c := bodyOf Tryd.f40) (o := ⟨[.ag .Trust, .lf (.i .i64), .lf (.i .i64)], []⟩) sigOk 100000 (by kernel_rfl) Tryd.func40 (by kernel_rfl) (by kernel_rfl) (by kernel_rfl)
theorem deletion_Trust_le (t_0 : Trust) (node_1 : Int) (s_2 : Int) : Le (
    Option.bind (nodeset_Valid s_2) fun x0 =>
    bif (!x0) then
      Option.bind (deletion_copied t_0) fun x1 =>
      some (Trust.mk x1.Threshold x1.Nodes x1.Inner)
    else
      Option.bind (deletion_level t_0 s_2) fun x2 =>
      bif (eqB x2.Threshold 0) then
        some (Trust.mk 1 ([node_1] : List (Int)) ([] : List (Trust)))
      else
        some (Trust.mk x2.Threshold x2.Nodes x2.Inner)
  ) (deletion_Trust t_0 node_1 s_2) :=
  callC_le (T := tn) (c := bodyOf Tryd.f12) (o := ⟨[.ag .Trust], []⟩) sigOk 100000 (by kernel_rfl) Tryd.func12 (by kernel_rfl) (by kernel_rfl) (by kernel_rfl)
theorem ref03_Text_le (t_0 : Trust) : Le (
    Option.bind (ref02_Valid t_0) fun x0 =>
    bif (neB x0 0) then
      some ([63] : List UInt8)
    else
      Option.bind (ref03_text t_0) fun x1 =>
      some x1
  ) (ref03_Text t_0) :=
  callC_le (T := tn) (c := bodyOf Tryd.f41) (o := ⟨[.lf .s], []⟩) sigOk 100000 (by kernel_rfl) Tryd.func41 (by kernel_rfl) (by kernel_rfl) (by kernel_rfl)
theorem mk_entries_le (x_0 : Trust) (n_1 : Int) : Le (
    mk_entries_l1 (addI .i64 n_1 (addI .i64 1 ((List.length x_0.Nodes : Nat) : Int))) 0 x_0.Threshold x_0.Nodes x_0.Inner
  ) (mk_entries x_0 n_1) :=
  callC_le (T := tn) (c := bodyOf Tryd.f42) (o := ⟨[.lf (.i .i64)], []⟩) sigOk 100000 (by kernel_rfl) Tryd.func42 (by kernel_rfl) (by kernel_rfl) (by kernel_rfl)
theorem mk_Tape_Order_le (n_1 : Int) (h0 : List (Int)) (h1 : Int) : Le (
    mk_Tape_Order_l1 n_1 ([] : List (Int)) 0 h0 h1
  ) (mk_Tape_Order n_1 h0 h1) :=
  callC_le (T := tn) (c := bodyOf Tryd.f51) (o := ⟨[.lf (.l .i64)], [[.lf (.l .i64), .lf (.i .i64)]]⟩) sigOk 100000 (by kernel_rfl) Tryd.func51 (by kernel_rfl) (by kernel_rfl) (by kernel_rfl)
theorem ref02_Depth_le (t_0 : Trust) : Le (
    ref02_Depth_l1 0 t_0.Inner ((List.length t_0.Inner : Nat) : Int) 0 t_0.Threshold t_0.Nodes t_0.Inner
  ) (ref02_Depth t_0) :=
  callC_le (T := tn) (c := bodyOf Tryd.f37) (o := ⟨[.lf (.i .i64)], []⟩) sigOk 100000 (by kernel_rfl) Tryd.func37 (by kernel_rfl) (by kernel_rfl) (by kernel_rfl)
theorem ref02_Size_le (t_0 : Trust) : Le (
    ref02_Size_l1 (addI .i64 ((List.length t_0.Nodes : Nat) : Int) ((List.length t_0.Inner : Nat) : Int)) t_0.Inner ((List.length t_0.Inner : Nat) : Int) 0 t_0.Threshold t_0.Nodes t_0.Inner
  ) (ref02_Size t_0) :=
  callC_le (T := tn) (c := bodyOf Tryd.f38) (o := ⟨[.lf (.i .i64)], []⟩) sigOk 100000 (by kernel_rfl) Tryd.func38 (by kernel_rfl) (by kernel_rfl) (by kernel_rfl)
theorem ref02_check_le (t_0 : Trust) : Le (
    bif (ltB t_0.Threshold 1) then
      some 4
    else
      bif (ltB (addI .i64 ((List.length t_0.Nodes : Nat) : Int) ((List.length t_0.Inner : Nat) : Int)) t_0.Threshold) then
        some 4
      else
        ref02_check_l1 t_0.Nodes ((List.length t_0.Nodes : Nat) : Int) 0 t_0.Threshold t_0.Nodes t_0.Inner
  ) (ref02_check t_0) :=
  callC_le (T := tn) (c := bodyOf Tryd.f39) (o := ⟨[.lf (.i .i64)], []⟩) sigOk 100000 (by kernel_rfl) Tryd.func39 (by kernel_rfl) (by kernel_rfl) (by kernel_rfl)
theorem ref03_reader_number_le (h0 : List UInt8) (h1 : Int) : Le (
    Option.bind (ref03_reader_skip h0 h1) fun x0 =>
    ref03_reader_number_l1 x0.2 x0.1 x0.2
  ) (ref03_reader_number h0 h1) :=
  callC_le (T := tn) (c := bodyOf Tryd.f55) (o := ⟨[.lf (.i .i64), .lf .b], [[.lf .s, .lf (.i .i64)]]⟩) sigOk 100000 (by kernel_rfl) Tryd.func55 (by kernel_rfl) (by kernel_rfl) (by kernel_rfl)
theorem ref03_reader_rest_le (n_1 : Int) (h0 : List UInt8) (h1 : Int) : Le (
    Option.bind (ref03_reader_sign ([111, 102] : List UInt8) h0 h1) fun x0 =>
    bif (!x0.1) then
      some ((Trust.mk n_1 ([] : List (Int)) ([] : List (Trust))), false, x0.2.1, x0.2.2)
    else
      Option.bind (ref03_reader_sign ([40] : List UInt8) x0.2.1 x0.2.2) fun x1 =>
      bif (!x1.1) then
        some ((Trust.mk n_1 ([] : List (Int)) ([] : List (Trust))), false, x1.2.1, x1.2.2)
      else
        ref03_reader_rest_l1 false x1.2.1 x1.2.2 0 ([] : List (Int)) ([] : List (Trust)) n_1 ([] : List (Int)) ([] : List (Trust))
  ) (ref03_reader_rest n_1 h0 h1) :=
  callC_le (T := tn) (c := bodyOf Tryd.f56) (o := ⟨[.ag .Trust, .lf .b], [[.lf .s, .lf (.i .i64)]]⟩) sigOk 100000 (by kernel_rfl) Tryd.func56 (by kernel_rfl) (by kernel_rfl) (by kernel_rfl)
theorem ref03_reader_skip_le (h0 : List UInt8) (h1 : Int) : Le (
    ref03_reader_skip_l1 h0 h1
  ) (ref03_reader_skip h0 h1) :=
  callC_le (T := tn) (c := bodyOf Tryd.f57) (o := ⟨[], [[.lf .s, .lf (.i .i64)]]⟩) sigOk 100000 (by kernel_rfl) Tryd.func57 (by kernel_rfl) (by kernel_rfl) (by kernel_rfl)
theorem nodeset_Valid_le (s_0 : Int) : Le (
    Option.bind (nodeset_below s_0 10) fun x0 =>
    some x0
  ) (nodeset_Valid s_0) :=
  callC_le (T := tn) (c := bodyOf Tryd.f32) (o := ⟨[.lf .b], []⟩) sigOk 100000 (by kernel_rfl) Tryd.func32 (by kernel_rfl) (by kernel_rfl) (by kernel_rfl)
theorem deletion_copied_le (t_0 : Trust) : Le (
    capOk (List.length ([] : List (Int)) + List.length t_0.Nodes) <|
    deletion_copied_l1 t_0.Inner ((List.length t_0.Inner : Nat) : Int) 0 t_0.Threshold t_0.Nodes t_0.Inner 0 ([] : List (Int)) ([] : List (Trust)) t_0.Threshold (([] : List (Int)) ++ t_0.Nodes) ([] : List (Trust))
  ) (deletion_copied t_0) :=
  callC_le (T := tn) (c := bodyOf Tryd.f33) (o := ⟨[.ag .Trust], []⟩) sigOk 100000 (by kernel_rfl) Tryd.func33 (by kernel_rfl) (by kernel_rfl) (by kernel_rfl)
theorem deletion_level_le (t_0 : Trust) (s_1 : Int) : Le (
    deletion_level_l1 s_1 t_0.Nodes ((List.length t_0.Nodes : Nat) : Int) 0 t_0.Threshold t_0.Nodes t_0.Inner 0 ([] : List (Int)) ([] : List (Trust)) (if 0 > t_0.Threshold then 0 else t_0.Threshold) ([] : List (Int)) ([] : List (Trust))
  ) (deletion_level t_0 s_1) :=
  callC_le (T := tn) (c := bodyOf Tryd.f34) (o := ⟨[.ag .Trust], []⟩) sigOk 100000 (by kernel_rfl) Tryd.func34 (by kernel_rfl) (by kernel_rfl) (by kernel_rfl)
theorem ref03_text_le (t_0 : Trust) : Le (
    Option.bind (strconv_Itoa t_0.Threshold) fun x0 =>
    chk (List.length x0 + List.length ([32, 111, 102, 32, 40] : List UInt8) ≤ 9223372036854775807) <|
    ref03_text_l1 (x0 ++ ([32, 111, 102, 32, 40] : List UInt8)) ([] : List UInt8) t_0.Nodes ((List.length t_0.Nodes : Nat) : Int) 0 t_0.Threshold t_0.Nodes t_0.Inner
  ) (ref03_text t_0) :=
  callC_le (T := tn) (c := bodyOf Tryd.f58) (o := ⟨[.lf .s], []⟩) sigOk 100000 (by kernel_rfl) Tryd.func58 (by kernel_rfl) (by kernel_rfl) (by kernel_rfl)
theorem ref03_reader_sign_le (s_1 : List UInt8) (h0 : List UInt8) (h1 : Int) : Le (
    Option.bind (ref03_reader_skip h0 h1) fun x0 =>
    bif (ltB ((List.length x0.1 : Nat) : Int) (addI .i64 x0.2 ((List.length s_1 : Nat) : Int))) then
      some (false, x0.1, x0.2)
    else
      hiK (List.length x0.1) (addI .i64 x0.2 ((List.length s_1 : Nat) : Int)) fun b1 =>
      hiK b1 x0.2 fun b2 =>
      bif (!eqS (List.drop b2 (List.take b1 x0.1)) s_1) then
        some (false, x0.1, x0.2)
      else
        some (true, x0.1, (addI .i64 x0.2 ((List.length s_1 : Nat) : Int)))
  ) (ref03_reader_sign s_1 h0 h1) :=
  callC_le (T := tn) (c := bodyOf Tryd.f60) (o := ⟨[.lf .b], [[.lf .s, .lf (.i .i64)]]⟩) sigOk 100000 (by kernel_rfl) Tryd.func60 (by kernel_rfl) (by kernel_rfl) (by kernel_rfl)
theorem nodeset_below_le (s_0 : Int) (n_1 : Int) : Le (
    bif (leB 0 s_0) then
      chk (0 ≤ n_1) <|
      some (ltB s_0 (shlI .i64 1 n_1))
    else
      some false
  ) (nodeset_below s_0 n_1) :=
  callC_le (T := tn) (c := bodyOf Tryd.f52) (o := ⟨[.lf .b], []⟩) sigOk 100000 (by kernel_rfl) Tryd.func52 (by kernel_rfl) (by kernel_rfl) (by kernel_rfl)
theorem strconv_Itoa_le (i_0 : Int) : Le (
    Option.bind (strconv_Itoa_v2 i_0) fun x0 =>
    some x0
  ) (strconv_Itoa i_0) :=
  callC_le (T := tn) (c := bodyOf Tryd.f61) (o := ⟨[.lf .s], []⟩) sigOk 100000 (by kernel_rfl) Tryd.func61 (by kernel_rfl) (by kernel_rfl) (by kernel_rfl)
theorem strconv_Itoa_v2_le (i_0 : Int) : Le (
    Option.bind (strconv_FormatInt i_0 10) fun x0 =>
    some x0
  ) (strconv_Itoa_v2 i_0) :=
  callC_le (T := tn) (c := bodyOf Tryd.f62) (o := ⟨[.lf .s], []⟩) sigOk 100000 (by kernel_rfl) Tryd.func62 (by kernel_rfl) (by kernel_rfl) (by kernel_rfl)
theorem law13_DeletionMeans_l1_le (a1 : Int) (a4 : Int) (a6 : List (Int)) (a8 : Int) (a10 : Int) (a12 : List (Int)) (a14 : List (Trust)) : Le (
    bif (ltB a4 20) then
      chk (0 ≤ a1) <|
      Option.bind (mk_Tape_N (shlI .i64 1 a1) a6 a8) fun x0 =>
      Option.bind (mk_Tape_N a1 x0.2.1 x0.2.2) fun x1 =>
      chk (0 ≤ x1.1) <|
      Option.bind (deletion_Trust (Trust.mk a10 a12 a14) x1.1 (andNotI .i64 x0.1 (shlI .i64 1 x1.1))) fun x2 =>
      chk (0 ≤ a1) <|
      chk (0 ≤ x1.1) <|
      Option.bind (mk_Tape_N (shlI .i64 1 a1) x1.2.1 x1.2.2) fun x3 =>
      Option.bind (ref02_Satisfied x2 (orI .i64 (andNotI .i64 x3.1 (andNotI .i64 x0.1 (shlI .i64 1 x1.1))) (shlI .i64 1 x1.1))) fun x4 =>
      Option.bind (ref02_Satisfied (Trust.mk a10 a12 a14) (orI .i64 (orI .i64 (andNotI .i64 x3.1 (andNotI .i64 x0.1 (shlI .i64 1 x1.1))) (shlI .i64 1 x1.1)) (andNotI .i64 x0.1 (shlI .i64 1 x1.1)))) fun x5 =>
      bif (!(x4 == x5)) then
        some false
      else
        Option.bind (ref02_Valid x2) fun x6 =>
        bif (neB x6 0) then
          some false
        else
          Option.bind (ref02_Uses x2) fun x7 =>
          bif (neB (andI .i64 x7 (andNotI .i64 x0.1 (shlI .i64 1 x1.1))) 0) then
            some false
          else
            law13_DeletionMeans_l1 a1 (addI .i64 a4 1) x3.2.1 x3.2.2 a10 a12 a14
    else
      Option.bind (law13_awake) fun x8 =>
      some x8
  ) (law13_DeletionMeans_l1 a1 a4 a6 a8 a10 a12 a14) :=
  goC_loopAt (T := tn) (o := ⟨[.lf .b], []⟩) sigOk 100000 (b := codeAt Tryd.f3 [1, 1, 1, 1, 0, 1, 0, 0]) (by kernel_rfl) (by kernel_rfl)
theorem ref02_Satisfied_le (t_0 : Trust) (s_1 : Int) : Le (
    Option.bind (ref01_Valid s_1) fun x0 =>
    bif (!x0) then
      some false
    else
      ref02_Satisfied_l1 s_1 0 t_0.Nodes ((List.length t_0.Nodes : Nat) : Int) 0 t_0.Threshold t_0.Nodes t_0.Inner
  ) (ref02_Satisfied t_0 s_1) :=
  callC_le (T := tn) (c := bodyOf Tryd.f13) (o := ⟨[.lf .b], []⟩) sigOk 100000 (by kernel_rfl) Tryd.func13 (by kernel_rfl) (by kernel_rfl) (by kernel_rfl)
end Go.Proofs.YtfemjbmfpnpjfaaDoor
