/- What the functions come to, printed by a program and checked by the kernel. -/
import Derived.Test.YtfemjbmfpnpjfaaDoorR1Df
namespace Go.Proofs.YtfemjbmfpnpjfaaDoor
open Go Go.Ab
set_option maxRecDepth 100000
theorem ref09_Quorum_le (c_0 : Config) (s_1 : Int) : Le (
    Option.bind (ref01_Valid s_1) fun x0 =>
    bif (!x0) then
      some false
    else
      bif (eqB s_1 0) then
        some false
      else
        Option.bind (ref06_Declared c_0) fun x1 =>
        bif (neB (andI .i64 s_1 x1) s_1) then
          some false
        else
          Option.bind (ref01_Nodes s_1) fun x2 =>
          ref09_Quorum_l1 s_1 x2 ((List.length x2 : Nat) : Int) 0 c_0.Members
  ) (ref09_Quorum c_0 s_1) :=
  callC_le (T := tn) (c := bodyOf Tryd.f30) (o := ⟨[.lf .b], []⟩) sigOk 100000 (by kernel_rfl) Tryd.func30 (by kernel_rfl) (by kernel_rfl) (by kernel_rfl)
theorem ref09_Elimination_le (c_0 : Config) (s_1 : Int) : Le (
    Option.bind (ref01_Valid s_1) fun x0 =>
    bif (!x0) then
      some ([] : List (Int))
    else
      Option.bind (ref06_Declared c_0) fun x1 =>
      ref09_Elimination_l1 (andI .i64 s_1 x1) ([] : List (Int)) true c_0.Members
  ) (ref09_Elimination c_0 s_1) :=
  callC_le (T := tn) (c := bodyOf Tryd.f49) (o := ⟨[.lf (.l .i64)], []⟩) sigOk 100000 (by kernel_rfl) Tryd.func49 (by kernel_rfl) (by kernel_rfl) (by kernel_rfl)
theorem ref01_Nodes_le (s_0 : Int) : Le (
    ref01_Nodes_l1 s_0 ([] : List (Int)) 0
  ) (ref01_Nodes s_0) :=
  callC_le (T := tn) (c := bodyOf Tryd.f50) (o := ⟨[.lf (.l .i64)], []⟩) sigOk 100000 (by kernel_rfl) Tryd.func50 (by kernel_rfl) (by kernel_rfl) (by kernel_rfl)
theorem mk_SmallConfig_l1_le (a1 : Int) (a3 : Int) (a5 : List (Member)) : Le (
    bif (ltB a3 ((List.length a5 : Nat) : Int)) then
      bif (leB a1 400) then
        nth a5 a3 fun y0 =>
        Option.bind (mk_entries y0.Trust a1) fun x1 =>
        mk_SmallConfig_l1 x1 (addI .i64 a3 1) a5
      else
        some (leB a1 400)
    else
      some (leB a1 400)
  ) (mk_SmallConfig_l1 a1 a3 a5) :=
  goC_loopAt (T := tn) (o := ⟨[.lf .b], []⟩) sigOk 100000 (b := codeAt Tryd.f18 [1, 1, 1, 0, 1, 0, 0]) (by kernel_rfl) (by kernel_rfl)
theorem mk_Config_l1_le (a2 : Int) (a4 : Int) (a7 : Int) (a9 : List (Int)) (a11 : Int) (a13 : List (Member)) (a15 : List (Member)) : Le (
    bif (ltB a7 a2) then
      bif (eqB a4 0) then
        Option.bind (mk_Trust a2 2 a9 a11) fun x0 =>
        Option.bind (mk_Tape_N 12 x0.2.1 x0.2.2) fun x1 =>
        bif (eqB x1.1 11) then
          capOk (List.length a15 + List.length ([(Member.mk false (Trust.mk 0 ([] : List (Int)) ([] : List (Trust))))] : List (Member))) <|
          mk_Config_l1 a2 a4 (addI .i64 a7 1) x1.2.1 x1.2.2 a13 (a15 ++ ([(Member.mk false (Trust.mk 0 ([] : List (Int)) ([] : List (Trust))))] : List (Member)))
        else
          capOk (List.length a15 + List.length ([(Member.mk true (Trust.mk x0.1.Threshold x0.1.Nodes x0.1.Inner))] : List (Member))) <|
          mk_Config_l1 a2 a4 (addI .i64 a7 1) x1.2.1 x1.2.2 a13 (a15 ++ ([(Member.mk true (Trust.mk x0.1.Threshold x0.1.Nodes x0.1.Inner))] : List (Member)))
      else
        bif (eqB a4 1) then
          Option.bind (mk_most a2 a9 a11) fun x2 =>
          Option.bind (mk_Tape_N 12 x2.2.1 x2.2.2) fun x3 =>
          bif (eqB x3.1 11) then
            capOk (List.length a15 + List.length ([(Member.mk false (Trust.mk 0 ([] : List (Int)) ([] : List (Trust))))] : List (Member))) <|
            mk_Config_l1 a2 a4 (addI .i64 a7 1) x3.2.1 x3.2.2 a13 (a15 ++ ([(Member.mk false (Trust.mk 0 ([] : List (Int)) ([] : List (Trust))))] : List (Member)))
          else
            capOk (List.length a15 + List.length ([(Member.mk true (Trust.mk x2.1.Threshold x2.1.Nodes x2.1.Inner))] : List (Member))) <|
            mk_Config_l1 a2 a4 (addI .i64 a7 1) x3.2.1 x3.2.2 a13 (a15 ++ ([(Member.mk true (Trust.mk x2.1.Threshold x2.1.Nodes x2.1.Inner))] : List (Member)))
        else
          Option.bind (mk_group a2 a7 a9 a11) fun x4 =>
          Option.bind (mk_Tape_N 12 x4.2.1 x4.2.2) fun x5 =>
          bif (eqB x5.1 11) then
            capOk (List.length a15 + List.length ([(Member.mk false (Trust.mk 0 ([] : List (Int)) ([] : List (Trust))))] : List (Member))) <|
            mk_Config_l1 a2 a4 (addI .i64 a7 1) x5.2.1 x5.2.2 a13 (a15 ++ ([(Member.mk false (Trust.mk 0 ([] : List (Int)) ([] : List (Trust))))] : List (Member)))
          else
            capOk (List.length a15 + List.length ([(Member.mk true (Trust.mk x4.1.Threshold x4.1.Nodes x4.1.Inner))] : List (Member))) <|
            mk_Config_l1 a2 a4 (addI .i64 a7 1) x5.2.1 x5.2.2 a13 (a15 ++ ([(Member.mk true (Trust.mk x4.1.Threshold x4.1.Nodes x4.1.Inner))] : List (Member)))
    else
      some ((Config.mk a15), a9, a11)
  ) (mk_Config_l1 a2 a4 a7 a9 a11 a13 a15) :=
  goC_loopAt (T := tn) (o := ⟨[.ag .Config], [[.lf (.l .i64), .lf (.i .i64)]]⟩) sigOk 100000 (b := codeAt Tryd.f19 [1, 1, 1, 1, 0, 1, 0, 0]) (by kernel_rfl) (by kernel_rfl)
theorem mk_most_le (m_1 : Int) (h0 : List (Int)) (h1 : Int) : Le (
    mk_most_l1 m_1 0 h0 h1 0 ([] : List (Int)) ([] : List (Trust)) 0 ([] : List (Int)) ([] : List (Trust))
  ) (mk_most m_1 h0 h1) :=
  callC_le (T := tn) (c := bodyOf Tryd.f43) (o := ⟨[.ag .Trust], [[.lf (.l .i64), .lf (.i .i64)]]⟩) sigOk 100000 (by kernel_rfl) Tryd.func43 (by kernel_rfl) (by kernel_rfl) (by kernel_rfl)
theorem mk_group_le (m_1 : Int) (k_2 : Int) (h0 : List (Int)) (h1 : Int) : Le (
    mk_group_l1 m_1 k_2 ([] : List (Trust)) 0 h0 h1 0 ([] : List (Int)) ([] : List (Trust))
  ) (mk_group m_1 k_2 h0 h1) :=
  callC_le (T := tn) (c := bodyOf Tryd.f44) (o := ⟨[.ag .Trust], [[.lf (.l .i64), .lf (.i .i64)]]⟩) sigOk 100000 (by kernel_rfl) Tryd.func44 (by kernel_rfl) (by kernel_rfl) (by kernel_rfl)
theorem deletion_Delete_l1_le (a0 : Int) (a4 : List (Member)) (a6 : Int) (a8 : Int) (a10 : List (Member)) (a12 : List (Member)) (a14 : List (Member)) : Le (
    bif (ltB a8 a6) then
      nth a4 a8 fun y0 =>
      Option.bind (nodeset_Has a0 a8) fun x1 =>
      bif x1 then
        capOk (List.length a14 + List.length ([(Member.mk false (Trust.mk 0 ([] : List (Int)) ([] : List (Trust))))] : List (Member))) <|
        deletion_Delete_l1 a0 a4 a6 (addI .i64 a8 1) a10 a12 (a14 ++ ([(Member.mk false (Trust.mk 0 ([] : List (Int)) ([] : List (Trust))))] : List (Member)))
      else
        bif y0.Declared then
          Option.bind (deletion_Trust y0.Trust a8 a0) fun x2 =>
          capOk (List.length a14 + List.length ([(Member.mk y0.Declared (Trust.mk x2.Threshold x2.Nodes x2.Inner))] : List (Member))) <|
          deletion_Delete_l1 a0 a4 a6 (addI .i64 a8 1) a10 a12 (a14 ++ ([(Member.mk y0.Declared (Trust.mk x2.Threshold x2.Nodes x2.Inner))] : List (Member)))
        else
          Option.bind (deletion_copied y0.Trust) fun x3 =>
          capOk (List.length a14 + List.length ([(Member.mk y0.Declared (Trust.mk x3.Threshold x3.Nodes x3.Inner))] : List (Member))) <|
          deletion_Delete_l1 a0 a4 a6 (addI .i64 a8 1) a10 a12 (a14 ++ ([(Member.mk y0.Declared (Trust.mk x3.Threshold x3.Nodes x3.Inner))] : List (Member)))
    else
      some (Config.mk a14)
  ) (deletion_Delete_l1 a0 a4 a6 a8 a10 a12 a14) :=
  goC_loopAt (T := tn) (o := ⟨[.ag .Config], []⟩) sigOk 100000 (b := codeAt Tryd.f25 [1, 1, 0, 1, 0, 0]) (by kernel_rfl) (by kernel_rfl)
theorem nodeset_Has_le (s_0 : Int) (node_1 : Int) : Le (
    Option.bind (nodeset_Valid s_0) fun x0 =>
    bif x0 then
      bif (leB 0 node_1) then
        bif (ltB node_1 10) then
          chk (0 ≤ node_1) <|
          some (neB (andI .i64 s_0 (shlI .i64 1 node_1)) 0)
        else
          some false
      else
        some false
    else
      some false
  ) (nodeset_Has s_0 node_1) :=
  callC_le (T := tn) (c := bodyOf Tryd.f48) (o := ⟨[.lf .b], []⟩) sigOk 100000 (by kernel_rfl) Tryd.func48 (by kernel_rfl) (by kernel_rfl) (by kernel_rfl)
theorem ref06_Same_l1_le (a2 : Int) (a4 : Int) (a6 : List (Member)) (a8 : List (Member)) : Le (
    bif (ltB a4 a2) then
      nth a6 a4 fun y0 =>
      nth a8 a4 fun y1 =>
      bif (!(y0.Declared == y1.Declared)) then
        some false
      else
        nth a6 a4 fun y2 =>
        nth a8 a4 fun y3 =>
        Option.bind (ref02_Same y2.Trust y3.Trust) fun x4 =>
        bif (!x4) then
          some false
        else
          ref06_Same_l1 a2 (addI .i64 a4 1) a6 a8
    else
      some true
  ) (ref06_Same_l1 a2 a4 a6 a8) :=
  goC_loopAt (T := tn) (o := ⟨[.lf .b], []⟩) sigOk 100000 (b := codeAt Tryd.f24 [1, 1, 0, 1, 0, 0]) (by kernel_rfl) (by kernel_rfl)
theorem ref02_Same_le (a_0 : Trust) (b_1 : Trust) : Le (
    bif (neB a_0.Threshold b_1.Threshold) then
      some false
    else
      Option.bind (ref01_Same a_0.Nodes b_1.Nodes) fun x0 =>
      bif (!x0) then
        some false
      else
        bif (neB ((List.length a_0.Inner : Nat) : Int) ((List.length b_1.Inner : Nat) : Int)) then
          some false
        else
          ref02_Same_l1 ((List.length a_0.Inner : Nat) : Int) 0 a_0.Threshold a_0.Nodes a_0.Inner b_1.Threshold b_1.Nodes b_1.Inner
  ) (ref02_Same a_0 b_1) :=
  callC_le (T := tn) (c := bodyOf Tryd.f21) (o := ⟨[.lf .b], []⟩) sigOk 100000 (by kernel_rfl) Tryd.func21 (by kernel_rfl) (by kernel_rfl) (by kernel_rfl)
theorem ref01_Same_le (a_0 : List (Int)) (b_1 : List (Int)) : Le (
    bif (neB ((List.length a_0 : Nat) : Int) ((List.length b_1 : Nat) : Int)) then
      some false
    else
      ref01_Same_l1 a_0 b_1 ((List.length a_0 : Nat) : Int) 0
  ) (ref01_Same a_0 b_1) :=
  callC_le (T := tn) (c := bodyOf Tryd.f46) (o := ⟨[.lf .b], []⟩) sigOk 100000 (by kernel_rfl) Tryd.func46 (by kernel_rfl) (by kernel_rfl) (by kernel_rfl)
theorem ref06_Valid_l1_le (a1 : List (Member)) (a3 : Int) (a5 : Int) (a7 : List (Member)) : Le (
    bif (ltB a5 a3) then
      nth a1 a5 fun y0 =>
      bif (!y0.Declared) then
        Option.bind (ref02_Same y0.Trust (Trust.mk 0 ([] : List (Int)) ([] : List (Trust)))) fun x1 =>
        bif (!x1) then
          some 1
        else
          ref06_Valid_l1 a1 a3 (addI .i64 a5 1) a7
      else
        Option.bind (ref02_Valid y0.Trust) fun x2 =>
        bif (neB x2 0) then
          some x2
        else
          chk (0 ≤ ((List.length a7 : Nat) : Int)) <|
          Option.bind (ref02_Uses y0.Trust) fun x3 =>
          bif (leB (shlI .i64 1 ((List.length a7 : Nat) : Int)) x3) then
            some 5
          else
            ref06_Valid_l1 a1 a3 (addI .i64 a5 1) a7
    else
      some 0
  ) (ref06_Valid_l1 a1 a3 a5 a7) :=
  goC_loopAt (T := tn) (o := ⟨[.lf (.i .i64)], []⟩) sigOk 100000 (b := codeAt Tryd.f27 [1, 1, 0, 1, 0, 0]) (by kernel_rfl) (by kernel_rfl)
theorem ref06_Declared_l1_le (a0 : Int) (a2 : List (Member)) (a4 : Int) (a6 : Int) (a8 : List (Member)) : Le (
    bif (ltB a6 a4) then
      nth a2 a6 fun y0 =>
      bif (ltB a6 10) then
        bif y0.Declared then
          chk (0 ≤ a6) <|
          ref06_Declared_l1 (orI .i64 a0 (shlI .i64 1 a6)) a2 a4 (addI .i64 a6 1) a8
        else
          ref06_Declared_l1 a0 a2 a4 (addI .i64 a6 1) a8
      else
        ref06_Declared_l1 a0 a2 a4 (addI .i64 a6 1) a8
    else
      some a0
  ) (ref06_Declared_l1 a0 a2 a4 a6 a8) :=
  goC_loopAt (T := tn) (o := ⟨[.lf (.i .i64)], []⟩) sigOk 100000 (b := codeAt Tryd.f28 [1, 1, 0, 1, 0, 0]) (by kernel_rfl) (by kernel_rfl)
theorem mk_trust_l1_le (a1 : Int) (a3 : Int) (a7 : List (Int)) (a9 : Int) (a11 : Int) (a13 : List (Int)) (a15 : Int) (a17 : Int) (a19 : List (Int)) (a21 : List (Trust)) (a23 : Int) (a25 : List (Int)) (a27 : List (Trust)) : Le (
    bif (ltB a11 a9) then
      nth a7 a11 fun y0 =>
      capOk (List.length a25 + List.length ([y0] : List (Int))) <|
      mk_trust_l1 a1 a3 a7 a9 (addI .i64 a11 1) a13 a15 a17 a19 a21 a23 (a25 ++ ([y0] : List (Int))) a27
    else
      bif (ltB 1 a3) then
        Option.bind (mk_Tape_Pick ([0, 0, 1, 1, 2, 3] : List (Int)) a13 a15) fun x1 =>
        mk_trust_l2 a1 a3 x1.1 x1.2.1 x1.2.2 a17 a19 a21 a23 a25 a27
      else
        Option.bind (mk_Tape_Range 1 (addI .i64 ((List.length a25 : Nat) : Int) ((List.length a27 : Nat) : Int)) a13 a15) fun x2 =>
        some ((Trust.mk x2.1 a25 a27), x2.2.1, x2.2.2)
  ) (mk_trust_l1 a1 a3 a7 a9 a11 a13 a15 a17 a19 a21 a23 a25 a27) :=
  goC_loopAt (T := tn) (o := ⟨[.ag .Trust], [[.lf (.l .i64), .lf (.i .i64)]]⟩) sigOk 100000 (b := codeAt Tryd.f31 [1, 1, 1, 0, 1, 0, 0]) (by kernel_rfl) (by kernel_rfl)
theorem mk_Tape_Pick_le (l_1 : List (Int)) (h0 : List (Int)) (h1 : Int) : Le (
    Option.bind (mk_Tape_N ((List.length l_1 : Nat) : Int) h0 h1) fun x0 =>
    nth l_1 x0.1 fun y1 =>
    some (y1, x0.2.1, x0.2.2)
  ) (mk_Tape_Pick l_1 h0 h1) :=
  callC_le (T := tn) (c := bodyOf Tryd.f45) (o := ⟨[.lf (.i .i64)], [[.lf (.l .i64), .lf (.i .i64)]]⟩) sigOk 100000 (by kernel_rfl) Tryd.func45 (by kernel_rfl) (by kernel_rfl) (by kernel_rfl)
theorem mk_entries_l1_le (a0 : Int) (a3 : Int) (a5 : Int) (a7 : List (Int)) (a9 : List (Trust)) : Le (
    bif (ltB a3 ((List.length a9 : Nat) : Int)) then
      bif (leB a0 400) then
        nth a9 a3 fun y0 =>
        Option.bind (mk_entries y0 a0) fun x1 =>
        mk_entries_l1 x1 (addI .i64 a3 1) a5 a7 a9
      else
        some a0
    else
      some a0
  ) (mk_entries_l1 a0 a3 a5 a7 a9) :=
  goC_loopAt (T := tn) (o := ⟨[.lf (.i .i64)], []⟩) sigOk 100000 (b := codeAt Tryd.f42 [1, 1, 0, 1, 0, 0]) (by kernel_rfl) (by kernel_rfl)
theorem mk_Tape_Order_l1_le (a1 : Int) (a3 : List (Int)) (a5 : Int) (a7 : List (Int)) (a9 : Int) : Le (
    bif (ltB a5 a1) then
      capOk (List.length a3 + List.length ([a5] : List (Int))) <|
      mk_Tape_Order_l1 a1 (a3 ++ ([a5] : List (Int))) (addI .i64 a5 1) a7 a9
    else
      mk_Tape_Order_l2 a3 (subI .i64 a1 1) a7 a9
  ) (mk_Tape_Order_l1 a1 a3 a5 a7 a9) :=
  goC_loopAt (T := tn) (o := ⟨[.lf (.l .i64)], [[.lf (.l .i64), .lf (.i .i64)]]⟩) sigOk 100000 (b := codeAt Tryd.f51 [1, 1, 0, 1, 0, 0]) (by kernel_rfl) (by kernel_rfl)
theorem ref02_Depth_l1_le (a0 : Int) (a2 : List (Trust)) (a4 : Int) (a6 : Int) (a8 : Int) (a10 : List (Int)) (a12 : List (Trust)) : Le (
    bif (ltB a6 a4) then
      nth a2 a6 fun y0 =>
      Option.bind (ref02_Depth y0) fun x1 =>
      ref02_Depth_l1 (if x1 > a0 then x1 else a0) a2 a4 (addI .i64 a6 1) a8 a10 a12
    else
      some (addI .i64 a0 1)
  ) (ref02_Depth_l1 a0 a2 a4 a6 a8 a10 a12) :=
  goC_loopAt (T := tn) (o := ⟨[.lf (.i .i64)], []⟩) sigOk 100000 (b := codeAt Tryd.f37 [1, 1, 0, 1, 0, 0]) (by kernel_rfl) (by kernel_rfl)
theorem ref02_Size_l1_le (a0 : Int) (a2 : List (Trust)) (a4 : Int) (a6 : Int) (a8 : Int) (a10 : List (Int)) (a12 : List (Trust)) : Le (
    bif (ltB a6 a4) then
      nth a2 a6 fun y0 =>
      Option.bind (ref02_Size y0) fun x1 =>
      ref02_Size_l1 (addI .i64 a0 x1) a2 a4 (addI .i64 a6 1) a8 a10 a12
    else
      some a0
  ) (ref02_Size_l1 a0 a2 a4 a6 a8 a10 a12) :=
  goC_loopAt (T := tn) (o := ⟨[.lf (.i .i64)], []⟩) sigOk 100000 (b := codeAt Tryd.f38 [1, 1, 0, 1, 0, 0]) (by kernel_rfl) (by kernel_rfl)
theorem ref02_check_l1_le (a1 : List (Int)) (a3 : Int) (a5 : Int) (a7 : Int) (a9 : List (Int)) (a11 : List (Trust)) : Le (
    bif (ltB a5 a3) then
      nth a1 a5 fun y0 =>
      bif (ltB y0 0) then
        some 5
      else
        bif (leB 10 y0) then
          some 5
        else
          ref02_check_l1 a1 a3 (addI .i64 a5 1) a7 a9 a11
    else
      Option.bind (ref01_Of a9) fun x1 =>
      bif (neB x1.2 0) then
        some x1.2
      else
        ref02_check_l2 a11 ((List.length a11 : Nat) : Int) 0 a7 a9 a11
  ) (ref02_check_l1 a1 a3 a5 a7 a9 a11) :=
  goC_loopAt (T := tn) (o := ⟨[.lf (.i .i64)], []⟩) sigOk 100000 (b := codeAt Tryd.f39 [1, 1, 0, 1, 0, 0]) (by kernel_rfl) (by kernel_rfl)
theorem ref01_Of_le (nodes_0 : List (Int)) : Le (
    ref01_Of_l1 0 nodes_0 ((List.length nodes_0 : Nat) : Int) 0
  ) (ref01_Of nodes_0) :=
  callC_le (T := tn) (c := bodyOf Tryd.f54) (o := ⟨[.lf (.i .i64), .lf (.i .i64)], []⟩) sigOk 100000 (by kernel_rfl) Tryd.func54 (by kernel_rfl) (by kernel_rfl) (by kernel_rfl)
theorem deletion_level_l1_le (a0 : Int) (a5 : List (Int)) (a7 : Int) (a9 : Int) (a11 : Int) (a13 : List (Int)) (a15 : List (Trust)) (a17 : Int) (a19 : List (Int)) (a21 : List (Trust)) (a23 : Int) (a25 : List (Int)) (a27 : List (Trust)) : Le (
    bif (ltB a9 a7) then
      nth a5 a9 fun y0 =>
      Option.bind (nodeset_Has a0 y0) fun x1 =>
      bif x1 then
        Option.bind (deletion_lowered a23 1) fun x2 =>
        deletion_level_l1 a0 a5 a7 (addI .i64 a9 1) a11 a13 a15 a17 a19 a21 x2 a25 a27
      else
        capOk (List.length a25 + List.length ([y0] : List (Int))) <|
        deletion_level_l1 a0 a5 a7 (addI .i64 a9 1) a11 a13 a15 a17 a19 a21 a23 (a25 ++ ([y0] : List (Int))) a27
    else
      deletion_level_l2 a0 a15 ((List.length a15 : Nat) : Int) 0 a11 a13 a15 a17 a19 a21 a23 a25 a27
  ) (deletion_level_l1 a0 a5 a7 a9 a11 a13 a15 a17 a19 a21 a23 a25 a27) :=
  goC_loopAt (T := tn) (o := ⟨[.ag .Trust], []⟩) sigOk 100000 (b := codeAt Tryd.f34 [1, 1, 0, 1, 0, 0]) (by kernel_rfl) (by kernel_rfl)
theorem deletion_lowered_le (threshold_0 : Int) (by_1 : Int) : Le (
    some (subI .i64 (if by_1 > threshold_0 then by_1 else threshold_0) by_1)
  ) (deletion_lowered threshold_0 by_1) :=
  callC_le (T := tn) (c := bodyOf Tryd.f53) (o := ⟨[.lf (.i .i64)], []⟩) sigOk 100000 (by kernel_rfl) Tryd.func53 (by kernel_rfl) (by kernel_rfl) (by kernel_rfl)
theorem ref03_text_l1_le (a1 : List UInt8) (a3 : List UInt8) (a5 : List (Int)) (a7 : Int) (a9 : Int) (a11 : Int) (a13 : List (Int)) (a15 : List (Trust)) : Le (
    bif (ltB a9 a7) then
      nth a5 a9 fun y0 =>
      chk (List.length a1 + List.length a3 ≤ 9223372036854775807) <|
      Option.bind (strconv_Itoa y0) fun x1 =>
      chk (List.length (a1 ++ a3) + List.length x1 ≤ 9223372036854775807) <|
      ref03_text_l1 ((a1 ++ a3) ++ x1) ([44, 32] : List UInt8) a5 a7 (addI .i64 a9 1) a11 a13 a15
    else
      ref03_text_l2 a1 a3 a15 ((List.length a15 : Nat) : Int) 0 a11 a13 a15
  ) (ref03_text_l1 a1 a3 a5 a7 a9 a11 a13 a15) :=
  goC_loopAt (T := tn) (o := ⟨[.lf .s], []⟩) sigOk 100000 (b := codeAt Tryd.f58 [1, 1, 1, 0, 1, 0, 0]) (by kernel_rfl) (by kernel_rfl)
theorem ref02_Satisfied_l1_le (a0 : Int) (a3 : Int) (a5 : List (Int)) (a7 : Int) (a9 : Int) (a11 : Int) (a13 : List (Int)) (a15 : List (Trust)) : Le (
    bif (ltB a9 a7) then
      nth a5 a9 fun y0 =>
      Option.bind (ref01_Has a0 y0) fun x1 =>
      bif x1 then
        ref02_Satisfied_l1 a0 (addI .i64 a3 1) a5 a7 (addI .i64 a9 1) a11 a13 a15
      else
        ref02_Satisfied_l1 a0 a3 a5 a7 (addI .i64 a9 1) a11 a13 a15
    else
      ref02_Satisfied_l2 a0 a3 a15 ((List.length a15 : Nat) : Int) 0 a11 a13 a15
  ) (ref02_Satisfied_l1 a0 a3 a5 a7 a9 a11 a13 a15) :=
  goC_loopAt (T := tn) (o := ⟨[.lf .b], []⟩) sigOk 100000 (b := codeAt Tryd.f13 [1, 1, 1, 0, 1, 0, 0]) (by kernel_rfl) (by kernel_rfl)
theorem ref01_Has_le (s_0 : Int) (node_1 : Int) : Le (
    Option.bind (ref01_Valid s_0) fun x0 =>
    bif x0 then
      bif (leB 0 node_1) then
        bif (ltB node_1 10) then
          chk (0 ≤ node_1) <|
          some (eqB (andI .i64 (shrI .i64 s_0 node_1) 1) 1)
        else
          some false
      else
        some false
    else
      some false
  ) (ref01_Has s_0 node_1) :=
  callC_le (T := tn) (c := bodyOf Tryd.f36) (o := ⟨[.lf .b], []⟩) sigOk 100000 (by kernel_rfl) Tryd.func36 (by kernel_rfl) (by kernel_rfl) (by kernel_rfl)
theorem ref02_Uses_l1_le (a1 : Int) (a3 : List (Int)) (a5 : Int) (a7 : Int) (a9 : Int) (a11 : List (Int)) (a13 : List (Trust)) : Le (
    bif (ltB a7 a5) then
      nth a3 a7 fun y0 =>
      bif (leB 0 y0) then
        bif (ltB y0 10) then
          chk (0 ≤ y0) <|
          ref02_Uses_l1 (orI .i64 a1 (shlI .i64 1 y0)) a3 a5 (addI .i64 a7 1) a9 a11 a13
        else
          ref02_Uses_l1 a1 a3 a5 (addI .i64 a7 1) a9 a11 a13
      else
        ref02_Uses_l1 a1 a3 a5 (addI .i64 a7 1) a9 a11 a13
    else
      ref02_Uses_l2 a1 a13 ((List.length a13 : Nat) : Int) 0 a9 a11 a13
  ) (ref02_Uses_l1 a1 a3 a5 a7 a9 a11 a13) :=
  goC_loopAt (T := tn) (o := ⟨[.lf (.i .i64)], []⟩) sigOk 100000 (b := codeAt Tryd.f15 [1, 1, 0, 1, 0, 0]) (by kernel_rfl) (by kernel_rfl)
theorem law13_DeletionAnswers_l2_le (a0 : Int) (a7 : Int) (a9 : List (Int)) (a11 : Int) (a13 : Int) (a15 : List (Trust)) (a17 : Int) (a19 : Int) (a21 : Int) (a23 : List (Int)) (a25 : List (Trust)) (a27 : List (Member)) (a29 : List (Int)) (a31 : Int) (a33 : List (Member)) (a35 : Int) (a37 : List (Int)) (a39 : List (Trust)) : Le (
    bif (ltB a19 a17) then
      nth a15 a19 fun y0 =>
      Option.bind (mk_Tape_N 10 a29 a31) fun x1 =>
      law13_DeletionAnswers_l3 a0 a7 a9 a11 a13 a15 a17 a19 ([a0, x1.1] : List (Int)) ((List.length ([a0, x1.1] : List (Int)) : Nat) : Int) 0 a21 a23 a25 a27 x1.2.1 x1.2.2 a33 a35 a37 a39 y0.Threshold y0.Nodes y0.Inner
    else
      Option.bind (mk_BentConfig (Config.mk a33) a29 a31) fun x2 =>
      law13_DeletionAnswers_l4 a0 a7 a9 a11 a13 ([(Config.mk a33), (Config.mk x2.1.Members), (Config.mk a27)] : List (Config)) ((List.length ([(Config.mk a33), (Config.mk x2.1.Members), (Config.mk a27)] : List (Config)) : Nat) : Int) 0 a21 a23 a25 a27 x2.2.1 x2.2.2 a33 a35 a37 a39
  ) (law13_DeletionAnswers_l2 a0 a7 a9 a11 a13 a15 a17 a19 a21 a23 a25 a27 a29 a31 a33 a35 a37 a39) :=
  goC_loopAt (T := tn) (o := ⟨[.lf .b], []⟩) sigOk 100000 (b := codeAt Tryd.f5 [1, 1, 1, 1, 1, 0, 1, 0, 0, 1, 1, 0, 0, 1, 0, 1, 0, 0]) (by kernel_rfl) (by kernel_rfl)
theorem law13_DeletionQuorums_l2_le (a2 : Int) (a4 : Int) (a7 : Int) (a9 : Int) (a11 : Bool) (a13 : Int) (a15 : Int) (a17 : List (Int)) (a19 : Int) (a21 : List (Member)) (a23 : List (Member)) : Le (
    bif (ltB a15 a13) then
      chk (0 ≤ a15) <|
      bif (eqB (andI .i64 (shrI .i64 a9 a15) 1) 1) then
        nth a21 a15 fun y0 =>
        Option.bind (ref02_Satisfied y0.Trust (orI .i64 a9 a4)) fun x1 =>
        bif (!x1) then
          law13_DeletionQuorums_l2 a2 a4 a7 a9 false a13 (addI .i64 a15 1) a17 a19 a21 a23
        else
          law13_DeletionQuorums_l2 a2 a4 a7 a9 a11 a13 (addI .i64 a15 1) a17 a19 a21 a23
      else
        law13_DeletionQuorums_l2 a2 a4 a7 a9 a11 a13 (addI .i64 a15 1) a17 a19 a21 a23
    else
      Option.bind (ref09_Quorum (Config.mk a23) a9) fun x2 =>
      bif (!(x2 == a11)) then
        some false
      else
        law13_DeletionQuorums_l1 a2 a4 (addI .i64 a7 1) a17 a19 a21 a23
  ) (law13_DeletionQuorums_l2 a2 a4 a7 a9 a11 a13 a15 a17 a19 a21 a23) :=
  goC_loopAt (T := tn) (o := ⟨[.lf .b], []⟩) sigOk 100000 (b := codeAt Tryd.f7 [1, 1, 1, 1, 1, 1, 1, 0, 1, 0, 0, 1, 0, 0, 1, 1, 1, 1, 1, 0, 1, 0, 0]) (by kernel_rfl) (by kernel_rfl)
theorem ref09_Greatest_l1_le (a0 : Int) (a2 : List (Int)) (a4 : Int) (a6 : Int) (a8 : List (Member)) : Le (
    bif (ltB a6 a4) then
      nth a2 a6 fun y0 =>
      chk (0 ≤ y0) <|
      ref09_Greatest_l1 (subI .i64 a0 (shlI .i64 1 y0)) a2 a4 (addI .i64 a6 1) a8
    else
      some a0
  ) (ref09_Greatest_l1 a0 a2 a4 a6 a8) :=
  goC_loopAt (T := tn) (o := ⟨[.lf (.i .i64)], []⟩) sigOk 100000 (b := codeAt Tryd.f29 [1, 1, 1, 0, 1, 0, 0]) (by kernel_rfl) (by kernel_rfl)
theorem ref09_Quorum_l1_le (a0 : Int) (a3 : List (Int)) (a5 : Int) (a7 : Int) (a9 : List (Member)) : Le (
    bif (ltB a7 a5) then
      nth a3 a7 fun y0 =>
      nth a9 y0 fun y1 =>
      Option.bind (ref02_Satisfied y1.Trust a0) fun x2 =>
      bif (!x2) then
        some false
      else
        ref09_Quorum_l1 a0 a3 a5 (addI .i64 a7 1) a9
    else
      some true
  ) (ref09_Quorum_l1 a0 a3 a5 a7 a9) :=
  goC_loopAt (T := tn) (o := ⟨[.lf .b], []⟩) sigOk 100000 (b := codeAt Tryd.f30 [1, 1, 0, 1, 0, 0]) (by kernel_rfl) (by kernel_rfl)
theorem ref09_Elimination_l1_le (a1 : Int) (a3 : List (Int)) (a5 : Bool) (a7 : List (Member)) : Le (
    bif a5 then
      Option.bind (ref01_Nodes a1) fun x0 =>
      ref09_Elimination_l2 a1 a3 false x0 ((List.length x0 : Nat) : Int) 0 a7
    else
      some a3
  ) (ref09_Elimination_l1 a1 a3 a5 a7) :=
  goC_loopAt (T := tn) (o := ⟨[.lf (.l .i64)], []⟩) sigOk 100000 (b := codeAt Tryd.f49 [1, 1, 1, 1, 0, 1, 0, 0]) (by kernel_rfl) (by kernel_rfl)
theorem ref01_Nodes_l1_le (a0 : Int) (a2 : List (Int)) (a4 : Int) : Le (
    bif (ltB a4 10) then
      Option.bind (ref01_Has a0 a4) fun x0 =>
      bif x0 then
        capOk (List.length a2 + List.length ([a4] : List (Int))) <|
        ref01_Nodes_l1 a0 (a2 ++ ([a4] : List (Int))) (addI .i64 a4 1)
      else
        ref01_Nodes_l1 a0 a2 (addI .i64 a4 1)
    else
      some a2
  ) (ref01_Nodes_l1 a0 a2 a4) :=
  goC_loopAt (T := tn) (o := ⟨[.lf (.l .i64)], []⟩) sigOk 100000 (b := codeAt Tryd.f50 [1, 1, 0, 1, 0, 0]) (by kernel_rfl) (by kernel_rfl)
theorem mk_most_l1_le (a1 : Int) (a5 : Int) (a7 : List (Int)) (a9 : Int) (a11 : Int) (a13 : List (Int)) (a15 : List (Trust)) (a17 : Int) (a19 : List (Int)) (a21 : List (Trust)) : Le (
    bif (ltB a5 a1) then
      Option.bind (mk_Tape_N 10 a7 a9) fun x0 =>
      bif (ltB x0.1 9) then
        capOk (List.length a19 + List.length ([a5] : List (Int))) <|
        mk_most_l1 a1 (addI .i64 a5 1) x0.2.1 x0.2.2 a11 a13 a15 a17 (a19 ++ ([a5] : List (Int))) a21
      else
        mk_most_l1 a1 (addI .i64 a5 1) x0.2.1 x0.2.2 a11 a13 a15 a17 a19 a21
    else
      bif (eqB ((List.length a19 : Nat) : Int) 0) then
        Option.bind (mk_Tape_Pick ([0, 0, 0, 1, (-1)] : List (Int)) a7 a9) fun x1 =>
        some ((Trust.mk (if (if (addI .i64 (quoI .i64 (addI .i64 (mulI .i64 2 ((List.length ([0] : List (Int)) : Nat) : Int)) 2) 3) x1.1) > 1 then (addI .i64 (quoI .i64 (addI .i64 (mulI .i64 2 ((List.length ([0] : List (Int)) : Nat) : Int)) 2) 3) x1.1) else 1) < ((List.length ([0] : List (Int)) : Nat) : Int) then (if (addI .i64 (quoI .i64 (addI .i64 (mulI .i64 2 ((List.length ([0] : List (Int)) : Nat) : Int)) 2) 3) x1.1) > 1 then (addI .i64 (quoI .i64 (addI .i64 (mulI .i64 2 ((List.length ([0] : List (Int)) : Nat) : Int)) 2) 3) x1.1) else 1) else ((List.length ([0] : List (Int)) : Nat) : Int)) ([0] : List (Int)) a21), x1.2.1, x1.2.2)
      else
        Option.bind (mk_Tape_Pick ([0, 0, 0, 1, (-1)] : List (Int)) a7 a9) fun x2 =>
        some ((Trust.mk (if (if (addI .i64 (quoI .i64 (addI .i64 (mulI .i64 2 ((List.length a19 : Nat) : Int)) 2) 3) x2.1) > 1 then (addI .i64 (quoI .i64 (addI .i64 (mulI .i64 2 ((List.length a19 : Nat) : Int)) 2) 3) x2.1) else 1) < ((List.length a19 : Nat) : Int) then (if (addI .i64 (quoI .i64 (addI .i64 (mulI .i64 2 ((List.length a19 : Nat) : Int)) 2) 3) x2.1) > 1 then (addI .i64 (quoI .i64 (addI .i64 (mulI .i64 2 ((List.length a19 : Nat) : Int)) 2) 3) x2.1) else 1) else ((List.length a19 : Nat) : Int)) a19 a21), x2.2.1, x2.2.2)
  ) (mk_most_l1 a1 a5 a7 a9 a11 a13 a15 a17 a19 a21) :=
  goC_loopAt (T := tn) (o := ⟨[.ag .Trust], [[.lf (.l .i64), .lf (.i .i64)]]⟩) sigOk 100000 (b := codeAt Tryd.f43 [1, 1, 0, 1, 0, 0]) (by kernel_rfl) (by kernel_rfl)
theorem mk_group_l1_le (a1 : Int) (a3 : Int) (a6 : List (Trust)) (a8 : Int) (a10 : List (Int)) (a12 : Int) (a14 : Int) (a16 : List (Int)) (a18 : List (Trust)) : Le (
    bif (ltB a8 3) then
      mk_group_l2 a1 a3 a6 a8 a8 a10 a12 a14 a16 a18 1 ([] : List (Int)) ([] : List (Trust))
    else
      Option.bind (mk_Tape_N 4 a10 a12) fun x0 =>
      bif (eqB x0.1 0) then
        chk (((List.length a6 : Nat) : Int) ≠ 0) <|
        nth a6 (remI .i64 a3 ((List.length a6 : Nat) : Int)) fun _ =>
        nthN a6 (Int.toNat (remI .i64 a3 ((List.length a6 : Nat) : Int))) fun y1 =>
        some ((Trust.mk y1.Threshold y1.Nodes y1.Inner), x0.2.1, x0.2.2)
      else
        Option.bind (mk_Tape_Range (if (subI .i64 ((List.length a6 : Nat) : Int) 1) > 1 then (subI .i64 ((List.length a6 : Nat) : Int) 1) else 1) ((List.length a6 : Nat) : Int) x0.2.1 x0.2.2) fun x2 =>
        some ((Trust.mk x2.1 ([] : List (Int)) a6), x2.2.1, x2.2.2)
  ) (mk_group_l1 a1 a3 a6 a8 a10 a12 a14 a16 a18) :=
  goC_loopAt (T := tn) (o := ⟨[.ag .Trust], [[.lf (.l .i64), .lf (.i .i64)]]⟩) sigOk 100000 (b := codeAt Tryd.f44 [1, 1, 0, 1, 0, 0]) (by kernel_rfl) (by kernel_rfl)
theorem ref02_Same_l1_le (a2 : Int) (a4 : Int) (a6 : Int) (a8 : List (Int)) (a10 : List (Trust)) (a12 : Int) (a14 : List (Int)) (a16 : List (Trust)) : Le (
    bif (ltB a4 a2) then
      nth a10 a4 fun y0 =>
      nth a16 a4 fun y1 =>
      Option.bind (ref02_Same y0 y1) fun x2 =>
      bif (!x2) then
        some false
      else
        ref02_Same_l1 a2 (addI .i64 a4 1) a6 a8 a10 a12 a14 a16
    else
      some true
  ) (ref02_Same_l1 a2 a4 a6 a8 a10 a12 a14 a16) :=
  goC_loopAt (T := tn) (o := ⟨[.lf .b], []⟩) sigOk 100000 (b := codeAt Tryd.f21 [1, 1, 0, 1, 0, 0]) (by kernel_rfl) (by kernel_rfl)
theorem ref01_Same_l1_le (a0 : List (Int)) (a2 : List (Int)) (a4 : Int) (a6 : Int) : Le (
    bif (ltB a6 a4) then
      nth a0 a6 fun y0 =>
      nth a2 a6 fun y1 =>
      bif (neB y0 y1) then
        some false
      else
        ref01_Same_l1 a0 a2 a4 (addI .i64 a6 1)
    else
      some true
  ) (ref01_Same_l1 a0 a2 a4 a6) :=
  goC_loopAt (T := tn) (o := ⟨[.lf .b], []⟩) sigOk 100000 (b := codeAt Tryd.f46 [1, 1, 0, 1, 0, 0]) (by kernel_rfl) (by kernel_rfl)
theorem mk_trust_l2_le (a1 : Int) (a3 : Int) (a7 : Int) (a9 : List (Int)) (a11 : Int) (a13 : Int) (a15 : List (Int)) (a17 : List (Trust)) (a19 : Int) (a21 : List (Int)) (a23 : List (Trust)) : Le (
    bif (ltB 0 a7) then
      Option.bind (mk_trust a1 (subI .i64 a3 1) a9 a11) fun x0 =>
      capOk (List.length a23 + List.length ([(Trust.mk x0.1.Threshold x0.1.Nodes x0.1.Inner)] : List (Trust))) <|
      mk_trust_l2 a1 a3 (subI .i64 a7 1) x0.2.1 x0.2.2 a13 a15 a17 a19 a21 (a23 ++ ([(Trust.mk x0.1.Threshold x0.1.Nodes x0.1.Inner)] : List (Trust)))
    else
      bif (ltB 0 ((List.length a23 : Nat) : Int)) then
        Option.bind (mk_Tape_N 3 a9 a11) fun x1 =>
        bif (eqB x1.1 0) then
          Option.bind (mk_Tape_Range 1 (addI .i64 ((List.length ([] : List (Int)) : Nat) : Int) ((List.length a23 : Nat) : Int)) x1.2.1 x1.2.2) fun x2 =>
          some ((Trust.mk x2.1 ([] : List (Int)) a23), x2.2.1, x2.2.2)
        else
          Option.bind (mk_Tape_Range 1 (addI .i64 ((List.length a21 : Nat) : Int) ((List.length a23 : Nat) : Int)) x1.2.1 x1.2.2) fun x3 =>
          some ((Trust.mk x3.1 a21 a23), x3.2.1, x3.2.2)
      else
        Option.bind (mk_Tape_Range 1 (addI .i64 ((List.length a21 : Nat) : Int) ((List.length a23 : Nat) : Int)) a9 a11) fun x4 =>
        some ((Trust.mk x4.1 a21 a23), x4.2.1, x4.2.2)
  ) (mk_trust_l2 a1 a3 a7 a9 a11 a13 a15 a17 a19 a21 a23) :=
  goC_loopAt (T := tn) (o := ⟨[.ag .Trust], [[.lf (.l .i64), .lf (.i .i64)]]⟩) sigOk 100000 (b := codeAt Tryd.f31 [1, 1, 1, 1, 0, 1, 0, 0, 1, 0, 0]) (by kernel_rfl) (by kernel_rfl)
theorem mk_Tape_Order_l2_le (a1 : List (Int)) (a3 : Int) (a5 : List (Int)) (a7 : Int) : Le (
    bif (ltB 0 a3) then
      Option.bind (mk_Tape_N (addI .i64 a3 1) a5 a7) fun x0 =>
      nth a1 x0.1 fun _ =>
      nth a1 a3 fun _ =>
      nthN a1 (Int.toNat x0.1) fun y1 =>
      nthN a1 (Int.toNat a3) fun y2 =>
      nth a1 a3 fun _ =>
      nthN a1 (Int.toNat a3) fun y3 =>
      nth (List.set a1 (Int.toNat a3) y1) x0.1 fun _ =>
      nthN (List.set a1 (Int.toNat a3) y1) (Int.toNat x0.1) fun y4 =>
      mk_Tape_Order_l2 (List.set (List.set a1 (Int.toNat a3) y1) (Int.toNat x0.1) y2) (subI .i64 a3 1) x0.2.1 x0.2.2
    else
      some (a1, a5, a7)
  ) (mk_Tape_Order_l2 a1 a3 a5 a7) :=
  goC_loopAt (T := tn) (o := ⟨[.lf (.l .i64)], [[.lf (.l .i64), .lf (.i .i64)]]⟩) sigOk 100000 (b := codeAt Tryd.f51 [1, 1, 1, 0, 1, 0, 0]) (by kernel_rfl) (by kernel_rfl)
end Go.Proofs.YtfemjbmfpnpjfaaDoor
