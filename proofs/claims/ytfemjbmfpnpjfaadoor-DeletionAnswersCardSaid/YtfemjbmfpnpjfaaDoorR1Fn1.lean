/- What the functions come to, printed by a program and checked by the kernel. -/
import Derived.Test.YtfemjbmfpnpjfaaDoorR1Df
namespace Go.Proofs.YtfemjbmfpnpjfaaDoor
open Go Go.Ab
set_option maxRecDepth 100000
theorem ref02_Uses_le (t_0 : Trust) : Le (
    ref02_Uses_l1 0 t_0.Nodes ((List.length t_0.Nodes : Nat) : Int) 0 t_0.Threshold t_0.Nodes t_0.Inner
  ) (ref02_Uses t_0) :=
  callC_le (T := tn) (c := bodyOf Tryd.f15) (o := ⟨[.lf (.i .i64)], []⟩) sigOk 100000 (by kernel_rfl) Tryd.func15 (by kernel_rfl) (by kernel_rfl) (by kernel_rfl)
theorem ref01_Valid_le (s_0 : Int) : Le (
    bif (leB 0 s_0) then
      some (leB s_0 1023)
    else
      some false
  ) (ref01_Valid s_0) :=
  callC_le (T := tn) (c := bodyOf Tryd.f35) (o := ⟨[.lf .b], []⟩) sigOk 100000 (by kernel_rfl) Tryd.func35 (by kernel_rfl) (by kernel_rfl) (by kernel_rfl)
theorem law13_DeletionGrows_l1_le (a1 : Int) (a4 : Int) (a6 : List (Int)) (a8 : Int) (a10 : Int) (a12 : List (Int)) (a14 : List (Trust)) : Le (
    bif (ltB a4 20) then
      chk (0 ≤ a1) <|
      Option.bind (mk_Tape_N (shlI .i64 1 a1) a6 a8) fun x0 =>
      Option.bind (mk_Tape_N a1 x0.2.1 x0.2.2) fun x1 =>
      chk (0 ≤ x1.1) <|
      chk (0 ≤ a1) <|
      chk (0 ≤ x1.1) <|
      Option.bind (mk_Tape_N (shlI .i64 1 a1) x1.2.1 x1.2.2) fun x2 =>
      Option.bind (ref02_Satisfied (Trust.mk a10 a12 a14) (orI .i64 x2.1 (shlI .i64 1 x1.1))) fun x3 =>
      bif x3 then
        Option.bind (deletion_Trust (Trust.mk a10 a12 a14) x1.1 (andNotI .i64 x0.1 (shlI .i64 1 x1.1))) fun x4 =>
        Option.bind (ref02_Satisfied x4 (andNotI .i64 (orI .i64 x2.1 (shlI .i64 1 x1.1)) (andNotI .i64 x0.1 (shlI .i64 1 x1.1)))) fun x5 =>
        bif (!x5) then
          some false
        else
          law13_DeletionGrows_l1 a1 (addI .i64 a4 1) x2.2.1 x2.2.2 a10 a12 a14
      else
        law13_DeletionGrows_l1 a1 (addI .i64 a4 1) x2.2.1 x2.2.2 a10 a12 a14
    else
      Option.bind (law13_awake) fun x6 =>
      some x6
  ) (law13_DeletionGrows_l1 a1 a4 a6 a8 a10 a12 a14) :=
  goC_loopAt (T := tn) (o := ⟨[.lf .b], []⟩) sigOk 100000 (b := codeAt Tryd.f4 [1, 1, 1, 1, 0, 1, 0, 0]) (by kernel_rfl) (by kernel_rfl)
theorem law13_DeletionQuorums_l1_le (a2 : Int) (a4 : Int) (a7 : Int) (a9 : List (Int)) (a11 : Int) (a13 : List (Member)) (a15 : List (Member)) : Le (
    bif (ltB a7 12) then
      Option.bind (mk_Tape_N 256 a9 a11) fun x0 =>
      Option.bind (ref09_Greatest (Config.mk a13) (andI .i64 x0.1 a2)) fun x1 =>
      bif (neB (andNotI .i64 x1 a4) 0) then
        Option.bind (ref09_Quorum (Config.mk a15) (andNotI .i64 x1 a4)) fun x2 =>
        bif (!x2) then
          some false
        else
          bif (neB (andNotI .i64 (andI .i64 x0.1 a2) a4) 0) then
            Option.bind (ref06_Declared (Config.mk a13)) fun x3 =>
            law13_DeletionQuorums_l2 a2 a4 a7 (andNotI .i64 (andI .i64 x0.1 a2) a4) (eqB (andI .i64 (andNotI .i64 (andI .i64 x0.1 a2) a4) x3) (andNotI .i64 (andI .i64 x0.1 a2) a4)) ((List.length a13 : Nat) : Int) 0 x0.2.1 x0.2.2 a13 a15
          else
            law13_DeletionQuorums_l2 a2 a4 a7 (andNotI .i64 (andI .i64 x0.1 a2) a4) false ((List.length a13 : Nat) : Int) 0 x0.2.1 x0.2.2 a13 a15
      else
        bif (neB (andNotI .i64 (andI .i64 x0.1 a2) a4) 0) then
          Option.bind (ref06_Declared (Config.mk a13)) fun x4 =>
          law13_DeletionQuorums_l2 a2 a4 a7 (andNotI .i64 (andI .i64 x0.1 a2) a4) (eqB (andI .i64 (andNotI .i64 (andI .i64 x0.1 a2) a4) x4) (andNotI .i64 (andI .i64 x0.1 a2) a4)) ((List.length a13 : Nat) : Int) 0 x0.2.1 x0.2.2 a13 a15
        else
          law13_DeletionQuorums_l2 a2 a4 a7 (andNotI .i64 (andI .i64 x0.1 a2) a4) false ((List.length a13 : Nat) : Int) 0 x0.2.1 x0.2.2 a13 a15
    else
      Option.bind (law13_awake) fun x5 =>
      some x5
  ) (law13_DeletionQuorums_l1 a2 a4 a7 a9 a11 a13 a15) :=
  goC_loopAt (T := tn) (o := ⟨[.lf .b], []⟩) sigOk 100000 (b := codeAt Tryd.f7 [1, 1, 1, 1, 1, 1, 1, 0, 1, 0, 0]) (by kernel_rfl) (by kernel_rfl)
theorem ref09_Greatest_le (c_0 : Config) (s_1 : Int) : Le (
    Option.bind (ref01_Valid s_1) fun x0 =>
    bif (!x0) then
      some 0
    else
      Option.bind (ref06_Declared c_0) fun x1 =>
      Option.bind (ref09_Elimination c_0 s_1) fun x2 =>
      ref09_Greatest_l1 (andI .i64 s_1 x1) x2 ((List.length x2 : Nat) : Int) 0 c_0.Members
  ) (ref09_Greatest c_0 s_1) :=
  callC_le (T := tn) (c := bodyOf Tryd.f29) (o := ⟨[.lf (.i .i64)], []⟩) sigOk 100000 (by kernel_rfl) Tryd.func29 (by kernel_rfl) (by kernel_rfl) (by kernel_rfl)
theorem ref09_Quorum_le (c_0 : Config) (s_1 : Int) : Le (
    Option.bind (ref01_Valid s_1) fun x0 =>
    bif (!x0) then
      some false
    else
      bif (eqB s_1 0) then
        some false
      else
        Option.bind (ref06_Declared c_0) fun x1 =>
        bif (neB (andI .i64 s_1 x1) s_1) then
          some false
        else
          Option.bind (ref01_Nodes s_1) fun x2 =>
          ref09_Quorum_l1 s_1 x2 ((List.length x2 : Nat) : Int) 0 c_0.Members
  ) (ref09_Quorum c_0 s_1) :=
  callC_le (T := tn) (c := bodyOf Tryd.f30) (o := ⟨[.lf .b], []⟩) sigOk 100000 (by kernel_rfl) Tryd.func30 (by kernel_rfl) (by kernel_rfl) (by kernel_rfl)
theorem ref09_Elimination_le (c_0 : Config) (s_1 : Int) : Le (
    Option.bind (ref01_Valid s_1) fun x0 =>
    bif (!x0) then
      some ([] : List (Int))
    else
      Option.bind (ref06_Declared c_0) fun x1 =>
      ref09_Elimination_l1 (andI .i64 s_1 x1) ([] : List (Int)) true c_0.Members
  ) (ref09_Elimination c_0 s_1) :=
  callC_le (T := tn) (c := bodyOf Tryd.f49) (o := ⟨[.lf (.l .i64)], []⟩) sigOk 100000 (by kernel_rfl) Tryd.func49 (by kernel_rfl) (by kernel_rfl) (by kernel_rfl)
theorem ref01_Nodes_le (s_0 : Int) : Le (
    ref01_Nodes_l1 s_0 ([] : List (Int)) 0
  ) (ref01_Nodes s_0) :=
  callC_le (T := tn) (c := bodyOf Tryd.f50) (o := ⟨[.lf (.l .i64)], []⟩) sigOk 100000 (by kernel_rfl) Tryd.func50 (by kernel_rfl) (by kernel_rfl) (by kernel_rfl)
theorem law13_DeletionAnswers_l1_le (a0 : Int) (a7 : List (Int)) (a9 : Int) (a11 : Int) (a13 : Int) (a15 : List (Int)) (a17 : List (Trust)) (a19 : List (Member)) (a21 : List (Int)) (a23 : Int) (a25 : List (Member)) (a27 : Int) (a29 : List (Int)) (a31 : List (Trust)) : Le (
    bif (ltB a11 a9) then
      nth a7 a11 fun y0 =>
      Option.bind (mk_BentTrust (Trust.mk a27 a29 a31) a21 a23) fun x1 =>
      law13_DeletionAnswers_l2 a0 y0 a7 a9 a11 ([(Trust.mk a27 a29 a31), (Trust.mk x1.1.Threshold x1.1.Nodes x1.1.Inner), (Trust.mk a13 a15 a17)] : List (Trust)) ((List.length ([(Trust.mk a27 a29 a31), (Trust.mk x1.1.Threshold x1.1.Nodes x1.1.Inner), (Trust.mk a13 a15 a17)] : List (Trust)) : Nat) : Int) 0 a13 a15 a17 a19 x1.2.1 x1.2.2 a25 a27 a29 a31
    else
      Option.bind (law13_awake) fun x2 =>
      some x2
  ) (law13_DeletionAnswers_l1 a0 a7 a9 a11 a13 a15 a17 a19 a21 a23 a25 a27 a29 a31) :=
  goC_loopAt (T := tn) (o := ⟨[.lf .b], []⟩) sigOk 100000 (b := codeAt Tryd.f5 [1, 1, 1, 1, 1, 0, 1, 0, 0]) (by kernel_rfl) (by kernel_rfl)
theorem mk_BentTrust_le (x_1 : Trust) (h0 : List (Int)) (h1 : Int) : Le (
    bif (ltB 0 ((List.length x_1.Inner : Nat) : Int)) then
      Option.bind (mk_Tape_N 2 h0 h1) fun x0 =>
      bif (eqB x0.1 1) then
        capOk (List.length ([] : List (Trust)) + List.length x_1.Inner) <|
        Option.bind (mk_Tape_N ((List.length (([] : List (Trust)) ++ x_1.Inner) : Nat) : Int) x0.2.1 x0.2.2) fun x1 =>
        nth (([] : List (Trust)) ++ x_1.Inner) x1.1 fun _ =>
        nthN (([] : List (Trust)) ++ x_1.Inner) (Int.toNat x1.1) fun y2 =>
        Option.bind (mk_BentTrust y2 x1.2.1 x1.2.2) fun x3 =>
        nth (([] : List (Trust)) ++ x_1.Inner) x1.1 fun _ =>
        nthN (([] : List (Trust)) ++ x_1.Inner) (Int.toNat x1.1) fun y4 =>
        some ((Trust.mk x_1.Threshold x_1.Nodes (List.set (([] : List (Trust)) ++ x_1.Inner) (Int.toNat x1.1) (Trust.mk x3.1.Threshold x3.1.Nodes x3.1.Inner))), x3.2.1, x3.2.2)
      else
        Option.bind (mk_Tape_N 6 x0.2.1 x0.2.2) fun x5 =>
        bif (eqB x5.1 0) then
          Option.bind (mk_Tape_Pick ([0, (-1), (addI .i64 ((List.length x_1.Nodes : Nat) : Int) ((List.length x_1.Inner : Nat) : Int)), (addI .i64 (addI .i64 ((List.length x_1.Nodes : Nat) : Int) ((List.length x_1.Inner : Nat) : Int)) 1)] : List (Int)) x5.2.1 x5.2.2) fun x6 =>
          some ((Trust.mk x6.1 x_1.Nodes x_1.Inner), x6.2.1, x6.2.2)
        else
          bif (eqB x5.1 1) then
            capOk (List.length ([] : List (Int)) + List.length x_1.Nodes) <|
            Option.bind (mk_Tape_Pick ([(-1), 0, 9, 10] : List (Int)) x5.2.1 x5.2.2) fun x7 =>
            capOk (List.length (([] : List (Int)) ++ x_1.Nodes) + List.length ([x7.1] : List (Int))) <|
            some ((Trust.mk x_1.Threshold ((([] : List (Int)) ++ x_1.Nodes) ++ ([x7.1] : List (Int))) x_1.Inner), x7.2.1, x7.2.2)
          else
            bif (eqB x5.1 2) then
              some ((Trust.mk x_1.Threshold ([] : List (Int)) x_1.Inner), x5.2.1, x5.2.2)
            else
              bif (eqB x5.1 3) then
                capOk (List.length ([] : List (Trust)) + List.length x_1.Inner) <|
                capOk (List.length (([] : List (Trust)) ++ x_1.Inner) + List.length ([(Trust.mk 0 ([] : List (Int)) ([] : List (Trust)))] : List (Trust))) <|
                some ((Trust.mk x_1.Threshold x_1.Nodes ((([] : List (Trust)) ++ x_1.Inner) ++ ([(Trust.mk 0 ([] : List (Int)) ([] : List (Trust)))] : List (Trust)))), x5.2.1, x5.2.2)
              else
                bif (eqB x5.1 4) then
                  Option.bind (mk_Tape_Range 1 4 x5.2.1 x5.2.2) fun x8 =>
                  mk_BentTrust_l1 x8.1 x8.2.1 x8.2.2 x_1.Threshold x_1.Nodes x_1.Inner 0 ([] : List (Int)) ([] : List (Trust)) x_1.Threshold x_1.Nodes x_1.Inner
                else
                  Option.bind (mk_Tape_Pick ([20, 60, 101] : List (Int)) x5.2.1 x5.2.2) fun x9 =>
                  mk_BentTrust_l2 ([] : List (Trust)) x9.1 x9.2.1 x9.2.2 x_1.Threshold x_1.Nodes x_1.Inner 0 ([] : List (Int)) ([] : List (Trust))
    else
      Option.bind (mk_Tape_N 6 h0 h1) fun x10 =>
      bif (eqB x10.1 0) then
        Option.bind (mk_Tape_Pick ([0, (-1), (addI .i64 ((List.length x_1.Nodes : Nat) : Int) ((List.length x_1.Inner : Nat) : Int)), (addI .i64 (addI .i64 ((List.length x_1.Nodes : Nat) : Int) ((List.length x_1.Inner : Nat) : Int)) 1)] : List (Int)) x10.2.1 x10.2.2) fun x11 =>
        some ((Trust.mk x11.1 x_1.Nodes x_1.Inner), x11.2.1, x11.2.2)
      else
        bif (eqB x10.1 1) then
          capOk (List.length ([] : List (Int)) + List.length x_1.Nodes) <|
          Option.bind (mk_Tape_Pick ([(-1), 0, 9, 10] : List (Int)) x10.2.1 x10.2.2) fun x12 =>
          capOk (List.length (([] : List (Int)) ++ x_1.Nodes) + List.length ([x12.1] : List (Int))) <|
          some ((Trust.mk x_1.Threshold ((([] : List (Int)) ++ x_1.Nodes) ++ ([x12.1] : List (Int))) x_1.Inner), x12.2.1, x12.2.2)
        else
          bif (eqB x10.1 2) then
            some ((Trust.mk x_1.Threshold ([] : List (Int)) x_1.Inner), x10.2.1, x10.2.2)
          else
            bif (eqB x10.1 3) then
              capOk (List.length ([] : List (Trust)) + List.length x_1.Inner) <|
              capOk (List.length (([] : List (Trust)) ++ x_1.Inner) + List.length ([(Trust.mk 0 ([] : List (Int)) ([] : List (Trust)))] : List (Trust))) <|
              some ((Trust.mk x_1.Threshold x_1.Nodes ((([] : List (Trust)) ++ x_1.Inner) ++ ([(Trust.mk 0 ([] : List (Int)) ([] : List (Trust)))] : List (Trust)))), x10.2.1, x10.2.2)
            else
              bif (eqB x10.1 4) then
                Option.bind (mk_Tape_Range 1 4 x10.2.1 x10.2.2) fun x13 =>
                mk_BentTrust_l1 x13.1 x13.2.1 x13.2.2 x_1.Threshold x_1.Nodes x_1.Inner 0 ([] : List (Int)) ([] : List (Trust)) x_1.Threshold x_1.Nodes x_1.Inner
              else
                Option.bind (mk_Tape_Pick ([20, 60, 101] : List (Int)) x10.2.1 x10.2.2) fun x14 =>
                mk_BentTrust_l2 ([] : List (Trust)) x14.1 x14.2.1 x14.2.2 x_1.Threshold x_1.Nodes x_1.Inner 0 ([] : List (Int)) ([] : List (Trust))
  ) (mk_BentTrust x_1 h0 h1) :=
  callC_le (T := tn) (c := bodyOf Tryd.f20) (o := ⟨[.ag .Trust], [[.lf (.l .i64), .lf (.i .i64)]]⟩) sigOk 100000 (by kernel_rfl) Tryd.func20 (by kernel_rfl) (by kernel_rfl) (by kernel_rfl)
theorem mk_Tape_Pick_le (l_1 : List (Int)) (h0 : List (Int)) (h1 : Int) : Le (
    Option.bind (mk_Tape_N ((List.length l_1 : Nat) : Int) h0 h1) fun x0 =>
    nth l_1 x0.1 fun y1 =>
    some (y1, x0.2.1, x0.2.2)
  ) (mk_Tape_Pick l_1 h0 h1) :=
  callC_le (T := tn) (c := bodyOf Tryd.f45) (o := ⟨[.lf (.i .i64)], [[.lf (.l .i64), .lf (.i .i64)]]⟩) sigOk 100000 (by kernel_rfl) Tryd.func45 (by kernel_rfl) (by kernel_rfl) (by kernel_rfl)
theorem mk_Config_l1_le (a2 : Int) (a4 : Int) (a7 : Int) (a9 : List (Int)) (a11 : Int) (a13 : List (Member)) (a15 : List (Member)) : Le (
    bif (ltB a7 a2) then
      bif (eqB a4 0) then
        Option.bind (mk_Trust a2 2 a9 a11) fun x0 =>
        Option.bind (mk_Tape_N 12 x0.2.1 x0.2.2) fun x1 =>
        bif (eqB x1.1 11) then
          capOk (List.length a15 + List.length ([(Member.mk false (Trust.mk 0 ([] : List (Int)) ([] : List (Trust))))] : List (Member))) <|
          mk_Config_l1 a2 a4 (addI .i64 a7 1) x1.2.1 x1.2.2 a13 (a15 ++ ([(Member.mk false (Trust.mk 0 ([] : List (Int)) ([] : List (Trust))))] : List (Member)))
        else
          capOk (List.length a15 + List.length ([(Member.mk true (Trust.mk x0.1.Threshold x0.1.Nodes x0.1.Inner))] : List (Member))) <|
          mk_Config_l1 a2 a4 (addI .i64 a7 1) x1.2.1 x1.2.2 a13 (a15 ++ ([(Member.mk true (Trust.mk x0.1.Threshold x0.1.Nodes x0.1.Inner))] : List (Member)))
      else
        bif (eqB a4 1) then
          Option.bind (mk_most a2 a9 a11) fun x2 =>
          Option.bind (mk_Tape_N 12 x2.2.1 x2.2.2) fun x3 =>
          bif (eqB x3.1 11) then
            capOk (List.length a15 + List.length ([(Member.mk false (Trust.mk 0 ([] : List (Int)) ([] : List (Trust))))] : List (Member))) <|
            mk_Config_l1 a2 a4 (addI .i64 a7 1) x3.2.1 x3.2.2 a13 (a15 ++ ([(Member.mk false (Trust.mk 0 ([] : List (Int)) ([] : List (Trust))))] : List (Member)))
          else
            capOk (List.length a15 + List.length ([(Member.mk true (Trust.mk x2.1.Threshold x2.1.Nodes x2.1.Inner))] : List (Member))) <|
            mk_Config_l1 a2 a4 (addI .i64 a7 1) x3.2.1 x3.2.2 a13 (a15 ++ ([(Member.mk true (Trust.mk x2.1.Threshold x2.1.Nodes x2.1.Inner))] : List (Member)))
        else
          Option.bind (mk_group a2 a7 a9 a11) fun x4 =>
          Option.bind (mk_Tape_N 12 x4.2.1 x4.2.2) fun x5 =>
          bif (eqB x5.1 11) then
            capOk (List.length a15 + List.length ([(Member.mk false (Trust.mk 0 ([] : List (Int)) ([] : List (Trust))))] : List (Member))) <|
            mk_Config_l1 a2 a4 (addI .i64 a7 1) x5.2.1 x5.2.2 a13 (a15 ++ ([(Member.mk false (Trust.mk 0 ([] : List (Int)) ([] : List (Trust))))] : List (Member)))
          else
            capOk (List.length a15 + List.length ([(Member.mk true (Trust.mk x4.1.Threshold x4.1.Nodes x4.1.Inner))] : List (Member))) <|
            mk_Config_l1 a2 a4 (addI .i64 a7 1) x5.2.1 x5.2.2 a13 (a15 ++ ([(Member.mk true (Trust.mk x4.1.Threshold x4.1.Nodes x4.1.Inner))] : List (Member)))
    else
      some ((Config.mk a15), a9, a11)
  ) (mk_Config_l1 a2 a4 a7 a9 a11 a13 a15) :=
  goC_loopAt (T := tn) (o := ⟨[.ag .Config], [[.lf (.l .i64), .lf (.i .i64)]]⟩) sigOk 100000 (b := codeAt Tryd.f19 [1, 1, 1, 1, 0, 1, 0, 0]) (by kernel_rfl) (by kernel_rfl)
theorem mk_most_le (m_1 : Int) (h0 : List (Int)) (h1 : Int) : Le (
    mk_most_l1 m_1 0 h0 h1 0 ([] : List (Int)) ([] : List (Trust)) 0 ([] : List (Int)) ([] : List (Trust))
  ) (mk_most m_1 h0 h1) :=
  callC_le (T := tn) (c := bodyOf Tryd.f43) (o := ⟨[.ag .Trust], [[.lf (.l .i64), .lf (.i .i64)]]⟩) sigOk 100000 (by kernel_rfl) Tryd.func43 (by kernel_rfl) (by kernel_rfl) (by kernel_rfl)
theorem mk_group_le (m_1 : Int) (k_2 : Int) (h0 : List (Int)) (h1 : Int) : Le (
    mk_group_l1 m_1 k_2 ([] : List (Trust)) 0 h0 h1 0 ([] : List (Int)) ([] : List (Trust))
  ) (mk_group m_1 k_2 h0 h1) :=
  callC_le (T := tn) (c := bodyOf Tryd.f44) (o := ⟨[.ag .Trust], [[.lf (.l .i64), .lf (.i .i64)]]⟩) sigOk 100000 (by kernel_rfl) Tryd.func44 (by kernel_rfl) (by kernel_rfl) (by kernel_rfl)
theorem deletion_Delete_l1_le (a0 : Int) (a4 : List (Member)) (a6 : Int) (a8 : Int) (a10 : List (Member)) (a12 : List (Member)) (a14 : List (Member)) : Le (
    bif (ltB a8 a6) then
      nth a4 a8 fun y0 =>
      Option.bind (nodeset_Has a0 a8) fun x1 =>
      bif x1 then
        capOk (List.length a14 + List.length ([(Member.mk false (Trust.mk 0 ([] : List (Int)) ([] : List (Trust))))] : List (Member))) <|
        deletion_Delete_l1 a0 a4 a6 (addI .i64 a8 1) a10 a12 (a14 ++ ([(Member.mk false (Trust.mk 0 ([] : List (Int)) ([] : List (Trust))))] : List (Member)))
      else
        bif y0.Declared then
          Option.bind (deletion_Trust y0.Trust a8 a0) fun x2 =>
          capOk (List.length a14 + List.length ([(Member.mk y0.Declared (Trust.mk x2.Threshold x2.Nodes x2.Inner))] : List (Member))) <|
          deletion_Delete_l1 a0 a4 a6 (addI .i64 a8 1) a10 a12 (a14 ++ ([(Member.mk y0.Declared (Trust.mk x2.Threshold x2.Nodes x2.Inner))] : List (Member)))
        else
          Option.bind (deletion_copied y0.Trust) fun x3 =>
          capOk (List.length a14 + List.length ([(Member.mk y0.Declared (Trust.mk x3.Threshold x3.Nodes x3.Inner))] : List (Member))) <|
          deletion_Delete_l1 a0 a4 a6 (addI .i64 a8 1) a10 a12 (a14 ++ ([(Member.mk y0.Declared (Trust.mk x3.Threshold x3.Nodes x3.Inner))] : List (Member)))
    else
      some (Config.mk a14)
  ) (deletion_Delete_l1 a0 a4 a6 a8 a10 a12 a14) :=
  goC_loopAt (T := tn) (o := ⟨[.ag .Config], []⟩) sigOk 100000 (b := codeAt Tryd.f25 [1, 1, 0, 1, 0, 0]) (by kernel_rfl) (by kernel_rfl)
theorem nodeset_Has_le (s_0 : Int) (node_1 : Int) : Le (
    Option.bind (nodeset_Valid s_0) fun x0 =>
    bif x0 then
      bif (leB 0 node_1) then
        bif (ltB node_1 10) then
          chk (0 ≤ node_1) <|
          some (neB (andI .i64 s_0 (shlI .i64 1 node_1)) 0)
        else
          some false
      else
        some false
    else
      some false
  ) (nodeset_Has s_0 node_1) :=
  callC_le (T := tn) (c := bodyOf Tryd.f48) (o := ⟨[.lf .b], []⟩) sigOk 100000 (by kernel_rfl) Tryd.func48 (by kernel_rfl) (by kernel_rfl) (by kernel_rfl)
theorem ref06_Same_l1_le (a2 : Int) (a4 : Int) (a6 : List (Member)) (a8 : List (Member)) : Le (
    bif (ltB a4 a2) then
      nth a6 a4 fun y0 =>
      nth a8 a4 fun y1 =>
      bif (!(y0.Declared == y1.Declared)) then
        some false
      else
        nth a6 a4 fun y2 =>
        nth a8 a4 fun y3 =>
        Option.bind (ref02_Same y2.Trust y3.Trust) fun x4 =>
        bif (!x4) then
          some false
        else
          ref06_Same_l1 a2 (addI .i64 a4 1) a6 a8
    else
      some true
  ) (ref06_Same_l1 a2 a4 a6 a8) :=
  goC_loopAt (T := tn) (o := ⟨[.lf .b], []⟩) sigOk 100000 (b := codeAt Tryd.f24 [1, 1, 0, 1, 0, 0]) (by kernel_rfl) (by kernel_rfl)
theorem ref02_Same_le (a_0 : Trust) (b_1 : Trust) : Le (
    bif (neB a_0.Threshold b_1.Threshold) then
      some false
    else
      Option.bind (ref01_Same a_0.Nodes b_1.Nodes) fun x0 =>
      bif (!x0) then
        some false
      else
        bif (neB ((List.length a_0.Inner : Nat) : Int) ((List.length b_1.Inner : Nat) : Int)) then
          some false
        else
          ref02_Same_l1 ((List.length a_0.Inner : Nat) : Int) 0 a_0.Threshold a_0.Nodes a_0.Inner b_1.Threshold b_1.Nodes b_1.Inner
  ) (ref02_Same a_0 b_1) :=
  callC_le (T := tn) (c := bodyOf Tryd.f21) (o := ⟨[.lf .b], []⟩) sigOk 100000 (by kernel_rfl) Tryd.func21 (by kernel_rfl) (by kernel_rfl) (by kernel_rfl)
theorem ref01_Same_le (a_0 : List (Int)) (b_1 : List (Int)) : Le (
    bif (neB ((List.length a_0 : Nat) : Int) ((List.length b_1 : Nat) : Int)) then
      some false
    else
      ref01_Same_l1 a_0 b_1 ((List.length a_0 : Nat) : Int) 0
  ) (ref01_Same a_0 b_1) :=
  callC_le (T := tn) (c := bodyOf Tryd.f46) (o := ⟨[.lf .b], []⟩) sigOk 100000 (by kernel_rfl) Tryd.func46 (by kernel_rfl) (by kernel_rfl) (by kernel_rfl)
theorem ref06_Valid_l1_le (a1 : List (Member)) (a3 : Int) (a5 : Int) (a7 : List (Member)) : Le (
    bif (ltB a5 a3) then
      nth a1 a5 fun y0 =>
      bif (!y0.Declared) then
        Option.bind (ref02_Same y0.Trust (Trust.mk 0 ([] : List (Int)) ([] : List (Trust)))) fun x1 =>
        bif (!x1) then
          some 1
        else
          ref06_Valid_l1 a1 a3 (addI .i64 a5 1) a7
      else
        Option.bind (ref02_Valid y0.Trust) fun x2 =>
        bif (neB x2 0) then
          some x2
        else
          chk (0 ≤ ((List.length a7 : Nat) : Int)) <|
          Option.bind (ref02_Uses y0.Trust) fun x3 =>
          bif (leB (shlI .i64 1 ((List.length a7 : Nat) : Int)) x3) then
            some 5
          else
            ref06_Valid_l1 a1 a3 (addI .i64 a5 1) a7
    else
      some 0
  ) (ref06_Valid_l1 a1 a3 a5 a7) :=
  goC_loopAt (T := tn) (o := ⟨[.lf (.i .i64)], []⟩) sigOk 100000 (b := codeAt Tryd.f27 [1, 1, 0, 1, 0, 0]) (by kernel_rfl) (by kernel_rfl)
theorem ref06_Declared_l1_le (a0 : Int) (a2 : List (Member)) (a4 : Int) (a6 : Int) (a8 : List (Member)) : Le (
    bif (ltB a6 a4) then
      nth a2 a6 fun y0 =>
      bif (ltB a6 10) then
        bif y0.Declared then
          chk (0 ≤ a6) <|
          ref06_Declared_l1 (orI .i64 a0 (shlI .i64 1 a6)) a2 a4 (addI .i64 a6 1) a8
        else
          ref06_Declared_l1 a0 a2 a4 (addI .i64 a6 1) a8
      else
        ref06_Declared_l1 a0 a2 a4 (addI .i64 a6 1) a8
    else
      some a0
  ) (ref06_Declared_l1 a0 a2 a4 a6 a8) :=
  goC_loopAt (T := tn) (o := ⟨[.lf (.i .i64)], []⟩) sigOk 100000 (b := codeAt Tryd.f28 [1, 1, 0, 1, 0, 0]) (by kernel_rfl) (by kernel_rfl)
theorem mk_SmallConfig_l1_le (a1 : Int) (a3 : Int) (a5 : List (Member)) : Le (
    bif (ltB a3 ((List.length a5 : Nat) : Int)) then
      bif (leB a1 400) then
        nth a5 a3 fun y0 =>
        Option.bind (mk_entries y0.Trust a1) fun x1 =>
        mk_SmallConfig_l1 x1 (addI .i64 a3 1) a5
      else
        some (leB a1 400)
    else
      some (leB a1 400)
  ) (mk_SmallConfig_l1 a1 a3 a5) :=
  goC_loopAt (T := tn) (o := ⟨[.lf .b], []⟩) sigOk 100000 (b := codeAt Tryd.f18 [1, 1, 1, 0, 1, 0, 0]) (by kernel_rfl) (by kernel_rfl)
theorem mk_trust_l1_le (a1 : Int) (a3 : Int) (a7 : List (Int)) (a9 : Int) (a11 : Int) (a13 : List (Int)) (a15 : Int) (a17 : Int) (a19 : List (Int)) (a21 : List (Trust)) (a23 : Int) (a25 : List (Int)) (a27 : List (Trust)) : Le (
    bif (ltB a11 a9) then
      nth a7 a11 fun y0 =>
      capOk (List.length a25 + List.length ([y0] : List (Int))) <|
      mk_trust_l1 a1 a3 a7 a9 (addI .i64 a11 1) a13 a15 a17 a19 a21 a23 (a25 ++ ([y0] : List (Int))) a27
    else
      bif (ltB 1 a3) then
        Option.bind (mk_Tape_Pick ([0, 0, 1, 1, 2, 3] : List (Int)) a13 a15) fun x1 =>
        mk_trust_l2 a1 a3 x1.1 x1.2.1 x1.2.2 a17 a19 a21 a23 a25 a27
      else
        Option.bind (mk_Tape_Range 1 (addI .i64 ((List.length a25 : Nat) : Int) ((List.length a27 : Nat) : Int)) a13 a15) fun x2 =>
        some ((Trust.mk x2.1 a25 a27), x2.2.1, x2.2.2)
  ) (mk_trust_l1 a1 a3 a7 a9 a11 a13 a15 a17 a19 a21 a23 a25 a27) :=
  goC_loopAt (T := tn) (o := ⟨[.ag .Trust], [[.lf (.l .i64), .lf (.i .i64)]]⟩) sigOk 100000 (b := codeAt Tryd.f31 [1, 1, 1, 0, 1, 0, 0]) (by kernel_rfl) (by kernel_rfl)
theorem mk_entries_l1_le (a0 : Int) (a3 : Int) (a5 : Int) (a7 : List (Int)) (a9 : List (Trust)) : Le (
    bif (ltB a3 ((List.length a9 : Nat) : Int)) then
      bif (leB a0 400) then
        nth a9 a3 fun y0 =>
        Option.bind (mk_entries y0 a0) fun x1 =>
        mk_entries_l1 x1 (addI .i64 a3 1) a5 a7 a9
      else
        some a0
    else
      some a0
  ) (mk_entries_l1 a0 a3 a5 a7 a9) :=
  goC_loopAt (T := tn) (o := ⟨[.lf (.i .i64)], []⟩) sigOk 100000 (b := codeAt Tryd.f42 [1, 1, 0, 1, 0, 0]) (by kernel_rfl) (by kernel_rfl)
theorem mk_Tape_Order_l1_le (a1 : Int) (a3 : List (Int)) (a5 : Int) (a7 : List (Int)) (a9 : Int) : Le (
    bif (ltB a5 a1) then
      capOk (List.length a3 + List.length ([a5] : List (Int))) <|
      mk_Tape_Order_l1 a1 (a3 ++ ([a5] : List (Int))) (addI .i64 a5 1) a7 a9
    else
      mk_Tape_Order_l2 a3 (subI .i64 a1 1) a7 a9
  ) (mk_Tape_Order_l1 a1 a3 a5 a7 a9) :=
  goC_loopAt (T := tn) (o := ⟨[.lf (.l .i64)], [[.lf (.l .i64), .lf (.i .i64)]]⟩) sigOk 100000 (b := codeAt Tryd.f51 [1, 1, 0, 1, 0, 0]) (by kernel_rfl) (by kernel_rfl)
theorem ref02_Depth_l1_le (a0 : Int) (a2 : List (Trust)) (a4 : Int) (a6 : Int) (a8 : Int) (a10 : List (Int)) (a12 : List (Trust)) : Le (
    bif (ltB a6 a4) then
      nth a2 a6 fun y0 =>
      Option.bind (ref02_Depth y0) fun x1 =>
      ref02_Depth_l1 (if x1 > a0 then x1 else a0) a2 a4 (addI .i64 a6 1) a8 a10 a12
    else
      some (addI .i64 a0 1)
  ) (ref02_Depth_l1 a0 a2 a4 a6 a8 a10 a12) :=
  goC_loopAt (T := tn) (o := ⟨[.lf (.i .i64)], []⟩) sigOk 100000 (b := codeAt Tryd.f37 [1, 1, 0, 1, 0, 0]) (by kernel_rfl) (by kernel_rfl)
theorem ref02_Size_l1_le (a0 : Int) (a2 : List (Trust)) (a4 : Int) (a6 : Int) (a8 : Int) (a10 : List (Int)) (a12 : List (Trust)) : Le (
    bif (ltB a6 a4) then
      nth a2 a6 fun y0 =>
      Option.bind (ref02_Size y0) fun x1 =>
      ref02_Size_l1 (addI .i64 a0 x1) a2 a4 (addI .i64 a6 1) a8 a10 a12
    else
      some a0
  ) (ref02_Size_l1 a0 a2 a4 a6 a8 a10 a12) :=
  goC_loopAt (T := tn) (o := ⟨[.lf (.i .i64)], []⟩) sigOk 100000 (b := codeAt Tryd.f38 [1, 1, 0, 1, 0, 0]) (by kernel_rfl) (by kernel_rfl)
theorem ref02_check_l1_le (a1 : List (Int)) (a3 : Int) (a5 : Int) (a7 : Int) (a9 : List (Int)) (a11 : List (Trust)) : Le (
    bif (ltB a5 a3) then
      nth a1 a5 fun y0 =>
      bif (ltB y0 0) then
        some 5
      else
        bif (leB 10 y0) then
          some 5
        else
          ref02_check_l1 a1 a3 (addI .i64 a5 1) a7 a9 a11
    else
      Option.bind (ref01_Of a9) fun x1 =>
      bif (neB x1.2 0) then
        some x1.2
      else
        ref02_check_l2 a11 ((List.length a11 : Nat) : Int) 0 a7 a9 a11
  ) (ref02_check_l1 a1 a3 a5 a7 a9 a11) :=
  goC_loopAt (T := tn) (o := ⟨[.lf (.i .i64)], []⟩) sigOk 100000 (b := codeAt Tryd.f39 [1, 1, 0, 1, 0, 0]) (by kernel_rfl) (by kernel_rfl)
theorem ref01_Of_le (nodes_0 : List (Int)) : Le (
    ref01_Of_l1 0 nodes_0 ((List.length nodes_0 : Nat) : Int) 0
  ) (ref01_Of nodes_0) :=
  callC_le (T := tn) (c := bodyOf Tryd.f54) (o := ⟨[.lf (.i .i64), .lf (.i .i64)], []⟩) sigOk 100000 (by kernel_rfl) Tryd.func54 (by kernel_rfl) (by kernel_rfl) (by kernel_rfl)
theorem ref03_reader_number_l1_le (a1 : Int) (a3 : List UInt8) (a5 : Int) : Le (
    bif (ltB a1 ((List.length a3 : Nat) : Int)) then
      nth a3 a1 fun y0 =>
      bif (leB 48 ((y0.toNat : Nat) : Int)) then
        nth a3 a1 fun y1 =>
        bif (leB ((y1.toNat : Nat) : Int) 57) then
          ref03_reader_number_l1 (addI .i64 a1 1) a3 a5
        else
          hiK (List.length a3) a1 fun b2 =>
          hiK b2 a5 fun b3 =>
          bif (eqS (List.drop b3 (List.take b2 a3)) ([] : List UInt8)) then
            some (0, false, a3, a5)
          else
            bif (ltB 4 ((List.length (List.drop b3 (List.take b2 a3)) : Nat) : Int)) then
              some (0, false, a3, a5)
            else
              bif (ltB 1 ((List.length (List.drop b3 (List.take b2 a3)) : Nat) : Int)) then
                nth (List.drop b3 (List.take b2 a3)) 0 fun y4 =>
                bif (eqB ((y4.toNat : Nat) : Int) 48) then
                  some (0, false, a3, a5)
                else
                  ref03_reader_number_l2 a1 (List.drop b3 (List.take b2 a3)) 0 0 a3 a5
              else
                ref03_reader_number_l2 a1 (List.drop b3 (List.take b2 a3)) 0 0 a3 a5
      else
        hiK (List.length a3) a1 fun b5 =>
        hiK b5 a5 fun b6 =>
        bif (eqS (List.drop b6 (List.take b5 a3)) ([] : List UInt8)) then
          some (0, false, a3, a5)
        else
          bif (ltB 4 ((List.length (List.drop b6 (List.take b5 a3)) : Nat) : Int)) then
            some (0, false, a3, a5)
          else
            bif (ltB 1 ((List.length (List.drop b6 (List.take b5 a3)) : Nat) : Int)) then
              nth (List.drop b6 (List.take b5 a3)) 0 fun y7 =>
              bif (eqB ((y7.toNat : Nat) : Int) 48) then
                some (0, false, a3, a5)
              else
                ref03_reader_number_l2 a1 (List.drop b6 (List.take b5 a3)) 0 0 a3 a5
            else
              ref03_reader_number_l2 a1 (List.drop b6 (List.take b5 a3)) 0 0 a3 a5
    else
      hiK (List.length a3) a1 fun b8 =>
      hiK b8 a5 fun b9 =>
      bif (eqS (List.drop b9 (List.take b8 a3)) ([] : List UInt8)) then
        some (0, false, a3, a5)
      else
        bif (ltB 4 ((List.length (List.drop b9 (List.take b8 a3)) : Nat) : Int)) then
          some (0, false, a3, a5)
        else
          bif (ltB 1 ((List.length (List.drop b9 (List.take b8 a3)) : Nat) : Int)) then
            nth (List.drop b9 (List.take b8 a3)) 0 fun y10 =>
            bif (eqB ((y10.toNat : Nat) : Int) 48) then
              some (0, false, a3, a5)
            else
              ref03_reader_number_l2 a1 (List.drop b9 (List.take b8 a3)) 0 0 a3 a5
          else
            ref03_reader_number_l2 a1 (List.drop b9 (List.take b8 a3)) 0 0 a3 a5
  ) (ref03_reader_number_l1 a1 a3 a5) :=
  goC_loopAt (T := tn) (o := ⟨[.lf (.i .i64), .lf .b], [[.lf .s, .lf (.i .i64)]]⟩) sigOk 100000 (b := codeAt Tryd.f55 [1, 1, 1, 0, 0, 0]) (by kernel_rfl) (by kernel_rfl)
theorem ref03_reader_rest_l1_le (a3 : Bool) (a5 : List UInt8) (a7 : Int) (a9 : Int) (a11 : List (Int)) (a13 : List (Trust)) (a15 : Int) (a17 : List (Int)) (a19 : List (Trust)) : Le (
    Option.bind (ref03_reader_number a5 a7) fun x0 =>
    bif (!x0.2.1) then
      some ((Trust.mk a15 a17 a19), false, x0.2.2.1, x0.2.2.2)
    else
      Option.bind (ref03_reader_skip x0.2.2.1 x0.2.2.2) fun x1 =>
      bif (ltB x1.2 ((List.length x1.1 : Nat) : Int)) then
        nth x1.1 x1.2 fun y2 =>
        bif (eqB ((y2.toNat : Nat) : Int) 111) then
          Option.bind (ref03_reader_rest x0.1 x1.1 x1.2) fun x3 =>
          bif (!x3.2.1) then
            some ((Trust.mk a15 a17 a19), false, x3.2.2.1, x3.2.2.2)
          else
            capOk (List.length a19 + List.length ([(Trust.mk x3.1.Threshold x3.1.Nodes x3.1.Inner)] : List (Trust))) <|
            Option.bind (ref03_reader_sign ([41] : List UInt8) x3.2.2.1 x3.2.2.2) fun x4 =>
            bif x4.1 then
              some ((Trust.mk a15 a17 (a19 ++ ([(Trust.mk x3.1.Threshold x3.1.Nodes x3.1.Inner)] : List (Trust)))), true, x4.2.1, x4.2.2)
            else
              Option.bind (ref03_reader_sign ([44] : List UInt8) x4.2.1 x4.2.2) fun x5 =>
              bif (!x5.1) then
                some ((Trust.mk a15 a17 (a19 ++ ([(Trust.mk x3.1.Threshold x3.1.Nodes x3.1.Inner)] : List (Trust)))), false, x5.2.1, x5.2.2)
              else
                ref03_reader_rest_l2 false x5.2.1 x5.2.2 a9 a11 a13 a15 a17 (a19 ++ ([(Trust.mk x3.1.Threshold x3.1.Nodes x3.1.Inner)] : List (Trust)))
        else
          capOk (List.length a17 + List.length ([x0.1] : List (Int))) <|
          Option.bind (ref03_reader_sign ([41] : List UInt8) x1.1 x1.2) fun x6 =>
          bif x6.1 then
            some ((Trust.mk a15 (a17 ++ ([x0.1] : List (Int))) a19), true, x6.2.1, x6.2.2)
          else
            Option.bind (ref03_reader_sign ([44] : List UInt8) x6.2.1 x6.2.2) fun x7 =>
            bif (!x7.1) then
              some ((Trust.mk a15 (a17 ++ ([x0.1] : List (Int))) a19), false, x7.2.1, x7.2.2)
            else
              ref03_reader_rest_l2 false x7.2.1 x7.2.2 a9 a11 a13 a15 (a17 ++ ([x0.1] : List (Int))) a19
      else
        capOk (List.length a17 + List.length ([x0.1] : List (Int))) <|
        Option.bind (ref03_reader_sign ([41] : List UInt8) x1.1 x1.2) fun x8 =>
        bif x8.1 then
          some ((Trust.mk a15 (a17 ++ ([x0.1] : List (Int))) a19), true, x8.2.1, x8.2.2)
        else
          Option.bind (ref03_reader_sign ([44] : List UInt8) x8.2.1 x8.2.2) fun x9 =>
          bif (!x9.1) then
            some ((Trust.mk a15 (a17 ++ ([x0.1] : List (Int))) a19), false, x9.2.1, x9.2.2)
          else
            ref03_reader_rest_l2 false x9.2.1 x9.2.2 a9 a11 a13 a15 (a17 ++ ([x0.1] : List (Int))) a19
  ) (ref03_reader_rest_l1 a3 a5 a7 a9 a11 a13 a15 a17 a19) :=
  goC_loopAt (T := tn) (o := ⟨[.ag .Trust, .lf .b], [[.lf .s, .lf (.i .i64)]]⟩) sigOk 100000 (b := codeAt Tryd.f56 [1, 1, 1, 0, 0]) (by kernel_rfl) (by kernel_rfl)
theorem ref03_reader_skip_l1_le (a1 : List UInt8) (a3 : Int) : Le (
    bif (ltB a3 ((List.length a1 : Nat) : Int)) then
      nth a1 a3 fun y0 =>
      bif (eqB ((y0.toNat : Nat) : Int) 32) then
        ref03_reader_skip_l1 a1 (addI .i64 a3 1)
      else
        some (a1, a3)
    else
      some (a1, a3)
  ) (ref03_reader_skip_l1 a1 a3) :=
  goC_loopAt (T := tn) (o := ⟨[], [[.lf .s, .lf (.i .i64)]]⟩) sigOk 100000 (b := codeAt Tryd.f57 [0, 0]) (by kernel_rfl) (by kernel_rfl)
theorem deletion_copied_l1_le (a2 : List (Trust)) (a4 : Int) (a6 : Int) (a8 : Int) (a10 : List (Int)) (a12 : List (Trust)) (a14 : Int) (a16 : List (Int)) (a18 : List (Trust)) (a20 : Int) (a22 : List (Int)) (a24 : List (Trust)) : Le (
    bif (ltB a6 a4) then
      nth a2 a6 fun y0 =>
      Option.bind (deletion_copied y0) fun x1 =>
      capOk (List.length a24 + List.length ([(Trust.mk x1.Threshold x1.Nodes x1.Inner)] : List (Trust))) <|
      deletion_copied_l1 a2 a4 (addI .i64 a6 1) a8 a10 a12 a14 a16 a18 a20 a22 (a24 ++ ([(Trust.mk x1.Threshold x1.Nodes x1.Inner)] : List (Trust)))
    else
      some (Trust.mk a20 a22 a24)
  ) (deletion_copied_l1 a2 a4 a6 a8 a10 a12 a14 a16 a18 a20 a22 a24) :=
  goC_loopAt (T := tn) (o := ⟨[.ag .Trust], []⟩) sigOk 100000 (b := codeAt Tryd.f33 [1, 1, 0, 1, 0, 0]) (by kernel_rfl) (by kernel_rfl)
theorem deletion_level_l1_le (a0 : Int) (a5 : List (Int)) (a7 : Int) (a9 : Int) (a11 : Int) (a13 : List (Int)) (a15 : List (Trust)) (a17 : Int) (a19 : List (Int)) (a21 : List (Trust)) (a23 : Int) (a25 : List (Int)) (a27 : List (Trust)) : Le (
    bif (ltB a9 a7) then
      nth a5 a9 fun y0 =>
      Option.bind (nodeset_Has a0 y0) fun x1 =>
      bif x1 then
        Option.bind (deletion_lowered a23 1) fun x2 =>
        deletion_level_l1 a0 a5 a7 (addI .i64 a9 1) a11 a13 a15 a17 a19 a21 x2 a25 a27
      else
        capOk (List.length a25 + List.length ([y0] : List (Int))) <|
        deletion_level_l1 a0 a5 a7 (addI .i64 a9 1) a11 a13 a15 a17 a19 a21 a23 (a25 ++ ([y0] : List (Int))) a27
    else
      deletion_level_l2 a0 a15 ((List.length a15 : Nat) : Int) 0 a11 a13 a15 a17 a19 a21 a23 a25 a27
  ) (deletion_level_l1 a0 a5 a7 a9 a11 a13 a15 a17 a19 a21 a23 a25 a27) :=
  goC_loopAt (T := tn) (o := ⟨[.ag .Trust], []⟩) sigOk 100000 (b := codeAt Tryd.f34 [1, 1, 0, 1, 0, 0]) (by kernel_rfl) (by kernel_rfl)
theorem deletion_lowered_le (threshold_0 : Int) (by_1 : Int) : Le (
    some (subI .i64 (if by_1 > threshold_0 then by_1 else threshold_0) by_1)
  ) (deletion_lowered threshold_0 by_1) :=
  callC_le (T := tn) (c := bodyOf Tryd.f53) (o := ⟨[.lf (.i .i64)], []⟩) sigOk 100000 (by kernel_rfl) Tryd.func53 (by kernel_rfl) (by kernel_rfl) (by kernel_rfl)
theorem ref03_text_l1_le (a1 : List UInt8) (a3 : List UInt8) (a5 : List (Int)) (a7 : Int) (a9 : Int) (a11 : Int) (a13 : List (Int)) (a15 : List (Trust)) : Le (
    bif (ltB a9 a7) then
      nth a5 a9 fun y0 =>
      chk (List.length a1 + List.length a3 ≤ 9223372036854775807) <|
      Option.bind (strconv_Itoa y0) fun x1 =>
      chk (List.length (a1 ++ a3) + List.length x1 ≤ 9223372036854775807) <|
      ref03_text_l1 ((a1 ++ a3) ++ x1) ([44, 32] : List UInt8) a5 a7 (addI .i64 a9 1) a11 a13 a15
    else
      ref03_text_l2 a1 a3 a15 ((List.length a15 : Nat) : Int) 0 a11 a13 a15
  ) (ref03_text_l1 a1 a3 a5 a7 a9 a11 a13 a15) :=
  goC_loopAt (T := tn) (o := ⟨[.lf .s], []⟩) sigOk 100000 (b := codeAt Tryd.f58 [1, 1, 1, 0, 1, 0, 0]) (by kernel_rfl) (by kernel_rfl)
theorem ref02_Satisfied_l1_le (a0 : Int) (a3 : Int) (a5 : List (Int)) (a7 : Int) (a9 : Int) (a11 : Int) (a13 : List (Int)) (a15 : List (Trust)) : Le (
    bif (ltB a9 a7) then
      nth a5 a9 fun y0 =>
      Option.bind (ref01_Has a0 y0) fun x1 =>
      bif x1 then
        ref02_Satisfied_l1 a0 (addI .i64 a3 1) a5 a7 (addI .i64 a9 1) a11 a13 a15
      else
        ref02_Satisfied_l1 a0 a3 a5 a7 (addI .i64 a9 1) a11 a13 a15
    else
      ref02_Satisfied_l2 a0 a3 a15 ((List.length a15 : Nat) : Int) 0 a11 a13 a15
  ) (ref02_Satisfied_l1 a0 a3 a5 a7 a9 a11 a13 a15) :=
  goC_loopAt (T := tn) (o := ⟨[.lf .b], []⟩) sigOk 100000 (b := codeAt Tryd.f13 [1, 1, 1, 0, 1, 0, 0]) (by kernel_rfl) (by kernel_rfl)
theorem ref01_Has_le (s_0 : Int) (node_1 : Int) : Le (
    Option.bind (ref01_Valid s_0) fun x0 =>
    bif x0 then
      bif (leB 0 node_1) then
        bif (ltB node_1 10) then
          chk (0 ≤ node_1) <|
          some (eqB (andI .i64 (shrI .i64 s_0 node_1) 1) 1)
        else
          some false
      else
        some false
    else
      some false
  ) (ref01_Has s_0 node_1) :=
  callC_le (T := tn) (c := bodyOf Tryd.f36) (o := ⟨[.lf .b], []⟩) sigOk 100000 (by kernel_rfl) Tryd.func36 (by kernel_rfl) (by kernel_rfl) (by kernel_rfl)
theorem ref02_Uses_l1_le (a1 : Int) (a3 : List (Int)) (a5 : Int) (a7 : Int) (a9 : Int) (a11 : List (Int)) (a13 : List (Trust)) : Le (
    bif (ltB a7 a5) then
      nth a3 a7 fun y0 =>
      bif (leB 0 y0) then
        bif (ltB y0 10) then
          chk (0 ≤ y0) <|
          ref02_Uses_l1 (orI .i64 a1 (shlI .i64 1 y0)) a3 a5 (addI .i64 a7 1) a9 a11 a13
        else
          ref02_Uses_l1 a1 a3 a5 (addI .i64 a7 1) a9 a11 a13
      else
        ref02_Uses_l1 a1 a3 a5 (addI .i64 a7 1) a9 a11 a13
    else
      ref02_Uses_l2 a1 a13 ((List.length a13 : Nat) : Int) 0 a9 a11 a13
  ) (ref02_Uses_l1 a1 a3 a5 a7 a9 a11 a13) :=
  goC_loopAt (T := tn) (o := ⟨[.lf (.i .i64)], []⟩) sigOk 100000 (b := codeAt Tryd.f15 [1, 1, 0, 1, 0, 0]) (by kernel_rfl) (by kernel_rfl)
theorem law13_DeletionQuorums_l2_le (a2 : Int) (a4 : Int) (a7 : Int) (a9 : Int) (a11 : Bool) (a13 : Int) (a15 : Int) (a17 : List (Int)) (a19 : Int) (a21 : List (Member)) (a23 : List (Member)) : Le (
    bif (ltB a15 a13) then
      chk (0 ≤ a15) <|
      bif (eqB (andI .i64 (shrI .i64 a9 a15) 1) 1) then
        nth a21 a15 fun y0 =>
        Option.bind (ref02_Satisfied y0.Trust (orI .i64 a9 a4)) fun x1 =>
        bif (!x1) then
          law13_DeletionQuorums_l2 a2 a4 a7 a9 false a13 (addI .i64 a15 1) a17 a19 a21 a23
        else
          law13_DeletionQuorums_l2 a2 a4 a7 a9 a11 a13 (addI .i64 a15 1) a17 a19 a21 a23
      else
        law13_DeletionQuorums_l2 a2 a4 a7 a9 a11 a13 (addI .i64 a15 1) a17 a19 a21 a23
    else
      Option.bind (ref09_Quorum (Config.mk a23) a9) fun x2 =>
      bif (!(x2 == a11)) then
        some false
      else
        law13_DeletionQuorums_l1 a2 a4 (addI .i64 a7 1) a17 a19 a21 a23
  ) (law13_DeletionQuorums_l2 a2 a4 a7 a9 a11 a13 a15 a17 a19 a21 a23) :=
  goC_loopAt (T := tn) (o := ⟨[.lf .b], []⟩) sigOk 100000 (b := codeAt Tryd.f7 [1, 1, 1, 1, 1, 1, 1, 0, 1, 0, 0, 1, 0, 0, 1, 1, 1, 1, 1, 0, 1, 0, 0]) (by kernel_rfl) (by kernel_rfl)
end Go.Proofs.YtfemjbmfpnpjfaaDoor
