/- What the functions come to, printed by a program and checked by the kernel. -/
import Derived.Test.YtfailfoncbbgjaaP11Df
namespace Go.Proofs.Ytfailfoncbbgjaa
open Go Go.Ab
set_option maxRecDepth 100000
theorem law11_BlockingAnswers_le (t_0 : List (Int)) (raw_1 : Config) (v_2 : Int) (x_3 : Int) (l_4 : List (Int)) : Le (
    Option.bind (mk_SmallConfig raw_1) fun x0 =>
    bif (!x0) then
      Option.bind (law11_awake) fun x1 =>
      some x1
    else
      bif (ltB 40 ((List.length l_4 : Nat) : Int)) then
        Option.bind (law11_awake) fun x2 =>
        some x2
      else
        Option.bind (mk_New t_0) fun x3 =>
        Option.bind (mk_Config 10 x3.2.1 x3.2.2) fun x4 =>
        Option.bind (mk_BentConfig x4.1 x4.2.1 x4.2.2) fun x5 =>
        law11_BlockingAnswers_l1 v_2 x_3 l_4 ([(Config.mk x4.1.Members), (Config.mk x5.1.Members), (Config.mk raw_1.Members)] : List (Config)) ((List.length ([(Config.mk x4.1.Members), (Config.mk x5.1.Members), (Config.mk raw_1.Members)] : List (Config)) : Nat) : Int) 0 raw_1.Members x5.2.1 x5.2.2 x4.1.Members
  ) (law11_BlockingAnswers t_0 raw_1 v_2 x_3 l_4) :=
  callC_le (T := tn) (c := bodyOf Try.f6) (o := ⟨[.lf .b], []⟩) sigOk 100000 (by kernel_rfl) Try.func6 (by kernel_rfl) (by kernel_rfl) (by kernel_rfl)
theorem mk_SmallConfig_le (c_0 : Config) : Le (
    bif (ltB 30 ((List.length c_0.Members : Nat) : Int)) then
      some false
    else
      mk_SmallConfig_l1 0 0 c_0.Members
  ) (mk_SmallConfig c_0) :=
  callC_le (T := tn) (c := bodyOf Try.f22) (o := ⟨[.lf .b], []⟩) sigOk 100000 (by kernel_rfl) Try.func22 (by kernel_rfl) (by kernel_rfl) (by kernel_rfl)
theorem mk_New_le (l_0 : List (Int)) : Le (
    hiK (List.length l_0) (if 400 < ((List.length l_0 : Nat) : Int) then 400 else ((List.length l_0 : Nat) : Int)) fun b0 =>
    some ((), (List.drop 0 (List.take b0 l_0)), 0)
  ) (mk_New l_0) :=
  callC_le (T := tn) (c := bodyOf Try.f8) (o := ⟨[.ptr 0 0], [[.lf (.l .i64), .lf (.i .i64)]]⟩) sigOk 100000 (by kernel_rfl) Try.func8 (by kernel_rfl) (by kernel_rfl) (by kernel_rfl)
theorem mk_Config_le (n_1 : Int) (h0 : List (Int)) (h1 : Int) : Le (
    Option.bind (mk_Tape_Range 1 n_1 h0 h1) fun x0 =>
    Option.bind (mk_Tape_N 3 x0.2.1 x0.2.2) fun x1 =>
    mk_Config_l1 x0.1 x1.1 0 x1.2.1 x1.2.2 ([] : List (Member)) ([] : List (Member))
  ) (mk_Config n_1 h0 h1) :=
  callC_le (T := tn) (c := bodyOf Try.f9) (o := ⟨[.ag .Config], [[.lf (.l .i64), .lf (.i .i64)]]⟩) sigOk 100000 (by kernel_rfl) Try.func9 (by kernel_rfl) (by kernel_rfl) (by kernel_rfl)
theorem mk_BentConfig_le (c_1 : Config) (h0 : List (Int)) (h1 : Int) : Le (
    capOk (List.length ([] : List (Member)) + List.length c_1.Members) <|
    bif (eqB ((List.length (([] : List (Member)) ++ c_1.Members) : Nat) : Int) 0) then
      Option.bind (mk_Tape_Pick ([1, 10, 11] : List (Int)) h0 h1) fun x0 =>
      chk (x0.1 = x0.1 ∧ 0 ≤ x0.1 ∧ x0.1 ≤ 65536) <|
      some ((Config.mk (List.replicate (Int.toNat x0.1) (Member.mk false (Trust.mk 0 ([] : List (Int)) ([] : List (Trust)))))), x0.2.1, x0.2.2)
    else
      Option.bind (mk_Tape_N ((List.length (([] : List (Member)) ++ c_1.Members) : Nat) : Int) h0 h1) fun x1 =>
      nth (([] : List (Member)) ++ c_1.Members) x1.1 fun _ =>
      Option.bind (mk_Tape_N 5 x1.2.1 x1.2.2) fun x2 =>
      bif (eqB x2.1 0) then
        nthN (([] : List (Member)) ++ c_1.Members) (Int.toNat x1.1) fun y3 =>
        nthN (([] : List (Member)) ++ c_1.Members) (Int.toNat x1.1) fun y4 =>
        some ((Config.mk (List.set (([] : List (Member)) ++ c_1.Members) (Int.toNat x1.1) (Member.mk (!y3.Declared) (Trust.mk y4.Trust.Threshold y4.Trust.Nodes y4.Trust.Inner)))), x2.2.1, x2.2.2)
      else
        bif (eqB x2.1 1) then
          nthN (([] : List (Member)) ++ c_1.Members) (Int.toNat x1.1) fun y5 =>
          Option.bind (mk_BentTrust y5.Trust x2.2.1 x2.2.2) fun x6 =>
          nthN (([] : List (Member)) ++ c_1.Members) (Int.toNat x1.1) fun y7 =>
          some ((Config.mk (List.set (([] : List (Member)) ++ c_1.Members) (Int.toNat x1.1) (Member.mk y7.Declared (Trust.mk x6.1.Threshold x6.1.Nodes x6.1.Inner)))), x6.2.1, x6.2.2)
        else
          bif (eqB x2.1 2) then
            nthN (([] : List (Member)) ++ c_1.Members) (Int.toNat x1.1) fun y8 =>
            some ((Config.mk (List.set (([] : List (Member)) ++ c_1.Members) (Int.toNat x1.1) (Member.mk y8.Declared (Trust.mk 1 ([((List.length (([] : List (Member)) ++ c_1.Members) : Nat) : Int)] : List (Int)) ([] : List (Trust)))))), x2.2.1, x2.2.2)
          else
            bif (eqB x2.1 3) then
              hiK (List.length (([] : List (Member)) ++ c_1.Members)) (subI .i64 ((List.length (([] : List (Member)) ++ c_1.Members) : Nat) : Int) 1) fun b9 =>
              some ((Config.mk (List.drop 0 (List.take b9 (([] : List (Member)) ++ c_1.Members)))), x2.2.1, x2.2.2)
            else
              mk_BentConfig_l1 false x2.2.1 x2.2.2 c_1.Members ([] : List (Member)) (([] : List (Member)) ++ c_1.Members)
  ) (mk_BentConfig c_1 h0 h1) :=
  callC_le (T := tn) (c := bodyOf Try.f23) (o := ⟨[.ag .Config], [[.lf (.l .i64), .lf (.i .i64)]]⟩) sigOk 100000 (by kernel_rfl) Try.func23 (by kernel_rfl) (by kernel_rfl) (by kernel_rfl)
theorem mk_Tape_N_le (n_1 : Int) (h0 : List (Int)) (h1 : Int) : Le (
    bif (leB ((List.length h0 : Nat) : Int) h1) then
      some (0, h0, h1)
    else
      nth h0 h1 fun y0 =>
      chk (n_1 ≠ 0) <|
      bif (ltB (remI .i64 y0 n_1) 0) then
        some ((addI .i64 (remI .i64 y0 n_1) n_1), h0, (addI .i64 h1 1))
      else
        some ((remI .i64 y0 n_1), h0, (addI .i64 h1 1))
  ) (mk_Tape_N n_1 h0 h1) :=
  callC_le (T := tn) (c := bodyOf Try.f10) (o := ⟨[.lf (.i .i64)], [[.lf (.l .i64), .lf (.i .i64)]]⟩) sigOk 100000 (by kernel_rfl) Try.func10 (by kernel_rfl) (by kernel_rfl) (by kernel_rfl)
theorem blocking_Cascade_le (c_0 : Config) (s_1 : Int) : Le (
    Option.bind (nodeset_Valid s_1) fun x0 =>
    bif (!x0) then
      some (([] : List (Int)), 0)
    else
      Option.bind (blocking_next c_0 s_1) fun x1 =>
      blocking_Cascade_l1 s_1 ([] : List (Int)) x1.1 x1.2 c_0.Members
  ) (blocking_Cascade c_0 s_1) :=
  callC_le (T := tn) (c := bodyOf Try.f17) (o := ⟨[.lf (.l .i64), .lf (.i .i64)], []⟩) sigOk 100000 (by kernel_rfl) Try.func17 (by kernel_rfl) (by kernel_rfl) (by kernel_rfl)
theorem ref06_Declared_le (c_0 : Config) : Le (
    ref06_Declared_l1 0 c_0.Members ((List.length c_0.Members : Nat) : Int) 0 c_0.Members
  ) (ref06_Declared c_0) :=
  callC_le (T := tn) (c := bodyOf Try.f18) (o := ⟨[.lf (.i .i64)], []⟩) sigOk 100000 (by kernel_rfl) Try.func18 (by kernel_rfl) (by kernel_rfl) (by kernel_rfl)
theorem ref01_Nodes_le (s_0 : Int) : Le (
    ref01_Nodes_l1 s_0 ([] : List (Int)) 0
  ) (ref01_Nodes s_0) :=
  callC_le (T := tn) (c := bodyOf Try.f19) (o := ⟨[.lf (.l .i64)], []⟩) sigOk 100000 (by kernel_rfl) Try.func19 (by kernel_rfl) (by kernel_rfl) (by kernel_rfl)
theorem blocking_Least_le (c_0 : Config) (v_1 : Int) : Le (
    Option.bind (configuration_Valid c_0) fun x0 =>
    bif (neB x0 0) then
      some (([] : List (Int)), x0)
    else
      bif (ltB v_1 0) then
        some (([] : List (Int)), 5)
      else
        bif (leB ((List.length c_0.Members : Nat) : Int) v_1) then
          some (([] : List (Int)), 5)
        else
          nth c_0.Members v_1 fun y1 =>
          bif (!y1.Declared) then
            some (([] : List (Int)), 10)
          else
            nth c_0.Members v_1 fun y2 =>
            Option.bind (threshold_Uses y2.Trust) fun x3 =>
            Option.bind (nodeset_Subsets x3) fun x4 =>
            blocking_Least_l1 v_1 ([] : List (Int)) x4 ((List.length x4 : Nat) : Int) 0 c_0.Members
  ) (blocking_Least c_0 v_1) :=
  callC_le (T := tn) (c := bodyOf Try.f15) (o := ⟨[.lf (.l .i64), .lf (.i .i64)], []⟩) sigOk 100000 (by kernel_rfl) Try.func15 (by kernel_rfl) (by kernel_rfl) (by kernel_rfl)
theorem mk_Ints_le (a_0 : List (Int)) (b_1 : List (Int)) : Le (
    bif (neB ((List.length a_0 : Nat) : Int) ((List.length b_1 : Nat) : Int)) then
      some false
    else
      mk_Ints_l1 a_0 b_1 ((List.length a_0 : Nat) : Int) 0
  ) (mk_Ints a_0 b_1) :=
  callC_le (T := tn) (c := bodyOf Try.f16) (o := ⟨[.lf .b], []⟩) sigOk 100000 (by kernel_rfl) Try.func16 (by kernel_rfl) (by kernel_rfl) (by kernel_rfl)
theorem blocking_Blocks_le (c_0 : Config) (v_1 : Int) (s_2 : Int) : Le (
    Option.bind (nodeset_Valid s_2) fun x0 =>
    bif (!x0) then
      some false
    else
      Option.bind (configuration_Declared c_0) fun x1 =>
      Option.bind (nodeset_Has x1 v_1) fun x2 =>
      bif (!x2) then
        some false
      else
        chk (0 ≤ v_1) <|
        nth c_0.Members v_1 fun y3 =>
        Option.bind (threshold_Satisfied y3.Trust (orI .i64 (andNotI .i64 1023 s_2) (shlI .i64 1 v_1))) fun x4 =>
        some (!x4)
  ) (blocking_Blocks c_0 v_1 s_2) :=
  callC_le (T := tn) (c := bodyOf Try.f13) (o := ⟨[.lf .b], []⟩) sigOk 100000 (by kernel_rfl) Try.func13 (by kernel_rfl) (by kernel_rfl) (by kernel_rfl)
theorem mk_Tape_Range_le (a_1 : Int) (b_2 : Int) (h0 : List (Int)) (h1 : Int) : Le (
    Option.bind (mk_Tape_N (addI .i64 (subI .i64 b_2 a_1) 1) h0 h1) fun x0 =>
    some ((addI .i64 a_1 x0.1), x0.2.1, x0.2.2)
  ) (mk_Tape_Range a_1 b_2 h0 h1) :=
  callC_le (T := tn) (c := bodyOf Try.f30) (o := ⟨[.lf (.i .i64)], [[.lf (.l .i64), .lf (.i .i64)]]⟩) sigOk 100000 (by kernel_rfl) Try.func30 (by kernel_rfl) (by kernel_rfl) (by kernel_rfl)
theorem mk_Tape_Pick_le (l_1 : List (Int)) (h0 : List (Int)) (h1 : Int) : Le (
    Option.bind (mk_Tape_N ((List.length l_1 : Nat) : Int) h0 h1) fun x0 =>
    nth l_1 x0.1 fun y1 =>
    some (y1, x0.2.1, x0.2.2)
  ) (mk_Tape_Pick l_1 h0 h1) :=
  callC_le (T := tn) (c := bodyOf Try.f50) (o := ⟨[.lf (.i .i64)], [[.lf (.l .i64), .lf (.i .i64)]]⟩) sigOk 100000 (by kernel_rfl) Try.func50 (by kernel_rfl) (by kernel_rfl) (by kernel_rfl)
theorem mk_BentTrust_le (x_1 : Trust) (h0 : List (Int)) (h1 : Int) : Le (
    bif (ltB 0 ((List.length x_1.Inner : Nat) : Int)) then
      Option.bind (mk_Tape_N 2 h0 h1) fun x0 =>
      bif (eqB x0.1 1) then
        capOk (List.length ([] : List (Trust)) + List.length x_1.Inner) <|
        Option.bind (mk_Tape_N ((List.length (([] : List (Trust)) ++ x_1.Inner) : Nat) : Int) x0.2.1 x0.2.2) fun x1 =>
        nth (([] : List (Trust)) ++ x_1.Inner) x1.1 fun _ =>
        nthN (([] : List (Trust)) ++ x_1.Inner) (Int.toNat x1.1) fun y2 =>
        Option.bind (mk_BentTrust y2 x1.2.1 x1.2.2) fun x3 =>
        nth (([] : List (Trust)) ++ x_1.Inner) x1.1 fun _ =>
        nthN (([] : List (Trust)) ++ x_1.Inner) (Int.toNat x1.1) fun _y4 =>
        some ((Trust.mk x_1.Threshold x_1.Nodes (List.set (([] : List (Trust)) ++ x_1.Inner) (Int.toNat x1.1) (Trust.mk x3.1.Threshold x3.1.Nodes x3.1.Inner))), x3.2.1, x3.2.2)
      else
        Option.bind (mk_Tape_N 6 x0.2.1 x0.2.2) fun x5 =>
        bif (eqB x5.1 0) then
          Option.bind (mk_Tape_Pick ([0, (-1), (addI .i64 ((List.length x_1.Nodes : Nat) : Int) ((List.length x_1.Inner : Nat) : Int)), (addI .i64 (addI .i64 ((List.length x_1.Nodes : Nat) : Int) ((List.length x_1.Inner : Nat) : Int)) 1)] : List (Int)) x5.2.1 x5.2.2) fun x6 =>
          some ((Trust.mk x6.1 x_1.Nodes x_1.Inner), x6.2.1, x6.2.2)
        else
          bif (eqB x5.1 1) then
            capOk (List.length ([] : List (Int)) + List.length x_1.Nodes) <|
            Option.bind (mk_Tape_Pick ([(-1), 0, 9, 10] : List (Int)) x5.2.1 x5.2.2) fun x7 =>
            capOk (List.length (([] : List (Int)) ++ x_1.Nodes) + List.length ([x7.1] : List (Int))) <|
            some ((Trust.mk x_1.Threshold ((([] : List (Int)) ++ x_1.Nodes) ++ ([x7.1] : List (Int))) x_1.Inner), x7.2.1, x7.2.2)
          else
            bif (eqB x5.1 2) then
              some ((Trust.mk x_1.Threshold ([] : List (Int)) x_1.Inner), x5.2.1, x5.2.2)
            else
              bif (eqB x5.1 3) then
                capOk (List.length ([] : List (Trust)) + List.length x_1.Inner) <|
                capOk (List.length (([] : List (Trust)) ++ x_1.Inner) + List.length ([(Trust.mk 0 ([] : List (Int)) ([] : List (Trust)))] : List (Trust))) <|
                some ((Trust.mk x_1.Threshold x_1.Nodes ((([] : List (Trust)) ++ x_1.Inner) ++ ([(Trust.mk 0 ([] : List (Int)) ([] : List (Trust)))] : List (Trust)))), x5.2.1, x5.2.2)
              else
                bif (eqB x5.1 4) then
                  Option.bind (mk_Tape_Range 1 4 x5.2.1 x5.2.2) fun x8 =>
                  mk_BentTrust_l1 x8.1 x8.2.1 x8.2.2 x_1.Threshold x_1.Nodes x_1.Inner 0 ([] : List (Int)) ([] : List (Trust)) x_1.Threshold x_1.Nodes x_1.Inner
                else
                  Option.bind (mk_Tape_Pick ([20, 60, 101] : List (Int)) x5.2.1 x5.2.2) fun x9 =>
                  mk_BentTrust_l2 ([] : List (Trust)) x9.1 x9.2.1 x9.2.2 x_1.Threshold x_1.Nodes x_1.Inner 0 ([] : List (Int)) ([] : List (Trust))
    else
      Option.bind (mk_Tape_N 6 h0 h1) fun x10 =>
      bif (eqB x10.1 0) then
        Option.bind (mk_Tape_Pick ([0, (-1), (addI .i64 ((List.length x_1.Nodes : Nat) : Int) ((List.length x_1.Inner : Nat) : Int)), (addI .i64 (addI .i64 ((List.length x_1.Nodes : Nat) : Int) ((List.length x_1.Inner : Nat) : Int)) 1)] : List (Int)) x10.2.1 x10.2.2) fun x11 =>
        some ((Trust.mk x11.1 x_1.Nodes x_1.Inner), x11.2.1, x11.2.2)
      else
        bif (eqB x10.1 1) then
          capOk (List.length ([] : List (Int)) + List.length x_1.Nodes) <|
          Option.bind (mk_Tape_Pick ([(-1), 0, 9, 10] : List (Int)) x10.2.1 x10.2.2) fun x12 =>
          capOk (List.length (([] : List (Int)) ++ x_1.Nodes) + List.length ([x12.1] : List (Int))) <|
          some ((Trust.mk x_1.Threshold ((([] : List (Int)) ++ x_1.Nodes) ++ ([x12.1] : List (Int))) x_1.Inner), x12.2.1, x12.2.2)
        else
          bif (eqB x10.1 2) then
            some ((Trust.mk x_1.Threshold ([] : List (Int)) x_1.Inner), x10.2.1, x10.2.2)
          else
            bif (eqB x10.1 3) then
              capOk (List.length ([] : List (Trust)) + List.length x_1.Inner) <|
              capOk (List.length (([] : List (Trust)) ++ x_1.Inner) + List.length ([(Trust.mk 0 ([] : List (Int)) ([] : List (Trust)))] : List (Trust))) <|
              some ((Trust.mk x_1.Threshold x_1.Nodes ((([] : List (Trust)) ++ x_1.Inner) ++ ([(Trust.mk 0 ([] : List (Int)) ([] : List (Trust)))] : List (Trust)))), x10.2.1, x10.2.2)
            else
              bif (eqB x10.1 4) then
                Option.bind (mk_Tape_Range 1 4 x10.2.1 x10.2.2) fun x13 =>
                mk_BentTrust_l1 x13.1 x13.2.1 x13.2.2 x_1.Threshold x_1.Nodes x_1.Inner 0 ([] : List (Int)) ([] : List (Trust)) x_1.Threshold x_1.Nodes x_1.Inner
              else
                Option.bind (mk_Tape_Pick ([20, 60, 101] : List (Int)) x10.2.1 x10.2.2) fun x14 =>
                mk_BentTrust_l2 ([] : List (Trust)) x14.1 x14.2.1 x14.2.2 x_1.Threshold x_1.Nodes x_1.Inner 0 ([] : List (Int)) ([] : List (Trust))
  ) (mk_BentTrust x_1 h0 h1) :=
  callC_le (T := tn) (c := bodyOf Try.f51) (o := ⟨[.ag .Trust], [[.lf (.l .i64), .lf (.i .i64)]]⟩) sigOk 100000 (by kernel_rfl) Try.func51 (by kernel_rfl) (by kernel_rfl) (by kernel_rfl)
theorem nodeset_Valid_le (s_0 : Int) : Le (
    Option.bind (nodeset_below s_0 10) fun x0 =>
    some x0
  ) (nodeset_Valid s_0) :=
  callC_le (T := tn) (c := bodyOf Try.f38) (o := ⟨[.lf .b], []⟩) sigOk 100000 (by kernel_rfl) Try.func38 (by kernel_rfl) (by kernel_rfl) (by kernel_rfl)
theorem blocking_next_le (c_0 : Config) (s_1 : Int) : Le (
    Option.bind (configuration_Declared c_0) fun x0 =>
    Option.bind (nodeset_Nodes (andNotI .i64 x0 s_1)) fun x1 =>
    blocking_next_l1 s_1 x1 ((List.length x1 : Nat) : Int) 0 c_0.Members
  ) (blocking_next c_0 s_1) :=
  callC_le (T := tn) (c := bodyOf Try.f46) (o := ⟨[.lf (.i .i64), .lf .b], []⟩) sigOk 100000 (by kernel_rfl) Try.func46 (by kernel_rfl) (by kernel_rfl) (by kernel_rfl)
theorem ref02_Valid_le (t_0 : Trust) : Le (
    Option.bind (ref02_Depth t_0) fun x0 =>
    bif (ltB 4 x0) then
      some 3
    else
      Option.bind (ref02_Size t_0) fun x1 =>
      bif (ltB 200 x1) then
        some 3
      else
        Option.bind (ref02_check t_0) fun x2 =>
        some x2
  ) (ref02_Valid t_0) :=
  callC_le (T := tn) (c := bodyOf Try.f35) (o := ⟨[.lf (.i .i64)], []⟩) sigOk 100000 (by kernel_rfl) Try.func35 (by kernel_rfl) (by kernel_rfl) (by kernel_rfl)
theorem configuration_Valid_le (c_0 : Config) : Le (
    bif (ltB 10 ((List.length c_0.Members : Nat) : Int)) then
      some 3
    else
      configuration_Valid_l1 c_0.Members ((List.length c_0.Members : Nat) : Int) 0 c_0.Members
  ) (configuration_Valid c_0) :=
  callC_le (T := tn) (c := bodyOf Try.f42) (o := ⟨[.lf (.i .i64)], []⟩) sigOk 100000 (by kernel_rfl) Try.func42 (by kernel_rfl) (by kernel_rfl) (by kernel_rfl)
theorem threshold_Uses_le (t_0 : Trust) : Le (
    threshold_Uses_l1 0 t_0.Nodes ((List.length t_0.Nodes : Nat) : Int) 0 t_0.Threshold t_0.Nodes t_0.Inner
  ) (threshold_Uses t_0) :=
  callC_le (T := tn) (c := bodyOf Try.f44) (o := ⟨[.lf (.i .i64)], []⟩) sigOk 100000 (by kernel_rfl) Try.func44 (by kernel_rfl) (by kernel_rfl) (by kernel_rfl)
theorem nodeset_Subsets_le (s_0 : Int) : Le (
    nodeset_Subsets_l1 s_0 ([] : List (Int)) 0
  ) (nodeset_Subsets s_0) :=
  callC_le (T := tn) (c := bodyOf Try.f43) (o := ⟨[.lf (.l .i64)], []⟩) sigOk 100000 (by kernel_rfl) Try.func43 (by kernel_rfl) (by kernel_rfl) (by kernel_rfl)
theorem configuration_Declared_le (c_0 : Config) : Le (
    configuration_Declared_l1 0 c_0.Members ((List.length c_0.Members : Nat) : Int) 0 c_0.Members
  ) (configuration_Declared c_0) :=
  callC_le (T := tn) (c := bodyOf Try.f40) (o := ⟨[.lf (.i .i64)], []⟩) sigOk 100000 (by kernel_rfl) Try.func40 (by kernel_rfl) (by kernel_rfl) (by kernel_rfl)
theorem nodeset_Has_le (s_0 : Int) (node_1 : Int) : Le (
    Option.bind (nodeset_Valid s_0) fun x0 =>
    bif x0 then
      bif (leB 0 node_1) then
        bif (ltB node_1 10) then
          chk (0 ≤ node_1) <|
          some (neB (andI .i64 s_0 (shlI .i64 1 node_1)) 0)
        else
          some false
      else
        some false
    else
      some false
  ) (nodeset_Has s_0 node_1) :=
  callC_le (T := tn) (c := bodyOf Try.f39) (o := ⟨[.lf .b], []⟩) sigOk 100000 (by kernel_rfl) Try.func39 (by kernel_rfl) (by kernel_rfl) (by kernel_rfl)
theorem threshold_Satisfied_le (t_0 : Trust) (s_1 : Int) : Le (
    Option.bind (nodeset_Valid s_1) fun x0 =>
    bif (!x0) then
      some false
    else
      threshold_Satisfied_l1 s_1 0 t_0.Nodes ((List.length t_0.Nodes : Nat) : Int) 0 t_0.Threshold t_0.Nodes t_0.Inner
  ) (threshold_Satisfied t_0 s_1) :=
  callC_le (T := tn) (c := bodyOf Try.f41) (o := ⟨[.lf .b], []⟩) sigOk 100000 (by kernel_rfl) Try.func41 (by kernel_rfl) (by kernel_rfl) (by kernel_rfl)
theorem nodeset_below_le (s_0 : Int) (n_1 : Int) : Le (
    bif (leB 0 s_0) then
      chk (0 ≤ n_1) <|
      some (ltB s_0 (shlI .i64 1 n_1))
    else
      some false
  ) (nodeset_below s_0 n_1) :=
  callC_le (T := tn) (c := bodyOf Try.f60) (o := ⟨[.lf .b], []⟩) sigOk 100000 (by kernel_rfl) Try.func60 (by kernel_rfl) (by kernel_rfl) (by kernel_rfl)
theorem nodeset_Nodes_le (s_0 : Int) : Le (
    nodeset_Nodes_l1 s_0 ([] : List (Int)) 0
  ) (nodeset_Nodes s_0) :=
  callC_le (T := tn) (c := bodyOf Try.f70) (o := ⟨[.lf (.l .i64)], []⟩) sigOk 100000 (by kernel_rfl) Try.func70 (by kernel_rfl) (by kernel_rfl) (by kernel_rfl)
theorem ref02_Depth_le (t_0 : Trust) : Le (
    ref02_Depth_l1 0 t_0.Inner ((List.length t_0.Inner : Nat) : Int) 0 t_0.Threshold t_0.Nodes t_0.Inner
  ) (ref02_Depth t_0) :=
  callC_le (T := tn) (c := bodyOf Try.f55) (o := ⟨[.lf (.i .i64)], []⟩) sigOk 100000 (by kernel_rfl) Try.func55 (by kernel_rfl) (by kernel_rfl) (by kernel_rfl)
theorem ref02_Size_le (t_0 : Trust) : Le (
    ref02_Size_l1 (addI .i64 ((List.length t_0.Nodes : Nat) : Int) ((List.length t_0.Inner : Nat) : Int)) t_0.Inner ((List.length t_0.Inner : Nat) : Int) 0 t_0.Threshold t_0.Nodes t_0.Inner
  ) (ref02_Size t_0) :=
  callC_le (T := tn) (c := bodyOf Try.f56) (o := ⟨[.lf (.i .i64)], []⟩) sigOk 100000 (by kernel_rfl) Try.func56 (by kernel_rfl) (by kernel_rfl) (by kernel_rfl)
theorem ref02_check_le (t_0 : Trust) : Le (
    bif (ltB t_0.Threshold 1) then
      some 4
    else
      bif (ltB (addI .i64 ((List.length t_0.Nodes : Nat) : Int) ((List.length t_0.Inner : Nat) : Int)) t_0.Threshold) then
        some 4
      else
        ref02_check_l1 t_0.Nodes ((List.length t_0.Nodes : Nat) : Int) 0 t_0.Threshold t_0.Nodes t_0.Inner
  ) (ref02_check t_0) :=
  callC_le (T := tn) (c := bodyOf Try.f57) (o := ⟨[.lf (.i .i64)], []⟩) sigOk 100000 (by kernel_rfl) Try.func57 (by kernel_rfl) (by kernel_rfl) (by kernel_rfl)
theorem law11_BlockingAnswers_l1_le (a0 : Int) (a2 : Int) (a4 : List (Int)) (a7 : List (Config)) (a9 : Int) (a11 : Int) (a13 : List (Member)) (a15 : List (Int)) (a17 : Int) (a19 : List (Member)) : Le (
    bif (ltB a11 a9) then
      nth a7 a11 fun y0 =>
      Option.bind (mk_Tape_N 10 a15 a17) fun x1 =>
      law11_BlockingAnswers_l2 a0 a2 a4 a7 a9 a11 ([a0, x1.1, 0] : List (Int)) ((List.length ([a0, x1.1, 0] : List (Int)) : Nat) : Int) 0 a13 x1.2.1 x1.2.2 a19 y0.Members
    else
      Option.bind (law11_awake) fun x2 =>
      some x2
  ) (law11_BlockingAnswers_l1 a0 a2 a4 a7 a9 a11 a13 a15 a17 a19) :=
  goC_loopAt (T := tn) (o := ⟨[.lf .b], []⟩) sigOk 100000 (b := codeAt Try.f6 [1, 1, 1, 1, 0, 1, 0, 0]) (by kernel_rfl) (by kernel_rfl)
end Go.Proofs.Ytfailfoncbbgjaa
