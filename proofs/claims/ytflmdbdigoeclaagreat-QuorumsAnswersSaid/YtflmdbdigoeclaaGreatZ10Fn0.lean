/- What the functions come to, printed by a program and checked by the kernel. -/
import Derived.Test.YtflmdbdigoeclaaGreatZ10Df
namespace Go.Proofs.YtflmdbdigoeclaaGreat
open Go Go.Ab
set_option maxRecDepth 100000
theorem law10_QuorumsAnswers_le (t_0 : List (Int)) (raw_1 : Config) : Le (
    Option.bind (mk_SmallConfig raw_1) fun x0 =>
    bif (!x0) then
      Option.bind (law10_awake) fun x1 =>
      some x1
    else
      Option.bind (mk_New t_0) fun x2 =>
      Option.bind (mk_Config 9 x2.2.1 x2.2.2) fun x3 =>
      Option.bind (mk_BentConfig x3.1 x3.2.1 x3.2.2) fun x4 =>
      law10_QuorumsAnswers_l1 ([(Config.mk x3.1.Members), (Config.mk x4.1.Members), (Config.mk raw_1.Members)] : List (Config)) ((List.length ([(Config.mk x3.1.Members), (Config.mk x4.1.Members), (Config.mk raw_1.Members)] : List (Config)) : Nat) : Int) 0 raw_1.Members x4.2.1 x4.2.2 x3.1.Members
  ) (law10_QuorumsAnswers t_0 raw_1) :=
  callC_le (T := tn) (c := bodyOf Tryz.f3) (o := ⟨[.lf .b], []⟩) sigOk 100000 (by kernel_rfl) Tryz.func3 (by kernel_rfl) (by kernel_rfl) (by kernel_rfl)
theorem mk_SmallConfig_le (c_0 : Config) : Le (
    bif (ltB 30 ((List.length c_0.Members : Nat) : Int)) then
      some false
    else
      mk_SmallConfig_l1 0 0 c_0.Members
  ) (mk_SmallConfig c_0) :=
  callC_le (T := tn) (c := bodyOf Tryz.f4) (o := ⟨[.lf .b], []⟩) sigOk 100000 (by kernel_rfl) Tryz.func4 (by kernel_rfl) (by kernel_rfl) (by kernel_rfl)
theorem mk_New_le (l_0 : List (Int)) : Le (
    hiK (List.length l_0) (if 400 < ((List.length l_0 : Nat) : Int) then 400 else ((List.length l_0 : Nat) : Int)) fun b0 =>
    some ((), (List.drop 0 (List.take b0 l_0)), 0)
  ) (mk_New l_0) :=
  callC_le (T := tn) (c := bodyOf Tryz.f6) (o := ⟨[.ptr 0 0], [[.lf (.l .i64), .lf (.i .i64)]]⟩) sigOk 100000 (by kernel_rfl) Tryz.func6 (by kernel_rfl) (by kernel_rfl) (by kernel_rfl)
theorem mk_Config_le (n_1 : Int) (h0 : List (Int)) (h1 : Int) : Le (
    Option.bind (mk_Tape_Range 1 n_1 h0 h1) fun x0 =>
    Option.bind (mk_Tape_N 3 x0.2.1 x0.2.2) fun x1 =>
    mk_Config_l1 x0.1 x1.1 0 x1.2.1 x1.2.2 ([] : List (Member)) ([] : List (Member))
  ) (mk_Config n_1 h0 h1) :=
  callC_le (T := tn) (c := bodyOf Tryz.f7) (o := ⟨[.ag .Config], [[.lf (.l .i64), .lf (.i .i64)]]⟩) sigOk 100000 (by kernel_rfl) Tryz.func7 (by kernel_rfl) (by kernel_rfl) (by kernel_rfl)
theorem mk_BentConfig_le (c_1 : Config) (h0 : List (Int)) (h1 : Int) : Le (
    capOk (List.length ([] : List (Member)) + List.length c_1.Members) <|
    bif (eqB ((List.length (([] : List (Member)) ++ c_1.Members) : Nat) : Int) 0) then
      Option.bind (mk_Tape_Pick ([1, 10, 11] : List (Int)) h0 h1) fun x0 =>
      chk (x0.1 = x0.1 ∧ 0 ≤ x0.1 ∧ x0.1 ≤ 65536) <|
      some ((Config.mk (List.replicate (Int.toNat x0.1) (Member.mk false (Trust.mk 0 ([] : List (Int)) ([] : List (Trust)))))), x0.2.1, x0.2.2)
    else
      Option.bind (mk_Tape_N ((List.length (([] : List (Member)) ++ c_1.Members) : Nat) : Int) h0 h1) fun x1 =>
      nth (([] : List (Member)) ++ c_1.Members) x1.1 fun _ =>
      Option.bind (mk_Tape_N 5 x1.2.1 x1.2.2) fun x2 =>
      bif (eqB x2.1 0) then
        nthN (([] : List (Member)) ++ c_1.Members) (Int.toNat x1.1) fun y3 =>
        nthN (([] : List (Member)) ++ c_1.Members) (Int.toNat x1.1) fun y4 =>
        some ((Config.mk (List.set (([] : List (Member)) ++ c_1.Members) (Int.toNat x1.1) (Member.mk (!y3.Declared) (Trust.mk y4.Trust.Threshold y4.Trust.Nodes y4.Trust.Inner)))), x2.2.1, x2.2.2)
      else
        bif (eqB x2.1 1) then
          nthN (([] : List (Member)) ++ c_1.Members) (Int.toNat x1.1) fun y5 =>
          Option.bind (mk_BentTrust y5.Trust x2.2.1 x2.2.2) fun x6 =>
          nthN (([] : List (Member)) ++ c_1.Members) (Int.toNat x1.1) fun y7 =>
          some ((Config.mk (List.set (([] : List (Member)) ++ c_1.Members) (Int.toNat x1.1) (Member.mk y7.Declared (Trust.mk x6.1.Threshold x6.1.Nodes x6.1.Inner)))), x6.2.1, x6.2.2)
        else
          bif (eqB x2.1 2) then
            nthN (([] : List (Member)) ++ c_1.Members) (Int.toNat x1.1) fun y8 =>
            some ((Config.mk (List.set (([] : List (Member)) ++ c_1.Members) (Int.toNat x1.1) (Member.mk y8.Declared (Trust.mk 1 ([((List.length (([] : List (Member)) ++ c_1.Members) : Nat) : Int)] : List (Int)) ([] : List (Trust)))))), x2.2.1, x2.2.2)
          else
            bif (eqB x2.1 3) then
              hiK (List.length (([] : List (Member)) ++ c_1.Members)) (subI .i64 ((List.length (([] : List (Member)) ++ c_1.Members) : Nat) : Int) 1) fun b9 =>
              some ((Config.mk (List.drop 0 (List.take b9 (([] : List (Member)) ++ c_1.Members)))), x2.2.1, x2.2.2)
            else
              mk_BentConfig_l1 false x2.2.1 x2.2.2 c_1.Members ([] : List (Member)) (([] : List (Member)) ++ c_1.Members)
  ) (mk_BentConfig c_1 h0 h1) :=
  callC_le (T := tn) (c := bodyOf Tryz.f8) (o := ⟨[.ag .Config], [[.lf (.l .i64), .lf (.i .i64)]]⟩) sigOk 100000 (by kernel_rfl) Tryz.func8 (by kernel_rfl) (by kernel_rfl) (by kernel_rfl)
theorem quorums_Minimal_le (c_0 : Config) : Le (
    Option.bind (configuration_Valid c_0) fun x0 =>
    bif (neB x0 0) then
      some (([] : List (Int)), x0)
    else
      Option.bind (quorums_all c_0) fun x1 =>
      Option.bind (nodeset_Least x1) fun x2 =>
      some (x2, 0)
  ) (quorums_Minimal c_0) :=
  callC_le (T := tn) (c := bodyOf Tryz.f9) (o := ⟨[.lf (.l .i64), .lf (.i .i64)], []⟩) sigOk 100000 (by kernel_rfl) Tryz.func9 (by kernel_rfl) (by kernel_rfl) (by kernel_rfl)
theorem quorums_Count_le (c_0 : Config) : Le (
    Option.bind (configuration_Valid c_0) fun x0 =>
    bif (neB x0 0) then
      some (0, x0)
    else
      Option.bind (quorums_all c_0) fun x1 =>
      some (((List.length x1 : Nat) : Int), 0)
  ) (quorums_Count c_0) :=
  callC_le (T := tn) (c := bodyOf Tryz.f11) (o := ⟨[.lf (.i .i64), .lf (.i .i64)], []⟩) sigOk 100000 (by kernel_rfl) Tryz.func11 (by kernel_rfl) (by kernel_rfl) (by kernel_rfl)
theorem quorums_Parts_le (c_0 : Config) : Le (
    Option.bind (configuration_Valid c_0) fun x0 =>
    bif (neB x0 0) then
      some (([] : List (Int)), x0)
    else
      chk (((List.length c_0.Members : Nat) : Int) = ((List.length c_0.Members : Nat) : Int) ∧ 0 ≤ ((List.length c_0.Members : Nat) : Int) ∧ ((List.length c_0.Members : Nat) : Int) ≤ 65536) <|
      Option.bind (configuration_Declared c_0) fun x1 =>
      Option.bind (nodeset_Nodes x1) fun x2 =>
      quorums_Parts_l1 (List.replicate (Int.toNat ((List.length c_0.Members : Nat) : Int)) 0) x2 ((List.length x2 : Nat) : Int) 0 c_0.Members
  ) (quorums_Parts c_0) :=
  callC_le (T := tn) (c := bodyOf Tryz.f13) (o := ⟨[.lf (.l .i64), .lf (.i .i64)], []⟩) sigOk 100000 (by kernel_rfl) Tryz.func13 (by kernel_rfl) (by kernel_rfl) (by kernel_rfl)
theorem mk_Ints_le (a_0 : List (Int)) (b_1 : List (Int)) : Le (
    bif (neB ((List.length a_0 : Nat) : Int) ((List.length b_1 : Nat) : Int)) then
      some false
    else
      mk_Ints_l1 a_0 b_1 ((List.length a_0 : Nat) : Int) 0
  ) (mk_Ints a_0 b_1) :=
  callC_le (T := tn) (c := bodyOf Tryz.f19) (o := ⟨[.lf .b], []⟩) sigOk 100000 (by kernel_rfl) Tryz.func19 (by kernel_rfl) (by kernel_rfl) (by kernel_rfl)
theorem mk_Tape_Range_le (a_1 : Int) (b_2 : Int) (h0 : List (Int)) (h1 : Int) : Le (
    Option.bind (mk_Tape_N (addI .i64 (subI .i64 b_2 a_1) 1) h0 h1) fun x0 =>
    some ((addI .i64 a_1 x0.1), x0.2.1, x0.2.2)
  ) (mk_Tape_Range a_1 b_2 h0 h1) :=
  callC_le (T := tn) (c := bodyOf Tryz.f22) (o := ⟨[.lf (.i .i64)], [[.lf (.l .i64), .lf (.i .i64)]]⟩) sigOk 100000 (by kernel_rfl) Tryz.func22 (by kernel_rfl) (by kernel_rfl) (by kernel_rfl)
theorem mk_Tape_N_le (n_1 : Int) (h0 : List (Int)) (h1 : Int) : Le (
    bif (leB ((List.length h0 : Nat) : Int) h1) then
      some (0, h0, h1)
    else
      nth h0 h1 fun y0 =>
      chk (n_1 ≠ 0) <|
      bif (ltB (remI .i64 y0 n_1) 0) then
        some ((addI .i64 (remI .i64 y0 n_1) n_1), h0, (addI .i64 h1 1))
      else
        some ((remI .i64 y0 n_1), h0, (addI .i64 h1 1))
  ) (mk_Tape_N n_1 h0 h1) :=
  callC_le (T := tn) (c := bodyOf Tryz.f23) (o := ⟨[.lf (.i .i64)], [[.lf (.l .i64), .lf (.i .i64)]]⟩) sigOk 100000 (by kernel_rfl) Tryz.func23 (by kernel_rfl) (by kernel_rfl) (by kernel_rfl)
theorem mk_Tape_Pick_le (l_1 : List (Int)) (h0 : List (Int)) (h1 : Int) : Le (
    Option.bind (mk_Tape_N ((List.length l_1 : Nat) : Int) h0 h1) fun x0 =>
    nth l_1 x0.1 fun y1 =>
    some (y1, x0.2.1, x0.2.2)
  ) (mk_Tape_Pick l_1 h0 h1) :=
  callC_le (T := tn) (c := bodyOf Tryz.f27) (o := ⟨[.lf (.i .i64)], [[.lf (.l .i64), .lf (.i .i64)]]⟩) sigOk 100000 (by kernel_rfl) Tryz.func27 (by kernel_rfl) (by kernel_rfl) (by kernel_rfl)
theorem mk_BentTrust_le (x_1 : Trust) (h0 : List (Int)) (h1 : Int) : Le (
    bif (ltB 0 ((List.length x_1.Inner : Nat) : Int)) then
      Option.bind (mk_Tape_N 2 h0 h1) fun x0 =>
      bif (eqB x0.1 1) then
        capOk (List.length ([] : List (Trust)) + List.length x_1.Inner) <|
        Option.bind (mk_Tape_N ((List.length (([] : List (Trust)) ++ x_1.Inner) : Nat) : Int) x0.2.1 x0.2.2) fun x1 =>
        nth (([] : List (Trust)) ++ x_1.Inner) x1.1 fun _ =>
        nthN (([] : List (Trust)) ++ x_1.Inner) (Int.toNat x1.1) fun y2 =>
        Option.bind (mk_BentTrust y2 x1.2.1 x1.2.2) fun x3 =>
        nth (([] : List (Trust)) ++ x_1.Inner) x1.1 fun _ =>
        nthN (([] : List (Trust)) ++ x_1.Inner) (Int.toNat x1.1) fun _y4 =>
        some ((Trust.mk x_1.Threshold x_1.Nodes (List.set (([] : List (Trust)) ++ x_1.Inner) (Int.toNat x1.1) (Trust.mk x3.1.Threshold x3.1.Nodes x3.1.Inner))), x3.2.1, x3.2.2)
      else
        Option.bind (mk_Tape_N 6 x0.2.1 x0.2.2) fun x5 =>
        bif (eqB x5.1 0) then
          Option.bind (mk_Tape_Pick ([0, (-1), (addI .i64 ((List.length x_1.Nodes : Nat) : Int) ((List.length x_1.Inner : Nat) : Int)), (addI .i64 (addI .i64 ((List.length x_1.Nodes : Nat) : Int) ((List.length x_1.Inner : Nat) : Int)) 1)] : List (Int)) x5.2.1 x5.2.2) fun x6 =>
          some ((Trust.mk x6.1 x_1.Nodes x_1.Inner), x6.2.1, x6.2.2)
        else
          bif (eqB x5.1 1) then
            capOk (List.length ([] : List (Int)) + List.length x_1.Nodes) <|
            Option.bind (mk_Tape_Pick ([(-1), 0, 9, 10] : List (Int)) x5.2.1 x5.2.2) fun x7 =>
            capOk (List.length (([] : List (Int)) ++ x_1.Nodes) + List.length ([x7.1] : List (Int))) <|
            some ((Trust.mk x_1.Threshold ((([] : List (Int)) ++ x_1.Nodes) ++ ([x7.1] : List (Int))) x_1.Inner), x7.2.1, x7.2.2)
          else
            bif (eqB x5.1 2) then
              some ((Trust.mk x_1.Threshold ([] : List (Int)) x_1.Inner), x5.2.1, x5.2.2)
            else
              bif (eqB x5.1 3) then
                capOk (List.length ([] : List (Trust)) + List.length x_1.Inner) <|
                capOk (List.length (([] : List (Trust)) ++ x_1.Inner) + List.length ([(Trust.mk 0 ([] : List (Int)) ([] : List (Trust)))] : List (Trust))) <|
                some ((Trust.mk x_1.Threshold x_1.Nodes ((([] : List (Trust)) ++ x_1.Inner) ++ ([(Trust.mk 0 ([] : List (Int)) ([] : List (Trust)))] : List (Trust)))), x5.2.1, x5.2.2)
              else
                bif (eqB x5.1 4) then
                  Option.bind (mk_Tape_Range 1 4 x5.2.1 x5.2.2) fun x8 =>
                  mk_BentTrust_l1 x8.1 x8.2.1 x8.2.2 x_1.Threshold x_1.Nodes x_1.Inner 0 ([] : List (Int)) ([] : List (Trust)) x_1.Threshold x_1.Nodes x_1.Inner
                else
                  Option.bind (mk_Tape_Pick ([20, 60, 101] : List (Int)) x5.2.1 x5.2.2) fun x9 =>
                  mk_BentTrust_l2 ([] : List (Trust)) x9.1 x9.2.1 x9.2.2 x_1.Threshold x_1.Nodes x_1.Inner 0 ([] : List (Int)) ([] : List (Trust))
    else
      Option.bind (mk_Tape_N 6 h0 h1) fun x10 =>
      bif (eqB x10.1 0) then
        Option.bind (mk_Tape_Pick ([0, (-1), (addI .i64 ((List.length x_1.Nodes : Nat) : Int) ((List.length x_1.Inner : Nat) : Int)), (addI .i64 (addI .i64 ((List.length x_1.Nodes : Nat) : Int) ((List.length x_1.Inner : Nat) : Int)) 1)] : List (Int)) x10.2.1 x10.2.2) fun x11 =>
        some ((Trust.mk x11.1 x_1.Nodes x_1.Inner), x11.2.1, x11.2.2)
      else
        bif (eqB x10.1 1) then
          capOk (List.length ([] : List (Int)) + List.length x_1.Nodes) <|
          Option.bind (mk_Tape_Pick ([(-1), 0, 9, 10] : List (Int)) x10.2.1 x10.2.2) fun x12 =>
          capOk (List.length (([] : List (Int)) ++ x_1.Nodes) + List.length ([x12.1] : List (Int))) <|
          some ((Trust.mk x_1.Threshold ((([] : List (Int)) ++ x_1.Nodes) ++ ([x12.1] : List (Int))) x_1.Inner), x12.2.1, x12.2.2)
        else
          bif (eqB x10.1 2) then
            some ((Trust.mk x_1.Threshold ([] : List (Int)) x_1.Inner), x10.2.1, x10.2.2)
          else
            bif (eqB x10.1 3) then
              capOk (List.length ([] : List (Trust)) + List.length x_1.Inner) <|
              capOk (List.length (([] : List (Trust)) ++ x_1.Inner) + List.length ([(Trust.mk 0 ([] : List (Int)) ([] : List (Trust)))] : List (Trust))) <|
              some ((Trust.mk x_1.Threshold x_1.Nodes ((([] : List (Trust)) ++ x_1.Inner) ++ ([(Trust.mk 0 ([] : List (Int)) ([] : List (Trust)))] : List (Trust)))), x10.2.1, x10.2.2)
            else
              bif (eqB x10.1 4) then
                Option.bind (mk_Tape_Range 1 4 x10.2.1 x10.2.2) fun x13 =>
                mk_BentTrust_l1 x13.1 x13.2.1 x13.2.2 x_1.Threshold x_1.Nodes x_1.Inner 0 ([] : List (Int)) ([] : List (Trust)) x_1.Threshold x_1.Nodes x_1.Inner
              else
                Option.bind (mk_Tape_Pick ([20, 60, 101] : List (Int)) x10.2.1 x10.2.2) fun x14 =>
                mk_BentTrust_l2 ([] : List (Trust)) x14.1 x14.2.1 x14.2.2 x_1.Threshold x_1.Nodes x_1.Inner 0 ([] : List (Int)) ([] : List (Trust))
  ) (mk_BentTrust x_1 h0 h1) :=
  callC_le (T := tn) (c := bodyOf Tryz.f28) (o := ⟨[.ag .Trust], [[.lf (.l .i64), .lf (.i .i64)]]⟩) sigOk 100000 (by kernel_rfl) Tryz.func28 (by kernel_rfl) (by kernel_rfl) (by kernel_rfl)
theorem configuration_Valid_le (c_0 : Config) : Le (
    bif (ltB 10 ((List.length c_0.Members : Nat) : Int)) then
      some 3
    else
      configuration_Valid_l1 c_0.Members ((List.length c_0.Members : Nat) : Int) 0 c_0.Members
  ) (configuration_Valid c_0) :=
  callC_le (T := tn) (c := bodyOf Tryz.f29) (o := ⟨[.lf (.i .i64)], []⟩) sigOk 100000 (by kernel_rfl) Tryz.func29 (by kernel_rfl) (by kernel_rfl) (by kernel_rfl)
theorem quorums_all_le (c_0 : Config) : Le (
    chk (0 ≤ ((List.length c_0.Members : Nat) : Int)) <|
    quorums_all_l1 ([] : List (Int)) (shlI .i64 1 ((List.length c_0.Members : Nat) : Int)) 0 c_0.Members
  ) (quorums_all c_0) :=
  callC_le (T := tn) (c := bodyOf Tryz.f31) (o := ⟨[.lf (.l .i64)], []⟩) sigOk 100000 (by kernel_rfl) Tryz.func31 (by kernel_rfl) (by kernel_rfl) (by kernel_rfl)
theorem nodeset_Least_le (l_0 : List (Int)) : Le (
    Option.bind (slices_Clone___int_int_ l_0) fun x0 =>
    Option.bind (slices_DeleteFunc___int_int__r__nodeset_Least_1 x0.2) fun x1 =>
    Option.bind (slices_SortFunc___int_int__r__nodeset_Compare x1.2) fun x2 =>
    nodeset_Least_l1 ([] : List (Int)) x2 ((List.length x2 : Nat) : Int) 0
  ) (nodeset_Least l_0) :=
  callC_le (T := tn) (c := bodyOf Tryz.f30) (o := ⟨[.lf (.l .i64)], []⟩) sigOk 100000 (by kernel_rfl) Tryz.func30 (by kernel_rfl) (by kernel_rfl) (by kernel_rfl)
theorem configuration_Declared_le (c_0 : Config) : Le (
    configuration_Declared_l1 0 c_0.Members ((List.length c_0.Members : Nat) : Int) 0 c_0.Members
  ) (configuration_Declared c_0) :=
  callC_le (T := tn) (c := bodyOf Tryz.f36) (o := ⟨[.lf (.i .i64)], []⟩) sigOk 100000 (by kernel_rfl) Tryz.func36 (by kernel_rfl) (by kernel_rfl) (by kernel_rfl)
theorem nodeset_Nodes_le (s_0 : Int) : Le (
    nodeset_Nodes_l1 s_0 ([] : List (Int)) 0
  ) (nodeset_Nodes s_0) :=
  callC_le (T := tn) (c := bodyOf Tryz.f35) (o := ⟨[.lf (.l .i64)], []⟩) sigOk 100000 (by kernel_rfl) Tryz.func35 (by kernel_rfl) (by kernel_rfl) (by kernel_rfl)
theorem slices_Clone___int_int__le (s_0 : List (Int)) : Le (
    capOk (List.length ([] : List (Int)) + List.length s_0) <|
    some ((), (([] : List (Int)) ++ s_0))
  ) (slices_Clone___int_int_ s_0) :=
  callC_nil (T := tn) (c := bodyOf Tryz.f49) (rest := codeAt Tryz.f49 [1, 1]) (o := ⟨[.ref 0], [[.own .i64 false]]⟩) sigOk 100000 (by kernel_rfl) Tryz.func49 (by kernel_rfl) (by kernel_rfl) (by kernel_rfl) (by kernel_rfl) (fun hx r hr => by subst hx; cases hr; exact ⟨rfl, rfl⟩)
theorem slices_DeleteFunc___int_int__r__nodeset_Least_1_le (h0 : List (Int)) : Le (
    Option.bind (slices_IndexFunc___int_int__r__nodeset_Least_1 h0) fun x0 =>
    bif (eqB x0.1 (-1)) then
      some ((), x0.2)
    else
      slices_DeleteFunc___int_int__r__nodeset_Least_1_l1 x0.1 (addI .i64 x0.1 1) x0.2
  ) (slices_DeleteFunc___int_int__r__nodeset_Least_1 h0) :=
  callC_le (T := tn) (c := bodyOf Tryz.f48) (o := ⟨[.ref 0], [[.own .i64 false]]⟩) sigOk 100000 (by kernel_rfl) Tryz.func48 (by kernel_rfl) (by kernel_rfl) (by kernel_rfl)
theorem slices_SortFunc___int_int__r__nodeset_Compare_le (h0 : List (Int)) : Le (
    Option.bind (bits_Len (IntKind.wrap .u64 ((List.length h0 : Nat) : Int))) fun x0 =>
    Option.bind (slices_pdqsortCmpFunc_int__r__nodeset_Compare 0 ((List.length h0 : Nat) : Int) x0 h0) fun x1 =>
    some x1
  ) (slices_SortFunc___int_int__r__nodeset_Compare h0) :=
  callC_le (T := tn) (c := bodyOf Tryz.f52) (o := ⟨[], [[.own .i64 false]]⟩) sigOk 100000 (by kernel_rfl) Tryz.func52 (by kernel_rfl) (by kernel_rfl) (by kernel_rfl)
theorem slices_IndexFunc___int_int__r__nodeset_Least_1_le (h0 : List (Int)) : Le (
    slices_IndexFunc___int_int__r__nodeset_Least_1_l1 ((List.length h0 : Nat) : Int) 0 h0
  ) (slices_IndexFunc___int_int__r__nodeset_Least_1 h0) :=
  callC_le (T := tn) (c := bodyOf Tryz.f69) (o := ⟨[.lf (.i .i64)], [[.own .i64 false]]⟩) sigOk 100000 (by kernel_rfl) Tryz.func69 (by kernel_rfl) (by kernel_rfl) (by kernel_rfl)
theorem bits_Len_le (x_0 : Int) : Le (
    Option.bind (bits_Len64 x_0) fun x0 =>
    some x0
  ) (bits_Len x_0) :=
  callC_le (T := tn) (c := bodyOf Tryz.f72) (o := ⟨[.lf (.i .i64)], []⟩) sigOk 100000 (by kernel_rfl) Tryz.func72 (by kernel_rfl) (by kernel_rfl) (by kernel_rfl)
theorem slices_pdqsortCmpFunc_int__r__nodeset_Compare_le (a_1 : Int) (b_2 : Int) (limit_3 : Int) (h0 : List (Int)) : Le (
    slices_pdqsortCmpFunc_int__r__nodeset_Compare_l1 a_1 b_2 limit_3 true true h0
  ) (slices_pdqsortCmpFunc_int__r__nodeset_Compare a_1 b_2 limit_3 h0) :=
  callC_le (T := tn) (c := bodyOf Tryz.f71) (o := ⟨[], [[.own .i64 false]]⟩) sigOk 100000 (by kernel_rfl) Tryz.func71 (by kernel_rfl) (by kernel_rfl) (by kernel_rfl)
theorem bits_Len64_le (x_0 : Int) : Le (
    bif (leB 4294967296 x_0) then
      bif (leB 65536 (shrI .u64 x_0 32)) then
        bif (leB 256 (shrI .u64 (shrI .u64 x_0 32) 16)) then
          nth ([0, 1, 2, 2, 3, 3, 3, 3, 4, 4, 4, 4, 4, 4, 4, 4, 5, 5, 5, 5, 5, 5, 5, 5, 5, 5, 5, 5, 5, 5, 5, 5, 6, 6, 6, 6, 6, 6, 6, 6, 6, 6, 6, 6, 6, 6, 6, 6, 6, 6, 6, 6, 6, 6, 6, 6, 6, 6, 6, 6, 6, 6, 6, 6, 7, 7, 7, 7, 7, 7, 7, 7, 7, 7, 7, 7, 7, 7, 7, 7, 7, 7, 7, 7, 7, 7, 7, 7, 7, 7, 7, 7, 7, 7, 7, 7, 7, 7, 7, 7, 7, 7, 7, 7, 7, 7, 7, 7, 7, 7, 7, 7, 7, 7, 7, 7, 7, 7, 7, 7, 7, 7, 7, 7, 7, 7, 7, 7, 8, 8, 8, 8, 8, 8, 8, 8, 8, 8, 8, 8, 8, 8, 8, 8, 8, 8, 8, 8, 8, 8, 8, 8, 8, 8, 8, 8, 8, 8, 8, 8, 8, 8, 8, 8, 8, 8, 8, 8, 8, 8, 8, 8, 8, 8, 8, 8, 8, 8, 8, 8, 8, 8, 8, 8, 8, 8, 8, 8, 8, 8, 8, 8, 8, 8, 8, 8, 8, 8, 8, 8, 8, 8, 8, 8, 8, 8, 8, 8, 8, 8, 8, 8, 8, 8, 8, 8, 8, 8, 8, 8, 8, 8, 8, 8, 8, 8, 8, 8, 8, 8, 8, 8, 8, 8, 8, 8, 8, 8, 8, 8, 8, 8, 8, 8, 8, 8, 8, 8, 8, 8, 8, 8, 8, 8, 8, 8] : List UInt8) (IntKind.wrap .u8 (shrI .u64 (shrI .u64 (shrI .u64 x_0 32) 16) 8)) fun y0 =>
          some (addI .i64 56 (IntKind.wrap .i64 ((y0.toNat : Nat) : Int)))
        else
          nth ([0, 1, 2, 2, 3, 3, 3, 3, 4, 4, 4, 4, 4, 4, 4, 4, 5, 5, 5, 5, 5, 5, 5, 5, 5, 5, 5, 5, 5, 5, 5, 5, 6, 6, 6, 6, 6, 6, 6, 6, 6, 6, 6, 6, 6, 6, 6, 6, 6, 6, 6, 6, 6, 6, 6, 6, 6, 6, 6, 6, 6, 6, 6, 6, 7, 7, 7, 7, 7, 7, 7, 7, 7, 7, 7, 7, 7, 7, 7, 7, 7, 7, 7, 7, 7, 7, 7, 7, 7, 7, 7, 7, 7, 7, 7, 7, 7, 7, 7, 7, 7, 7, 7, 7, 7, 7, 7, 7, 7, 7, 7, 7, 7, 7, 7, 7, 7, 7, 7, 7, 7, 7, 7, 7, 7, 7, 7, 7, 8, 8, 8, 8, 8, 8, 8, 8, 8, 8, 8, 8, 8, 8, 8, 8, 8, 8, 8, 8, 8, 8, 8, 8, 8, 8, 8, 8, 8, 8, 8, 8, 8, 8, 8, 8, 8, 8, 8, 8, 8, 8, 8, 8, 8, 8, 8, 8, 8, 8, 8, 8, 8, 8, 8, 8, 8, 8, 8, 8, 8, 8, 8, 8, 8, 8, 8, 8, 8, 8, 8, 8, 8, 8, 8, 8, 8, 8, 8, 8, 8, 8, 8, 8, 8, 8, 8, 8, 8, 8, 8, 8, 8, 8, 8, 8, 8, 8, 8, 8, 8, 8, 8, 8, 8, 8, 8, 8, 8, 8, 8, 8, 8, 8, 8, 8, 8, 8, 8, 8, 8, 8, 8, 8, 8, 8, 8, 8] : List UInt8) (IntKind.wrap .u8 (shrI .u64 (shrI .u64 x_0 32) 16)) fun y1 =>
          some (addI .i64 48 (IntKind.wrap .i64 ((y1.toNat : Nat) : Int)))
      else
        bif (leB 256 (shrI .u64 x_0 32)) then
          nth ([0, 1, 2, 2, 3, 3, 3, 3, 4, 4, 4, 4, 4, 4, 4, 4, 5, 5, 5, 5, 5, 5, 5, 5, 5, 5, 5, 5, 5, 5, 5, 5, 6, 6, 6, 6, 6, 6, 6, 6, 6, 6, 6, 6, 6, 6, 6, 6, 6, 6, 6, 6, 6, 6, 6, 6, 6, 6, 6, 6, 6, 6, 6, 6, 7, 7, 7, 7, 7, 7, 7, 7, 7, 7, 7, 7, 7, 7, 7, 7, 7, 7, 7, 7, 7, 7, 7, 7, 7, 7, 7, 7, 7, 7, 7, 7, 7, 7, 7, 7, 7, 7, 7, 7, 7, 7, 7, 7, 7, 7, 7, 7, 7, 7, 7, 7, 7, 7, 7, 7, 7, 7, 7, 7, 7, 7, 7, 7, 8, 8, 8, 8, 8, 8, 8, 8, 8, 8, 8, 8, 8, 8, 8, 8, 8, 8, 8, 8, 8, 8, 8, 8, 8, 8, 8, 8, 8, 8, 8, 8, 8, 8, 8, 8, 8, 8, 8, 8, 8, 8, 8, 8, 8, 8, 8, 8, 8, 8, 8, 8, 8, 8, 8, 8, 8, 8, 8, 8, 8, 8, 8, 8, 8, 8, 8, 8, 8, 8, 8, 8, 8, 8, 8, 8, 8, 8, 8, 8, 8, 8, 8, 8, 8, 8, 8, 8, 8, 8, 8, 8, 8, 8, 8, 8, 8, 8, 8, 8, 8, 8, 8, 8, 8, 8, 8, 8, 8, 8, 8, 8, 8, 8, 8, 8, 8, 8, 8, 8, 8, 8, 8, 8, 8, 8, 8, 8] : List UInt8) (IntKind.wrap .u8 (shrI .u64 (shrI .u64 x_0 32) 8)) fun y2 =>
          some (addI .i64 40 (IntKind.wrap .i64 ((y2.toNat : Nat) : Int)))
        else
          nth ([0, 1, 2, 2, 3, 3, 3, 3, 4, 4, 4, 4, 4, 4, 4, 4, 5, 5, 5, 5, 5, 5, 5, 5, 5, 5, 5, 5, 5, 5, 5, 5, 6, 6, 6, 6, 6, 6, 6, 6, 6, 6, 6, 6, 6, 6, 6, 6, 6, 6, 6, 6, 6, 6, 6, 6, 6, 6, 6, 6, 6, 6, 6, 6, 7, 7, 7, 7, 7, 7, 7, 7, 7, 7, 7, 7, 7, 7, 7, 7, 7, 7, 7, 7, 7, 7, 7, 7, 7, 7, 7, 7, 7, 7, 7, 7, 7, 7, 7, 7, 7, 7, 7, 7, 7, 7, 7, 7, 7, 7, 7, 7, 7, 7, 7, 7, 7, 7, 7, 7, 7, 7, 7, 7, 7, 7, 7, 7, 8, 8, 8, 8, 8, 8, 8, 8, 8, 8, 8, 8, 8, 8, 8, 8, 8, 8, 8, 8, 8, 8, 8, 8, 8, 8, 8, 8, 8, 8, 8, 8, 8, 8, 8, 8, 8, 8, 8, 8, 8, 8, 8, 8, 8, 8, 8, 8, 8, 8, 8, 8, 8, 8, 8, 8, 8, 8, 8, 8, 8, 8, 8, 8, 8, 8, 8, 8, 8, 8, 8, 8, 8, 8, 8, 8, 8, 8, 8, 8, 8, 8, 8, 8, 8, 8, 8, 8, 8, 8, 8, 8, 8, 8, 8, 8, 8, 8, 8, 8, 8, 8, 8, 8, 8, 8, 8, 8, 8, 8, 8, 8, 8, 8, 8, 8, 8, 8, 8, 8, 8, 8, 8, 8, 8, 8, 8, 8] : List UInt8) (IntKind.wrap .u8 (shrI .u64 x_0 32)) fun y3 =>
          some (addI .i64 32 (IntKind.wrap .i64 ((y3.toNat : Nat) : Int)))
    else
      bif (leB 65536 x_0) then
        bif (leB 256 (shrI .u64 x_0 16)) then
          nth ([0, 1, 2, 2, 3, 3, 3, 3, 4, 4, 4, 4, 4, 4, 4, 4, 5, 5, 5, 5, 5, 5, 5, 5, 5, 5, 5, 5, 5, 5, 5, 5, 6, 6, 6, 6, 6, 6, 6, 6, 6, 6, 6, 6, 6, 6, 6, 6, 6, 6, 6, 6, 6, 6, 6, 6, 6, 6, 6, 6, 6, 6, 6, 6, 7, 7, 7, 7, 7, 7, 7, 7, 7, 7, 7, 7, 7, 7, 7, 7, 7, 7, 7, 7, 7, 7, 7, 7, 7, 7, 7, 7, 7, 7, 7, 7, 7, 7, 7, 7, 7, 7, 7, 7, 7, 7, 7, 7, 7, 7, 7, 7, 7, 7, 7, 7, 7, 7, 7, 7, 7, 7, 7, 7, 7, 7, 7, 7, 8, 8, 8, 8, 8, 8, 8, 8, 8, 8, 8, 8, 8, 8, 8, 8, 8, 8, 8, 8, 8, 8, 8, 8, 8, 8, 8, 8, 8, 8, 8, 8, 8, 8, 8, 8, 8, 8, 8, 8, 8, 8, 8, 8, 8, 8, 8, 8, 8, 8, 8, 8, 8, 8, 8, 8, 8, 8, 8, 8, 8, 8, 8, 8, 8, 8, 8, 8, 8, 8, 8, 8, 8, 8, 8, 8, 8, 8, 8, 8, 8, 8, 8, 8, 8, 8, 8, 8, 8, 8, 8, 8, 8, 8, 8, 8, 8, 8, 8, 8, 8, 8, 8, 8, 8, 8, 8, 8, 8, 8, 8, 8, 8, 8, 8, 8, 8, 8, 8, 8, 8, 8, 8, 8, 8, 8, 8, 8] : List UInt8) (IntKind.wrap .u8 (shrI .u64 (shrI .u64 x_0 16) 8)) fun y4 =>
          some (addI .i64 24 (IntKind.wrap .i64 ((y4.toNat : Nat) : Int)))
        else
          nth ([0, 1, 2, 2, 3, 3, 3, 3, 4, 4, 4, 4, 4, 4, 4, 4, 5, 5, 5, 5, 5, 5, 5, 5, 5, 5, 5, 5, 5, 5, 5, 5, 6, 6, 6, 6, 6, 6, 6, 6, 6, 6, 6, 6, 6, 6, 6, 6, 6, 6, 6, 6, 6, 6, 6, 6, 6, 6, 6, 6, 6, 6, 6, 6, 7, 7, 7, 7, 7, 7, 7, 7, 7, 7, 7, 7, 7, 7, 7, 7, 7, 7, 7, 7, 7, 7, 7, 7, 7, 7, 7, 7, 7, 7, 7, 7, 7, 7, 7, 7, 7, 7, 7, 7, 7, 7, 7, 7, 7, 7, 7, 7, 7, 7, 7, 7, 7, 7, 7, 7, 7, 7, 7, 7, 7, 7, 7, 7, 8, 8, 8, 8, 8, 8, 8, 8, 8, 8, 8, 8, 8, 8, 8, 8, 8, 8, 8, 8, 8, 8, 8, 8, 8, 8, 8, 8, 8, 8, 8, 8, 8, 8, 8, 8, 8, 8, 8, 8, 8, 8, 8, 8, 8, 8, 8, 8, 8, 8, 8, 8, 8, 8, 8, 8, 8, 8, 8, 8, 8, 8, 8, 8, 8, 8, 8, 8, 8, 8, 8, 8, 8, 8, 8, 8, 8, 8, 8, 8, 8, 8, 8, 8, 8, 8, 8, 8, 8, 8, 8, 8, 8, 8, 8, 8, 8, 8, 8, 8, 8, 8, 8, 8, 8, 8, 8, 8, 8, 8, 8, 8, 8, 8, 8, 8, 8, 8, 8, 8, 8, 8, 8, 8, 8, 8, 8, 8] : List UInt8) (IntKind.wrap .u8 (shrI .u64 x_0 16)) fun y5 =>
          some (addI .i64 16 (IntKind.wrap .i64 ((y5.toNat : Nat) : Int)))
      else
        bif (leB 256 x_0) then
          nth ([0, 1, 2, 2, 3, 3, 3, 3, 4, 4, 4, 4, 4, 4, 4, 4, 5, 5, 5, 5, 5, 5, 5, 5, 5, 5, 5, 5, 5, 5, 5, 5, 6, 6, 6, 6, 6, 6, 6, 6, 6, 6, 6, 6, 6, 6, 6, 6, 6, 6, 6, 6, 6, 6, 6, 6, 6, 6, 6, 6, 6, 6, 6, 6, 7, 7, 7, 7, 7, 7, 7, 7, 7, 7, 7, 7, 7, 7, 7, 7, 7, 7, 7, 7, 7, 7, 7, 7, 7, 7, 7, 7, 7, 7, 7, 7, 7, 7, 7, 7, 7, 7, 7, 7, 7, 7, 7, 7, 7, 7, 7, 7, 7, 7, 7, 7, 7, 7, 7, 7, 7, 7, 7, 7, 7, 7, 7, 7, 8, 8, 8, 8, 8, 8, 8, 8, 8, 8, 8, 8, 8, 8, 8, 8, 8, 8, 8, 8, 8, 8, 8, 8, 8, 8, 8, 8, 8, 8, 8, 8, 8, 8, 8, 8, 8, 8, 8, 8, 8, 8, 8, 8, 8, 8, 8, 8, 8, 8, 8, 8, 8, 8, 8, 8, 8, 8, 8, 8, 8, 8, 8, 8, 8, 8, 8, 8, 8, 8, 8, 8, 8, 8, 8, 8, 8, 8, 8, 8, 8, 8, 8, 8, 8, 8, 8, 8, 8, 8, 8, 8, 8, 8, 8, 8, 8, 8, 8, 8, 8, 8, 8, 8, 8, 8, 8, 8, 8, 8, 8, 8, 8, 8, 8, 8, 8, 8, 8, 8, 8, 8, 8, 8, 8, 8, 8, 8] : List UInt8) (IntKind.wrap .u8 (shrI .u64 x_0 8)) fun y6 =>
          some (addI .i64 8 (IntKind.wrap .i64 ((y6.toNat : Nat) : Int)))
        else
          nth ([0, 1, 2, 2, 3, 3, 3, 3, 4, 4, 4, 4, 4, 4, 4, 4, 5, 5, 5, 5, 5, 5, 5, 5, 5, 5, 5, 5, 5, 5, 5, 5, 6, 6, 6, 6, 6, 6, 6, 6, 6, 6, 6, 6, 6, 6, 6, 6, 6, 6, 6, 6, 6, 6, 6, 6, 6, 6, 6, 6, 6, 6, 6, 6, 7, 7, 7, 7, 7, 7, 7, 7, 7, 7, 7, 7, 7, 7, 7, 7, 7, 7, 7, 7, 7, 7, 7, 7, 7, 7, 7, 7, 7, 7, 7, 7, 7, 7, 7, 7, 7, 7, 7, 7, 7, 7, 7, 7, 7, 7, 7, 7, 7, 7, 7, 7, 7, 7, 7, 7, 7, 7, 7, 7, 7, 7, 7, 7, 8, 8, 8, 8, 8, 8, 8, 8, 8, 8, 8, 8, 8, 8, 8, 8, 8, 8, 8, 8, 8, 8, 8, 8, 8, 8, 8, 8, 8, 8, 8, 8, 8, 8, 8, 8, 8, 8, 8, 8, 8, 8, 8, 8, 8, 8, 8, 8, 8, 8, 8, 8, 8, 8, 8, 8, 8, 8, 8, 8, 8, 8, 8, 8, 8, 8, 8, 8, 8, 8, 8, 8, 8, 8, 8, 8, 8, 8, 8, 8, 8, 8, 8, 8, 8, 8, 8, 8, 8, 8, 8, 8, 8, 8, 8, 8, 8, 8, 8, 8, 8, 8, 8, 8, 8, 8, 8, 8, 8, 8, 8, 8, 8, 8, 8, 8, 8, 8, 8, 8, 8, 8, 8, 8, 8, 8, 8, 8] : List UInt8) (IntKind.wrap .u8 x_0) fun y7 =>
          some (addI .i64 0 (IntKind.wrap .i64 ((y7.toNat : Nat) : Int)))
  ) (bits_Len64 x_0) :=
  callC_le (T := tn) (c := bodyOf Tryz.f94) (o := ⟨[.lf (.i .i64)], []⟩) sigOk 100000 (by kernel_rfl) Tryz.func94 (by kernel_rfl) (by kernel_rfl) (by kernel_rfl)
theorem law10_QuorumsAnswers_l1_le (a0 : List (Config)) (a2 : Int) (a4 : Int) (a6 : List (Member)) (a8 : List (Int)) (a10 : Int) (a12 : List (Member)) : Le (
    bif (ltB a4 a2) then
      nth a0 a4 fun y0 =>
      Option.bind (quorums_Minimal y0) fun x1 =>
      Option.bind (ref10_Minimal y0) fun x2 =>
      Option.bind (quorums_Count y0) fun x3 =>
      Option.bind (ref10_Count y0) fun x4 =>
      Option.bind (quorums_Parts y0) fun x5 =>
      Option.bind (ref10_Parts y0) fun x6 =>
      Option.bind (quorums_Core y0) fun x7 =>
      Option.bind (ref10_Core y0) fun x8 =>
      Option.bind (quorums_Symmetric y0) fun x9 =>
      Option.bind (ref10_Symmetric y0) fun x10 =>
      bif (neB x1.2 x2.2) then
        some false
      else
        bif (neB x3.2 x4.2) then
          some false
        else
          bif (neB x5.2 x6.2) then
            some false
          else
            bif (neB x7.2 x8.2) then
              some false
            else
              bif (neB x9.2 x10.2) then
                some false
              else
                bif (neB x3.1 x4.1) then
                  some false
                else
                  bif (neB x7.1 x8.1) then
                    some false
                  else
                    bif (!(x9.1 == x10.1)) then
                      some false
                    else
                      Option.bind (mk_Ints x1.1 x2.1) fun x11 =>
                      bif (!x11) then
                        some false
                      else
                        Option.bind (mk_Ints x5.1 x6.1) fun x12 =>
                        bif (!x12) then
                          some false
                        else
                          law10_QuorumsAnswers_l1 a0 a2 (addI .i64 a4 1) a6 a8 a10 a12
    else
      Option.bind (law10_awake) fun x13 =>
      some x13
  ) (law10_QuorumsAnswers_l1 a0 a2 a4 a6 a8 a10 a12) :=
  goC_loopAt (T := tn) (o := ⟨[.lf .b], []⟩) sigOk 100000 (b := codeAt Tryz.f3 [1, 1, 1, 1, 0, 1, 0, 0]) (by kernel_rfl) (by kernel_rfl)
theorem ref10_Minimal_le (c_0 : Config) : Le (
    Option.bind (ref06_Valid c_0) fun x0 =>
    bif (neB x0 0) then
      some (([] : List (Int)), x0)
    else
      Option.bind (ref10_all c_0) fun x1 =>
      Option.bind (ref01_Least x1) fun x2 =>
      some (x2, 0)
  ) (ref10_Minimal c_0) :=
  callC_le (T := tn) (c := bodyOf Tryz.f10) (o := ⟨[.lf (.l .i64), .lf (.i .i64)], []⟩) sigOk 100000 (by kernel_rfl) Tryz.func10 (by kernel_rfl) (by kernel_rfl) (by kernel_rfl)
theorem ref10_Count_le (c_0 : Config) : Le (
    Option.bind (ref06_Valid c_0) fun x0 =>
    bif (neB x0 0) then
      some (0, x0)
    else
      Option.bind (ref10_all c_0) fun x1 =>
      some (((List.length x1 : Nat) : Int), 0)
  ) (ref10_Count c_0) :=
  callC_le (T := tn) (c := bodyOf Tryz.f12) (o := ⟨[.lf (.i .i64), .lf (.i .i64)], []⟩) sigOk 100000 (by kernel_rfl) Tryz.func12 (by kernel_rfl) (by kernel_rfl) (by kernel_rfl)
theorem ref10_Parts_le (c_0 : Config) : Le (
    Option.bind (ref06_Valid c_0) fun x0 =>
    bif (neB x0 0) then
      some (([] : List (Int)), x0)
    else
      Option.bind (ref06_Declared c_0) fun x1 =>
      Option.bind (ref01_Nodes x1) fun x2 =>
      ref10_Parts_l1 ([] : List (Int)) 0 x2 ((List.length x2 : Nat) : Int) 0 c_0.Members
  ) (ref10_Parts c_0) :=
  callC_le (T := tn) (c := bodyOf Tryz.f14) (o := ⟨[.lf (.l .i64), .lf (.i .i64)], []⟩) sigOk 100000 (by kernel_rfl) Tryz.func14 (by kernel_rfl) (by kernel_rfl) (by kernel_rfl)
theorem quorums_Core_le (c_0 : Config) : Le (
    Option.bind (quorums_Minimal c_0) fun x0 =>
    quorums_Core_l1 x0.2 0 x0.1 ((List.length x0.1 : Nat) : Int) 0 c_0.Members
  ) (quorums_Core c_0) :=
  callC_le (T := tn) (c := bodyOf Tryz.f15) (o := ⟨[.lf (.i .i64), .lf (.i .i64)], []⟩) sigOk 100000 (by kernel_rfl) Tryz.func15 (by kernel_rfl) (by kernel_rfl) (by kernel_rfl)
theorem ref10_Core_le (c_0 : Config) : Le (
    Option.bind (ref10_Minimal c_0) fun x0 =>
    ref10_Core_l1 x0.2 0 x0.1 ((List.length x0.1 : Nat) : Int) 0 c_0.Members
  ) (ref10_Core c_0) :=
  callC_le (T := tn) (c := bodyOf Tryz.f16) (o := ⟨[.lf (.i .i64), .lf (.i .i64)], []⟩) sigOk 100000 (by kernel_rfl) Tryz.func16 (by kernel_rfl) (by kernel_rfl) (by kernel_rfl)
theorem quorums_Symmetric_le (c_0 : Config) : Le (
    Option.bind (configuration_Valid c_0) fun x0 =>
    bif (neB x0 0) then
      some (false, x0)
    else
      Option.bind (configuration_Declared c_0) fun x1 =>
      Option.bind (nodeset_Nodes x1) fun x2 =>
      chk (0 ≤ ((List.length c_0.Members : Nat) : Int)) <|
      quorums_Symmetric_l1 x2 (shlI .i64 1 ((List.length c_0.Members : Nat) : Int)) 0 c_0.Members
  ) (quorums_Symmetric c_0) :=
  callC_le (T := tn) (c := bodyOf Tryz.f17) (o := ⟨[.lf .b, .lf (.i .i64)], []⟩) sigOk 100000 (by kernel_rfl) Tryz.func17 (by kernel_rfl) (by kernel_rfl) (by kernel_rfl)
theorem ref10_Symmetric_le (c_0 : Config) : Le (
    Option.bind (ref06_Valid c_0) fun x0 =>
    bif (neB x0 0) then
      some (false, x0)
    else
      Option.bind (ref06_Declared c_0) fun x1 =>
      Option.bind (ref01_Nodes x1) fun x2 =>
      ref10_Symmetric_l1 x2 x2 ((List.length x2 : Nat) : Int) 0 c_0.Members
  ) (ref10_Symmetric c_0) :=
  callC_le (T := tn) (c := bodyOf Tryz.f18) (o := ⟨[.lf .b, .lf (.i .i64)], []⟩) sigOk 100000 (by kernel_rfl) Tryz.func18 (by kernel_rfl) (by kernel_rfl) (by kernel_rfl)
theorem ref06_Valid_le (c_0 : Config) : Le (
    bif (ltB 10 ((List.length c_0.Members : Nat) : Int)) then
      some 3
    else
      ref06_Valid_l1 c_0.Members ((List.length c_0.Members : Nat) : Int) 0 c_0.Members
  ) (ref06_Valid c_0) :=
  callC_le (T := tn) (c := bodyOf Tryz.f32) (o := ⟨[.lf (.i .i64)], []⟩) sigOk 100000 (by kernel_rfl) Tryz.func32 (by kernel_rfl) (by kernel_rfl) (by kernel_rfl)
theorem ref10_all_le (c_0 : Config) : Le (
    ref10_all_l1 ([] : List (Int)) 0 c_0.Members
  ) (ref10_all c_0) :=
  callC_le (T := tn) (c := bodyOf Tryz.f34) (o := ⟨[.lf (.l .i64)], []⟩) sigOk 100000 (by kernel_rfl) Tryz.func34 (by kernel_rfl) (by kernel_rfl) (by kernel_rfl)
theorem ref01_Least_le (l_0 : List (Int)) : Le (
    ref01_Least_l1 l_0 ([] : List (Int)) l_0 ((List.length l_0 : Nat) : Int) 0
  ) (ref01_Least l_0) :=
  callC_le (T := tn) (c := bodyOf Tryz.f33) (o := ⟨[.lf (.l .i64)], []⟩) sigOk 100000 (by kernel_rfl) Tryz.func33 (by kernel_rfl) (by kernel_rfl) (by kernel_rfl)
theorem ref06_Declared_le (c_0 : Config) : Le (
    ref06_Declared_l1 0 c_0.Members ((List.length c_0.Members : Nat) : Int) 0 c_0.Members
  ) (ref06_Declared c_0) :=
  callC_le (T := tn) (c := bodyOf Tryz.f40) (o := ⟨[.lf (.i .i64)], []⟩) sigOk 100000 (by kernel_rfl) Tryz.func40 (by kernel_rfl) (by kernel_rfl) (by kernel_rfl)
theorem ref01_Nodes_le (s_0 : Int) : Le (
    ref01_Nodes_l1 s_0 ([] : List (Int)) 0
  ) (ref01_Nodes s_0) :=
  callC_le (T := tn) (c := bodyOf Tryz.f39) (o := ⟨[.lf (.l .i64)], []⟩) sigOk 100000 (by kernel_rfl) Tryz.func39 (by kernel_rfl) (by kernel_rfl) (by kernel_rfl)
end Go.Proofs.YtflmdbdigoeclaaGreat
