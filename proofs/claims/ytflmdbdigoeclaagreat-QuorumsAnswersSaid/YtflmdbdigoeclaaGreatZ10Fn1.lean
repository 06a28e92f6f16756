/- What the functions come to, printed by a program and checked by the kernel. -/
import Derived.Test.YtflmdbdigoeclaaGreatZ10Df
namespace Go.Proofs.YtflmdbdigoeclaaGreat
open Go Go.Ab
set_option maxRecDepth 100000
theorem mk_SmallConfig_l1_le (a1 : Int) (a3 : Int) (a5 : List (Member)) : Le (
    bif (ltB a3 ((List.length a5 : Nat) : Int)) then
      bif (leB a1 400) then
        nth a5 a3 fun y0 =>
        Option.bind (mk_entries y0.Trust a1) fun x1 =>
        mk_SmallConfig_l1 x1 (addI .i64 a3 1) a5
      else
        some (leB a1 400)
    else
      some (leB a1 400)
  ) (mk_SmallConfig_l1 a1 a3 a5) :=
  goC_loopAt (T := tn) (o := ⟨[.lf .b], []⟩) sigOk 100000 (b := codeAt Tryz.f4 [1, 1, 1, 0, 1, 0, 0]) (by kernel_rfl) (by kernel_rfl)
theorem mk_entries_le (x_0 : Trust) (n_1 : Int) : Le (
    mk_entries_l1 (addI .i64 n_1 (addI .i64 1 ((List.length x_0.Nodes : Nat) : Int))) 0 x_0.Threshold x_0.Nodes x_0.Inner
  ) (mk_entries x_0 n_1) :=
  callC_le (T := tn) (c := bodyOf Tryz.f20) (o := ⟨[.lf (.i .i64)], []⟩) sigOk 100000 (by kernel_rfl) Tryz.func20 (by kernel_rfl) (by kernel_rfl) (by kernel_rfl)
theorem mk_Config_l1_le (a2 : Int) (a4 : Int) (a7 : Int) (a9 : List (Int)) (a11 : Int) (a13 : List (Member)) (a15 : List (Member)) : Le (
    bif (ltB a7 a2) then
      bif (eqB a4 0) then
        Option.bind (mk_Trust a2 2 a9 a11) fun x0 =>
        Option.bind (mk_Tape_N 12 x0.2.1 x0.2.2) fun x1 =>
        bif (eqB x1.1 11) then
          capOk (List.length a15 + List.length ([(Member.mk false (Trust.mk 0 ([] : List (Int)) ([] : List (Trust))))] : List (Member))) <|
          mk_Config_l1 a2 a4 (addI .i64 a7 1) x1.2.1 x1.2.2 a13 (a15 ++ ([(Member.mk false (Trust.mk 0 ([] : List (Int)) ([] : List (Trust))))] : List (Member)))
        else
          capOk (List.length a15 + List.length ([(Member.mk true (Trust.mk x0.1.Threshold x0.1.Nodes x0.1.Inner))] : List (Member))) <|
          mk_Config_l1 a2 a4 (addI .i64 a7 1) x1.2.1 x1.2.2 a13 (a15 ++ ([(Member.mk true (Trust.mk x0.1.Threshold x0.1.Nodes x0.1.Inner))] : List (Member)))
      else
        bif (eqB a4 1) then
          Option.bind (mk_most a2 a9 a11) fun x2 =>
          Option.bind (mk_Tape_N 12 x2.2.1 x2.2.2) fun x3 =>
          bif (eqB x3.1 11) then
            capOk (List.length a15 + List.length ([(Member.mk false (Trust.mk 0 ([] : List (Int)) ([] : List (Trust))))] : List (Member))) <|
            mk_Config_l1 a2 a4 (addI .i64 a7 1) x3.2.1 x3.2.2 a13 (a15 ++ ([(Member.mk false (Trust.mk 0 ([] : List (Int)) ([] : List (Trust))))] : List (Member)))
          else
            capOk (List.length a15 + List.length ([(Member.mk true (Trust.mk x2.1.Threshold x2.1.Nodes x2.1.Inner))] : List (Member))) <|
            mk_Config_l1 a2 a4 (addI .i64 a7 1) x3.2.1 x3.2.2 a13 (a15 ++ ([(Member.mk true (Trust.mk x2.1.Threshold x2.1.Nodes x2.1.Inner))] : List (Member)))
        else
          Option.bind (mk_group a2 a7 a9 a11) fun x4 =>
          Option.bind (mk_Tape_N 12 x4.2.1 x4.2.2) fun x5 =>
          bif (eqB x5.1 11) then
            capOk (List.length a15 + List.length ([(Member.mk false (Trust.mk 0 ([] : List (Int)) ([] : List (Trust))))] : List (Member))) <|
            mk_Config_l1 a2 a4 (addI .i64 a7 1) x5.2.1 x5.2.2 a13 (a15 ++ ([(Member.mk false (Trust.mk 0 ([] : List (Int)) ([] : List (Trust))))] : List (Member)))
          else
            capOk (List.length a15 + List.length ([(Member.mk true (Trust.mk x4.1.Threshold x4.1.Nodes x4.1.Inner))] : List (Member))) <|
            mk_Config_l1 a2 a4 (addI .i64 a7 1) x5.2.1 x5.2.2 a13 (a15 ++ ([(Member.mk true (Trust.mk x4.1.Threshold x4.1.Nodes x4.1.Inner))] : List (Member)))
    else
      some ((Config.mk a15), a9, a11)
  ) (mk_Config_l1 a2 a4 a7 a9 a11 a13 a15) :=
  goC_loopAt (T := tn) (o := ⟨[.ag .Config], [[.lf (.l .i64), .lf (.i .i64)]]⟩) sigOk 100000 (b := codeAt Tryz.f7 [1, 1, 1, 1, 0, 1, 0, 0]) (by kernel_rfl) (by kernel_rfl)
theorem mk_Trust_le (n_1 : Int) (deep_2 : Int) (h0 : List (Int)) (h1 : Int) : Le (
    Option.bind (mk_trust n_1 deep_2 h0 h1) fun x0 =>
    Option.bind (ref02_Valid x0.1) fun x1 =>
    bif (neB x1 0) then
      Option.bind (mk_Tape_N n_1 x0.2.1 x0.2.2) fun x2 =>
      some ((Trust.mk 1 ([x2.1] : List (Int)) ([] : List (Trust))), x2.2.1, x2.2.2)
    else
      some ((Trust.mk x0.1.Threshold x0.1.Nodes x0.1.Inner), x0.2.1, x0.2.2)
  ) (mk_Trust n_1 deep_2 h0 h1) :=
  callC_le (T := tn) (c := bodyOf Tryz.f24) (o := ⟨[.ag .Trust], [[.lf (.l .i64), .lf (.i .i64)]]⟩) sigOk 100000 (by kernel_rfl) Tryz.func24 (by kernel_rfl) (by kernel_rfl) (by kernel_rfl)
theorem mk_most_le (m_1 : Int) (h0 : List (Int)) (h1 : Int) : Le (
    mk_most_l1 m_1 0 h0 h1 0 ([] : List (Int)) ([] : List (Trust)) 0 ([] : List (Int)) ([] : List (Trust))
  ) (mk_most m_1 h0 h1) :=
  callC_le (T := tn) (c := bodyOf Tryz.f25) (o := ⟨[.ag .Trust], [[.lf (.l .i64), .lf (.i .i64)]]⟩) sigOk 100000 (by kernel_rfl) Tryz.func25 (by kernel_rfl) (by kernel_rfl) (by kernel_rfl)
theorem mk_group_le (m_1 : Int) (k_2 : Int) (h0 : List (Int)) (h1 : Int) : Le (
    mk_group_l1 m_1 k_2 ([] : List (Trust)) 0 h0 h1 0 ([] : List (Int)) ([] : List (Trust))
  ) (mk_group m_1 k_2 h0 h1) :=
  callC_le (T := tn) (c := bodyOf Tryz.f26) (o := ⟨[.ag .Trust], [[.lf (.l .i64), .lf (.i .i64)]]⟩) sigOk 100000 (by kernel_rfl) Tryz.func26 (by kernel_rfl) (by kernel_rfl) (by kernel_rfl)
theorem mk_trust_le (n_1 : Int) (deep_2 : Int) (h0 : List (Int)) (h1 : Int) : Le (
    Option.bind (mk_Tape_Order n_1 h0 h1) fun x0 =>
    Option.bind (mk_Tape_Range 1 (if 5 < n_1 then 5 else n_1) x0.2.1 x0.2.2) fun x1 =>
    hiK (List.length x0.1) x1.1 fun b2 =>
    mk_trust_l1 n_1 deep_2 (List.drop 0 (List.take b2 x0.1)) ((List.length (List.drop 0 (List.take b2 x0.1)) : Nat) : Int) 0 x1.2.1 x1.2.2 0 ([] : List (Int)) ([] : List (Trust)) 0 ([] : List (Int)) ([] : List (Trust))
  ) (mk_trust n_1 deep_2 h0 h1) :=
  callC_le (T := tn) (c := bodyOf Tryz.f45) (o := ⟨[.ag .Trust], [[.lf (.l .i64), .lf (.i .i64)]]⟩) sigOk 100000 (by kernel_rfl) Tryz.func45 (by kernel_rfl) (by kernel_rfl) (by kernel_rfl)
theorem ref02_Valid_le (t_0 : Trust) : Le (
    Option.bind (ref02_Depth t_0) fun x0 =>
    bif (ltB 4 x0) then
      some 3
    else
      Option.bind (ref02_Size t_0) fun x1 =>
      bif (ltB 200 x1) then
        some 3
      else
        Option.bind (ref02_check t_0) fun x2 =>
        some x2
  ) (ref02_Valid t_0) :=
  callC_le (T := tn) (c := bodyOf Tryz.f46) (o := ⟨[.lf (.i .i64)], []⟩) sigOk 100000 (by kernel_rfl) Tryz.func46 (by kernel_rfl) (by kernel_rfl) (by kernel_rfl)
theorem mk_Tape_Order_le (n_1 : Int) (h0 : List (Int)) (h1 : Int) : Le (
    mk_Tape_Order_l1 n_1 ([] : List (Int)) 0 h0 h1
  ) (mk_Tape_Order n_1 h0 h1) :=
  callC_le (T := tn) (c := bodyOf Tryz.f63) (o := ⟨[.lf (.l .i64)], [[.lf (.l .i64), .lf (.i .i64)]]⟩) sigOk 100000 (by kernel_rfl) Tryz.func63 (by kernel_rfl) (by kernel_rfl) (by kernel_rfl)
theorem ref02_Depth_le (t_0 : Trust) : Le (
    ref02_Depth_l1 0 t_0.Inner ((List.length t_0.Inner : Nat) : Int) 0 t_0.Threshold t_0.Nodes t_0.Inner
  ) (ref02_Depth t_0) :=
  callC_le (T := tn) (c := bodyOf Tryz.f64) (o := ⟨[.lf (.i .i64)], []⟩) sigOk 100000 (by kernel_rfl) Tryz.func64 (by kernel_rfl) (by kernel_rfl) (by kernel_rfl)
theorem ref02_Size_le (t_0 : Trust) : Le (
    ref02_Size_l1 (addI .i64 ((List.length t_0.Nodes : Nat) : Int) ((List.length t_0.Inner : Nat) : Int)) t_0.Inner ((List.length t_0.Inner : Nat) : Int) 0 t_0.Threshold t_0.Nodes t_0.Inner
  ) (ref02_Size t_0) :=
  callC_le (T := tn) (c := bodyOf Tryz.f65) (o := ⟨[.lf (.i .i64)], []⟩) sigOk 100000 (by kernel_rfl) Tryz.func65 (by kernel_rfl) (by kernel_rfl) (by kernel_rfl)
theorem ref02_check_le (t_0 : Trust) : Le (
    bif (ltB t_0.Threshold 1) then
      some 4
    else
      bif (ltB (addI .i64 ((List.length t_0.Nodes : Nat) : Int) ((List.length t_0.Inner : Nat) : Int)) t_0.Threshold) then
        some 4
      else
        ref02_check_l1 t_0.Nodes ((List.length t_0.Nodes : Nat) : Int) 0 t_0.Threshold t_0.Nodes t_0.Inner
  ) (ref02_check t_0) :=
  callC_le (T := tn) (c := bodyOf Tryz.f66) (o := ⟨[.lf (.i .i64)], []⟩) sigOk 100000 (by kernel_rfl) Tryz.func66 (by kernel_rfl) (by kernel_rfl) (by kernel_rfl)
theorem mk_BentConfig_l1_le (a2 : Bool) (a4 : List (Int)) (a6 : Int) (a8 : List (Member)) (a10 : List (Member)) (a12 : List (Member)) : Le (
    bif (leB ((List.length a12 : Nat) : Int) 10) then
      capOk (List.length a12 + List.length ([(Member.mk false (Trust.mk 0 ([] : List (Int)) ([] : List (Trust))))] : List (Member))) <|
      mk_BentConfig_l2 a4 a6 a8 a10 (a12 ++ ([(Member.mk false (Trust.mk 0 ([] : List (Int)) ([] : List (Trust))))] : List (Member)))
    else
      some ((Config.mk a12), a4, a6)
  ) (mk_BentConfig_l1 a2 a4 a6 a8 a10 a12) :=
  goC_loopAt (T := tn) (o := ⟨[.ag .Config], [[.lf (.l .i64), .lf (.i .i64)]]⟩) sigOk 100000 (b := codeAt Tryz.f8 [1, 1, 1, 1, 0, 1, 0, 1, 1, 1, 1, 1, 1, 1, 1, 0, 0]) (by kernel_rfl) (by kernel_rfl)
theorem quorums_Parts_l1_le (a1 : List (Int)) (a3 : List (Int)) (a5 : Int) (a7 : Int) (a9 : List (Member)) : Le (
    bif (ltB a7 a5) then
      nth a3 a7 fun y0 =>
      Option.bind (quorums_reached (Config.mk a9) y0) fun x1 =>
      nth a1 y0 fun _ =>
      nthN a1 (Int.toNat y0) fun _y2 =>
      quorums_Parts_l1 (List.set a1 (Int.toNat y0) x1) a3 a5 (addI .i64 a7 1) a9
    else
      quorums_Parts_l2 a1 ([] : List (Int)) 0 ((List.length a1 : Nat) : Int) 0 a9
  ) (quorums_Parts_l1 a1 a3 a5 a7 a9) :=
  goC_loopAt (T := tn) (o := ⟨[.lf (.l .i64), .lf (.i .i64)], []⟩) sigOk 100000 (b := codeAt Tryz.f13 [1, 1, 1, 0, 1, 0, 0]) (by kernel_rfl) (by kernel_rfl)
theorem quorums_reached_le (c_0 : Config) (from_1 : Int) : Le (
    Option.bind (configuration_Declared c_0) fun x0 =>
    chk (0 ≤ from_1) <|
    quorums_reached_l1 x0 (shlI .i64 1 from_1) c_0.Members
  ) (quorums_reached c_0 from_1) :=
  callC_le (T := tn) (c := bodyOf Tryz.f37) (o := ⟨[.lf (.i .i64)], []⟩) sigOk 100000 (by kernel_rfl) Tryz.func37 (by kernel_rfl) (by kernel_rfl) (by kernel_rfl)
theorem mk_Ints_l1_le (a0 : List (Int)) (a2 : List (Int)) (a4 : Int) (a6 : Int) : Le (
    bif (ltB a6 a4) then
      nth a0 a6 fun y0 =>
      nth a2 a6 fun y1 =>
      bif (neB y0 y1) then
        some false
      else
        mk_Ints_l1 a0 a2 a4 (addI .i64 a6 1)
    else
      some true
  ) (mk_Ints_l1 a0 a2 a4 a6) :=
  goC_loopAt (T := tn) (o := ⟨[.lf .b], []⟩) sigOk 100000 (b := codeAt Tryz.f19 [1, 1, 0, 1, 0, 0]) (by kernel_rfl) (by kernel_rfl)
theorem mk_BentTrust_l1_le (a2 : Int) (a4 : List (Int)) (a6 : Int) (a8 : Int) (a10 : List (Int)) (a12 : List (Trust)) (a14 : Int) (a16 : List (Int)) (a18 : List (Trust)) (a20 : Int) (a22 : List (Int)) (a24 : List (Trust)) : Le (
    bif (ltB 0 a2) then
      mk_BentTrust_l3 (subI .i64 a2 1) a4 a6 a8 a10 a12 a14 a16 a18 1 ([] : List (Int)) ([(Trust.mk a20 a22 a24)] : List (Trust))
    else
      some ((Trust.mk a20 a22 a24), a4, a6)
  ) (mk_BentTrust_l1 a2 a4 a6 a8 a10 a12 a14 a16 a18 a20 a22 a24) :=
  goC_loopAt (T := tn) (o := ⟨[.ag .Trust], [[.lf (.l .i64), .lf (.i .i64)]]⟩) sigOk 100000 (b := codeAt Tryz.f28 [1, 1, 0, 1, 0, 1, 1, 1, 1, 1, 1, 1, 1, 1, 0, 1, 0, 1, 0, 0]) (by kernel_rfl) (by kernel_rfl)
theorem mk_BentTrust_l2_le (a2 : List (Trust)) (a4 : Int) (a6 : List (Int)) (a8 : Int) (a10 : Int) (a12 : List (Int)) (a14 : List (Trust)) (a16 : Int) (a18 : List (Int)) (a20 : List (Trust)) : Le (
    bif (ltB 0 a4) then
      capOk (List.length a2 + List.length ([(Trust.mk 1 ([(remI .i64 a4 10)] : List (Int)) ([] : List (Trust)))] : List (Trust))) <|
      mk_BentTrust_l2 (a2 ++ ([(Trust.mk 1 ([(remI .i64 a4 10)] : List (Int)) ([] : List (Trust)))] : List (Trust))) (subI .i64 a4 1) a6 a8 a10 a12 a14 a16 a18 a20
    else
      capOk (List.length a2 + List.length a14) <|
      some ((Trust.mk a10 a12 (a2 ++ a14)), a6, a8)
  ) (mk_BentTrust_l2 a2 a4 a6 a8 a10 a12 a14 a16 a18 a20) :=
  goC_loopAt (T := tn) (o := ⟨[.ag .Trust], [[.lf (.l .i64), .lf (.i .i64)]]⟩) sigOk 100000 (b := codeAt Tryz.f28 [1, 1, 0, 1, 0, 1, 1, 1, 1, 1, 1, 1, 1, 1, 1, 1, 0, 1, 0, 0]) (by kernel_rfl) (by kernel_rfl)
theorem configuration_Valid_l1_le (a1 : List (Member)) (a3 : Int) (a5 : Int) (a7 : List (Member)) : Le (
    bif (ltB a5 a3) then
      nth a1 a5 fun y0 =>
      Option.bind (configuration_member y0 ((List.length a7 : Nat) : Int)) fun x1 =>
      bif (neB x1 0) then
        some x1
      else
        configuration_Valid_l1 a1 a3 (addI .i64 a5 1) a7
    else
      some 0
  ) (configuration_Valid_l1 a1 a3 a5 a7) :=
  goC_loopAt (T := tn) (o := ⟨[.lf (.i .i64)], []⟩) sigOk 100000 (b := codeAt Tryz.f29 [1, 1, 0, 1, 0, 0]) (by kernel_rfl) (by kernel_rfl)
theorem configuration_member_le (m_0 : Member) (members_1 : Int) : Le (
    bif (!m_0.Declared) then
      Option.bind (configuration_blank m_0.Trust) fun x0 =>
      bif (!x0) then
        some 1
      else
        some 0
    else
      Option.bind (threshold_Valid m_0.Trust) fun x1 =>
      bif (neB x1 0) then
        some x1
      else
        chk (0 ≤ members_1) <|
        Option.bind (threshold_Uses m_0.Trust) fun x2 =>
        bif (leB (shlI .i64 1 members_1) x2) then
          some 5
        else
          some 0
  ) (configuration_member m_0 members_1) :=
  callC_le (T := tn) (c := bodyOf Tryz.f47) (o := ⟨[.lf (.i .i64)], []⟩) sigOk 100000 (by kernel_rfl) Tryz.func47 (by kernel_rfl) (by kernel_rfl) (by kernel_rfl)
theorem configuration_blank_le (t_0 : Trust) : Le (
    bif (eqB t_0.Threshold 0) then
      bif (eqB ((List.length t_0.Nodes : Nat) : Int) 0) then
        some (eqB ((List.length t_0.Inner : Nat) : Int) 0)
      else
        some false
    else
      some false
  ) (configuration_blank t_0) :=
  callC_le (T := tn) (c := bodyOf Tryz.f67) (o := ⟨[.lf .b], []⟩) sigOk 100000 (by kernel_rfl) Tryz.func67 (by kernel_rfl) (by kernel_rfl) (by kernel_rfl)
theorem threshold_Valid_le (t_0 : Trust) : Le (
    Option.bind (threshold_Depth t_0) fun x0 =>
    bif (ltB 4 x0) then
      some 3
    else
      Option.bind (threshold_Size t_0) fun x1 =>
      bif (ltB 200 x1) then
        some 3
      else
        Option.bind (threshold_level t_0) fun x2 =>
        some x2
  ) (threshold_Valid t_0) :=
  callC_le (T := tn) (c := bodyOf Tryz.f68) (o := ⟨[.lf (.i .i64)], []⟩) sigOk 100000 (by kernel_rfl) Tryz.func68 (by kernel_rfl) (by kernel_rfl) (by kernel_rfl)
theorem threshold_Uses_le (t_0 : Trust) : Le (
    threshold_Uses_l1 0 t_0.Nodes ((List.length t_0.Nodes : Nat) : Int) 0 t_0.Threshold t_0.Nodes t_0.Inner
  ) (threshold_Uses t_0) :=
  callC_le (T := tn) (c := bodyOf Tryz.f62) (o := ⟨[.lf (.i .i64)], []⟩) sigOk 100000 (by kernel_rfl) Tryz.func62 (by kernel_rfl) (by kernel_rfl) (by kernel_rfl)
theorem threshold_Depth_le (t_0 : Trust) : Le (
    threshold_Depth_l1 0 t_0.Inner ((List.length t_0.Inner : Nat) : Int) 0 t_0.Threshold t_0.Nodes t_0.Inner
  ) (threshold_Depth t_0) :=
  callC_le (T := tn) (c := bodyOf Tryz.f82) (o := ⟨[.lf (.i .i64)], []⟩) sigOk 100000 (by kernel_rfl) Tryz.func82 (by kernel_rfl) (by kernel_rfl) (by kernel_rfl)
theorem threshold_Size_le (t_0 : Trust) : Le (
    threshold_Size_l1 (addI .i64 ((List.length t_0.Nodes : Nat) : Int) ((List.length t_0.Inner : Nat) : Int)) t_0.Inner ((List.length t_0.Inner : Nat) : Int) 0 t_0.Threshold t_0.Nodes t_0.Inner
  ) (threshold_Size t_0) :=
  callC_le (T := tn) (c := bodyOf Tryz.f83) (o := ⟨[.lf (.i .i64)], []⟩) sigOk 100000 (by kernel_rfl) Tryz.func83 (by kernel_rfl) (by kernel_rfl) (by kernel_rfl)
theorem threshold_level_le (t_0 : Trust) : Le (
    bif (ltB t_0.Threshold 1) then
      some 4
    else
      bif (ltB (addI .i64 ((List.length t_0.Nodes : Nat) : Int) ((List.length t_0.Inner : Nat) : Int)) t_0.Threshold) then
        some 4
      else
        Option.bind (slices_ContainsFunc___int_int___threshold_level_1 t_0.Nodes) fun x0 =>
        bif x0 then
          some 5
        else
          Option.bind (nodeset_Of t_0.Nodes) fun x1 =>
          bif (neB x1.2 0) then
            some x1.2
          else
            threshold_level_l1 t_0.Inner ((List.length t_0.Inner : Nat) : Int) 0 t_0.Threshold t_0.Nodes t_0.Inner
  ) (threshold_level t_0) :=
  callC_le (T := tn) (c := bodyOf Tryz.f84) (o := ⟨[.lf (.i .i64)], []⟩) sigOk 100000 (by kernel_rfl) Tryz.func84 (by kernel_rfl) (by kernel_rfl) (by kernel_rfl)
theorem slices_ContainsFunc___int_int___threshold_level_1_le (s_0 : List (Int)) : Le (
    Option.bind (slices_IndexFunc___int_int___threshold_level_1 s_0) fun x0 =>
    some (leB 0 x0)
  ) (slices_ContainsFunc___int_int___threshold_level_1 s_0) :=
  callC_le (T := tn) (c := bodyOf Tryz.f54) (o := ⟨[.lf .b], []⟩) sigOk 100000 (by kernel_rfl) Tryz.func54 (by kernel_rfl) (by kernel_rfl) (by kernel_rfl)
theorem nodeset_Of_le (nodes_0 : List (Int)) : Le (
    nodeset_Of_l1 0 nodes_0 ((List.length nodes_0 : Nat) : Int) 0
  ) (nodeset_Of nodes_0) :=
  callC_le (T := tn) (c := bodyOf Tryz.f99) (o := ⟨[.lf (.i .i64), .lf (.i .i64)], []⟩) sigOk 100000 (by kernel_rfl) Tryz.func99 (by kernel_rfl) (by kernel_rfl) (by kernel_rfl)
theorem slices_IndexFunc___int_int___threshold_level_1_le (s_0 : List (Int)) : Le (
    slices_IndexFunc___int_int___threshold_level_1_l1 s_0 ((List.length s_0 : Nat) : Int) 0
  ) (slices_IndexFunc___int_int___threshold_level_1 s_0) :=
  callC_le (T := tn) (c := bodyOf Tryz.f69) (o := ⟨[.lf (.i .i64)], []⟩) sigOk 100000 (by kernel_rfl) Tryz.func69 (by kernel_rfl) (by kernel_rfl) (by kernel_rfl)
theorem quorums_all_l1_le (a1 : List (Int)) (a3 : Int) (a5 : Int) (a7 : List (Member)) : Le (
    bif (ltB a5 a3) then
      Option.bind (closure_Quorum (Config.mk a7) a5) fun x0 =>
      bif x0 then
        capOk (List.length a1 + List.length ([a5] : List (Int))) <|
        quorums_all_l1 (a1 ++ ([a5] : List (Int))) a3 (addI .i64 a5 1) a7
      else
        quorums_all_l1 a1 a3 (addI .i64 a5 1) a7
    else
      some a1
  ) (quorums_all_l1 a1 a3 a5 a7) :=
  goC_loopAt (T := tn) (o := ⟨[.lf (.l .i64)], []⟩) sigOk 100000 (b := codeAt Tryz.f31 [1, 1, 0, 1, 0, 0]) (by kernel_rfl) (by kernel_rfl)
theorem closure_Quorum_le (c_0 : Config) (s_1 : Int) : Le (
    Option.bind (nodeset_Valid s_1) fun x0 =>
    bif (!x0) then
      some false
    else
      bif (eqB s_1 0) then
        some false
      else
        Option.bind (closure_inside c_0 s_1) fun x1 =>
        bif (!x1) then
          some false
        else
          Option.bind (closure_unhappy c_0 s_1) fun x2 =>
          some (!x2.2)
  ) (closure_Quorum c_0 s_1) :=
  callC_le (T := tn) (c := bodyOf Tryz.f56) (o := ⟨[.lf .b], []⟩) sigOk 100000 (by kernel_rfl) Tryz.func56 (by kernel_rfl) (by kernel_rfl) (by kernel_rfl)
theorem nodeset_Valid_le (s_0 : Int) : Le (
    Option.bind (nodeset_below s_0 10) fun x0 =>
    some x0
  ) (nodeset_Valid s_0) :=
  callC_le (T := tn) (c := bodyOf Tryz.f51) (o := ⟨[.lf .b], []⟩) sigOk 100000 (by kernel_rfl) Tryz.func51 (by kernel_rfl) (by kernel_rfl) (by kernel_rfl)
theorem closure_inside_le (c_0 : Config) (s_1 : Int) : Le (
    Option.bind (configuration_Declared c_0) fun x0 =>
    some (eqB (andNotI .i64 s_1 x0) 0)
  ) (closure_inside c_0 s_1) :=
  callC_le (T := tn) (c := bodyOf Tryz.f76) (o := ⟨[.lf .b], []⟩) sigOk 100000 (by kernel_rfl) Tryz.func76 (by kernel_rfl) (by kernel_rfl) (by kernel_rfl)
theorem closure_unhappy_le (c_0 : Config) (s_1 : Int) : Le (
    Option.bind (nodeset_Nodes s_1) fun x0 =>
    closure_unhappy_l1 s_1 x0 ((List.length x0 : Nat) : Int) 0 c_0.Members
  ) (closure_unhappy c_0 s_1) :=
  callC_le (T := tn) (c := bodyOf Tryz.f77) (o := ⟨[.lf (.i .i64), .lf .b], []⟩) sigOk 100000 (by kernel_rfl) Tryz.func77 (by kernel_rfl) (by kernel_rfl) (by kernel_rfl)
theorem nodeset_below_le (s_0 : Int) (n_1 : Int) : Le (
    bif (leB 0 s_0) then
      chk (0 ≤ n_1) <|
      some (ltB s_0 (shlI .i64 1 n_1))
    else
      some false
  ) (nodeset_below s_0 n_1) :=
  callC_le (T := tn) (c := bodyOf Tryz.f70) (o := ⟨[.lf .b], []⟩) sigOk 100000 (by kernel_rfl) Tryz.func70 (by kernel_rfl) (by kernel_rfl) (by kernel_rfl)
theorem nodeset_Least_l1_le (a0 : List (Int)) (a2 : List (Int)) (a4 : Int) (a6 : Int) : Le (
    bif (ltB a6 a4) then
      nth a2 a6 fun y0 =>
      Option.bind (slices_ContainsFunc___int_int___nodeset_Least_2 a0 y0) fun x1 =>
      bif (!x1.1) then
        capOk (List.length a0 + List.length ([x1.2] : List (Int))) <|
        nodeset_Least_l2 (a0 ++ ([x1.2] : List (Int))) a2 a4 (addI .i64 a6 1)
      else
        nodeset_Least_l2 a0 a2 a4 (addI .i64 a6 1)
    else
      some a0
  ) (nodeset_Least_l1 a0 a2 a4 a6) :=
  goC_loopAt (T := tn) (o := ⟨[.lf (.l .i64)], []⟩) sigOk 100000 (b := codeAt Tryz.f30 [1, 1, 1, 1, 0, 1, 0, 0]) (by kernel_rfl) (by kernel_rfl)
theorem slices_ContainsFunc___int_int___nodeset_Least_2_le (s_0 : List (Int)) (h0 : Int) : Le (
    Option.bind (slices_IndexFunc___int_int___nodeset_Least_2 s_0 h0) fun x0 =>
    some ((leB 0 x0.1), x0.2)
  ) (slices_ContainsFunc___int_int___nodeset_Least_2 s_0 h0) :=
  callC_le (T := tn) (c := bodyOf Tryz.f54) (o := ⟨[.lf .b], [[.lf (.i .i64)]]⟩) sigOk 100000 (by kernel_rfl) Tryz.func54 (by kernel_rfl) (by kernel_rfl) (by kernel_rfl)
theorem slices_IndexFunc___int_int___nodeset_Least_2_le (s_0 : List (Int)) (h0 : Int) : Le (
    slices_IndexFunc___int_int___nodeset_Least_2_l1 s_0 ((List.length s_0 : Nat) : Int) 0 h0
  ) (slices_IndexFunc___int_int___nodeset_Least_2 s_0 h0) :=
  callC_le (T := tn) (c := bodyOf Tryz.f69) (o := ⟨[.lf (.i .i64)], [[.lf (.i .i64)]]⟩) sigOk 100000 (by kernel_rfl) Tryz.func69 (by kernel_rfl) (by kernel_rfl) (by kernel_rfl)
theorem configuration_Declared_l1_le (a0 : Int) (a2 : List (Member)) (a4 : Int) (a6 : Int) (a8 : List (Member)) : Le (
    bif (ltB a6 a4) then
      nth a2 a6 fun y0 =>
      bif y0.Declared then
        bif (ltB a6 10) then
          chk (0 ≤ a6) <|
          configuration_Declared_l1 (orI .i64 a0 (shlI .i64 1 a6)) a2 a4 (addI .i64 a6 1) a8
        else
          configuration_Declared_l1 a0 a2 a4 (addI .i64 a6 1) a8
      else
        configuration_Declared_l1 a0 a2 a4 (addI .i64 a6 1) a8
    else
      some a0
  ) (configuration_Declared_l1 a0 a2 a4 a6 a8) :=
  goC_loopAt (T := tn) (o := ⟨[.lf (.i .i64)], []⟩) sigOk 100000 (b := codeAt Tryz.f36 [1, 1, 0, 1, 0, 0]) (by kernel_rfl) (by kernel_rfl)
end Go.Proofs.YtflmdbdigoeclaaGreat
