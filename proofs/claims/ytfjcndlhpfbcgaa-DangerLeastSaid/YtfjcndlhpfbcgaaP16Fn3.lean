/- What the functions come to, printed by a program and checked by the kernel. -/
import Derived.Test.YtfjcndlhpfbcgaaP16Df
namespace Go.Proofs.Ytfjcndlhpfbcgaa
open Go Go.Ab
set_option maxRecDepth 100000
theorem cmp_isNaN_int__le (x_0 : Int) : Le (
    some (neB x_0 x_0)
  ) (cmp_isNaN_int_ x_0) :=
  callC_le (T := tn) (c := bodyOf Try.f91) (o := ⟨[.lf .b], []⟩) sigOk 100000 (by kernel_rfl) Try.func91 (by kernel_rfl) (by kernel_rfl) (by kernel_rfl)
theorem threshold_Uses_l1_le (a1 : Int) (a3 : List (Int)) (a5 : Int) (a7 : Int) (a9 : Int) (a11 : List (Int)) (a13 : List (Trust)) : Le (
    bif (ltB a7 a5) then
      nth a3 a7 fun y0 =>
      Option.bind (threshold_node y0) fun x1 =>
      bif x1 then
        chk (0 ≤ y0) <|
        threshold_Uses_l1 (orI .i64 a1 (shlI .i64 1 y0)) a3 a5 (addI .i64 a7 1) a9 a11 a13
      else
        threshold_Uses_l1 a1 a3 a5 (addI .i64 a7 1) a9 a11 a13
    else
      threshold_Uses_l2 a1 a13 ((List.length a13 : Nat) : Int) 0 a9 a11 a13
  ) (threshold_Uses_l1 a1 a3 a5 a7 a9 a11 a13) :=
  goC_loopAt (T := tn) (o := ⟨[.lf (.i .i64)], []⟩) sigOk 100000 (b := codeAt Try.f54 [1, 1, 0, 1, 0, 0]) (by kernel_rfl) (by kernel_rfl)
theorem threshold_node_le (k_0 : Int) : Le (
    bif (leB 0 k_0) then
      some (ltB k_0 10)
    else
      some false
  ) (threshold_node k_0) :=
  callC_le (T := tn) (c := bodyOf Try.f75) (o := ⟨[.lf .b], []⟩) sigOk 100000 (by kernel_rfl) Try.func75 (by kernel_rfl) (by kernel_rfl) (by kernel_rfl)
theorem threshold_Depth_l1_le (a0 : Int) (a2 : List (Trust)) (a4 : Int) (a6 : Int) (a8 : Int) (a10 : List (Int)) (a12 : List (Trust)) : Le (
    bif (ltB a6 a4) then
      nth a2 a6 fun y0 =>
      Option.bind (threshold_Depth y0) fun x1 =>
      threshold_Depth_l1 (if x1 > a0 then x1 else a0) a2 a4 (addI .i64 a6 1) a8 a10 a12
    else
      some (addI .i64 a0 1)
  ) (threshold_Depth_l1 a0 a2 a4 a6 a8 a10 a12) :=
  goC_loopAt (T := tn) (o := ⟨[.lf (.i .i64)], []⟩) sigOk 100000 (b := codeAt Try.f72 [1, 1, 0, 1, 0, 0]) (by kernel_rfl) (by kernel_rfl)
theorem threshold_Size_l1_le (a0 : Int) (a2 : List (Trust)) (a4 : Int) (a6 : Int) (a8 : Int) (a10 : List (Int)) (a12 : List (Trust)) : Le (
    bif (ltB a6 a4) then
      nth a2 a6 fun y0 =>
      Option.bind (threshold_Size y0) fun x1 =>
      threshold_Size_l1 (addI .i64 a0 x1) a2 a4 (addI .i64 a6 1) a8 a10 a12
    else
      some a0
  ) (threshold_Size_l1 a0 a2 a4 a6 a8 a10 a12) :=
  goC_loopAt (T := tn) (o := ⟨[.lf (.i .i64)], []⟩) sigOk 100000 (b := codeAt Try.f73 [1, 1, 0, 1, 0, 0]) (by kernel_rfl) (by kernel_rfl)
theorem threshold_level_l1_le (a0 : List (Trust)) (a2 : Int) (a4 : Int) (a6 : Int) (a8 : List (Int)) (a10 : List (Trust)) : Le (
    bif (ltB a4 a2) then
      nth a0 a4 fun y0 =>
      Option.bind (threshold_level y0) fun x1 =>
      bif (neB x1 0) then
        some x1
      else
        threshold_level_l1 a0 a2 (addI .i64 a4 1) a6 a8 a10
    else
      some 0
  ) (threshold_level_l1 a0 a2 a4 a6 a8 a10) :=
  goC_loopAt (T := tn) (o := ⟨[.lf (.i .i64)], []⟩) sigOk 100000 (b := codeAt Try.f74 [1, 1, 1, 1, 0, 1, 0, 0]) (by kernel_rfl) (by kernel_rfl)
theorem nodeset_Of_l1_le (a0 : Int) (a2 : List (Int)) (a4 : Int) (a6 : Int) : Le (
    bif (ltB a6 a4) then
      nth a2 a6 fun y0 =>
      bif (ltB y0 0) then
        some (0, 5)
      else
        bif (leB 10 y0) then
          some (0, 5)
        else
          Option.bind (nodeset_Has a0 y0) fun x1 =>
          bif x1 then
            some (0, 6)
          else
            chk (0 ≤ y0) <|
            nodeset_Of_l1 (orI .i64 a0 (shlI .i64 1 y0)) a2 a4 (addI .i64 a6 1)
    else
      some (a0, 0)
  ) (nodeset_Of_l1 a0 a2 a4 a6) :=
  goC_loopAt (T := tn) (o := ⟨[.lf (.i .i64), .lf (.i .i64)], []⟩) sigOk 100000 (b := codeAt Try.f95 [1, 1, 0, 1, 0, 0]) (by kernel_rfl) (by kernel_rfl)
theorem slices_IndexFunc___int_int___threshold_level_1_l1_le (a0 : List (Int)) (a3 : Int) (a5 : Int) : Le (
    bif (ltB a5 a3) then
      nth a0 a5 fun y0 =>
      Option.bind (threshold_level_1 y0) fun x1 =>
      bif x1 then
        some a5
      else
        slices_IndexFunc___int_int___threshold_level_1_l1 a0 a3 (addI .i64 a5 1)
    else
      some (-1)
  ) (slices_IndexFunc___int_int___threshold_level_1_l1 a0 a3 a5) :=
  goC_loopAt (T := tn) (o := ⟨[.lf (.i .i64)], []⟩) sigOk 100000 (b := codeAt Try.f67 [1, 0, 1, 0, 0]) (by kernel_rfl) (by kernel_rfl)
theorem threshold_level_1_le (k_0 : Int) : Le (
    Option.bind (threshold_node k_0) fun x0 =>
    some (!x0)
  ) (threshold_level_1 k_0) :=
  callC_le (T := tn) (c := bodyOf Try.f94) (o := ⟨[.lf .b], []⟩) sigOk 100000 (by kernel_rfl) Try.func94 (by kernel_rfl) (by kernel_rfl) (by kernel_rfl)
theorem closure_eliminate_l1_le (a0 : Int) (a3 : List (Int)) (a5 : List (Member)) : Le (
    Option.bind (closure_unhappy (Config.mk a5) a0) fun x0 =>
    bif (!x0.2) then
      some (a0, a3)
    else
      capOk (List.length a3 + List.length ([x0.1] : List (Int))) <|
      chk (0 ≤ x0.1) <|
      closure_eliminate_l1 (andNotI .i64 a0 (shlI .i64 1 x0.1)) (a3 ++ ([x0.1] : List (Int))) a5
  ) (closure_eliminate_l1 a0 a3 a5) :=
  goC_loopAt (T := tn) (o := ⟨[.lf (.i .i64), .lf (.l .i64)], []⟩) sigOk 100000 (b := codeAt Try.f55 [1, 1, 1, 1, 0, 0]) (by kernel_rfl) (by kernel_rfl)
theorem configuration_Declared_l1_le (a0 : Int) (a2 : List (Member)) (a4 : Int) (a6 : Int) (a8 : List (Member)) : Le (
    bif (ltB a6 a4) then
      nth a2 a6 fun y0 =>
      bif y0.Declared then
        bif (ltB a6 10) then
          chk (0 ≤ a6) <|
          configuration_Declared_l1 (orI .i64 a0 (shlI .i64 1 a6)) a2 a4 (addI .i64 a6 1) a8
        else
          configuration_Declared_l1 a0 a2 a4 (addI .i64 a6 1) a8
      else
        configuration_Declared_l1 a0 a2 a4 (addI .i64 a6 1) a8
    else
      some a0
  ) (configuration_Declared_l1 a0 a2 a4 a6 a8) :=
  goC_loopAt (T := tn) (o := ⟨[.lf (.i .i64)], []⟩) sigOk 100000 (b := codeAt Try.f76 [1, 1, 0, 1, 0, 0]) (by kernel_rfl) (by kernel_rfl)
theorem mk_In_l1_le (a0 : Int) (a2 : List (Int)) (a4 : Int) (a6 : Int) : Le (
    bif (ltB a6 a4) then
      nth a2 a6 fun y0 =>
      bif (eqB a0 y0) then
        some true
      else
        mk_In_l1 a0 a2 a4 (addI .i64 a6 1)
    else
      some false
  ) (mk_In_l1 a0 a2 a4 a6) :=
  goC_loopAt (T := tn) (o := ⟨[.lf .b], []⟩) sigOk 100000 (b := codeAt Try.f14 [1, 0, 1, 0, 0]) (by kernel_rfl) (by kernel_rfl)
theorem deletion_copied_l1_le (a2 : List (Trust)) (a4 : Int) (a6 : Int) (a8 : Int) (a10 : List (Int)) (a12 : List (Trust)) (a14 : Int) (a16 : List (Int)) (a18 : List (Trust)) (a20 : Int) (a22 : List (Int)) (a24 : List (Trust)) : Le (
    bif (ltB a6 a4) then
      nth a2 a6 fun y0 =>
      Option.bind (deletion_copied y0) fun x1 =>
      capOk (List.length a24 + List.length ([(Trust.mk x1.Threshold x1.Nodes x1.Inner)] : List (Trust))) <|
      deletion_copied_l1 a2 a4 (addI .i64 a6 1) a8 a10 a12 a14 a16 a18 a20 a22 (a24 ++ ([(Trust.mk x1.Threshold x1.Nodes x1.Inner)] : List (Trust)))
    else
      some (Trust.mk a20 a22 a24)
  ) (deletion_copied_l1 a2 a4 a6 a8 a10 a12 a14 a16 a18 a20 a22 a24) :=
  goC_loopAt (T := tn) (o := ⟨[.ag .Trust], []⟩) sigOk 100000 (b := codeAt Try.f51 [1, 1, 0, 1, 0, 0]) (by kernel_rfl) (by kernel_rfl)
theorem deletion_level_l1_le (a0 : Int) (a5 : List (Int)) (a7 : Int) (a9 : Int) (a11 : Int) (a13 : List (Int)) (a15 : List (Trust)) (a17 : Int) (a19 : List (Int)) (a21 : List (Trust)) (a23 : Int) (a25 : List (Int)) (a27 : List (Trust)) : Le (
    bif (ltB a9 a7) then
      nth a5 a9 fun y0 =>
      Option.bind (nodeset_Has a0 y0) fun x1 =>
      bif x1 then
        Option.bind (deletion_lowered a23 1) fun x2 =>
        deletion_level_l1 a0 a5 a7 (addI .i64 a9 1) a11 a13 a15 a17 a19 a21 x2 a25 a27
      else
        capOk (List.length a25 + List.length ([y0] : List (Int))) <|
        deletion_level_l1 a0 a5 a7 (addI .i64 a9 1) a11 a13 a15 a17 a19 a21 a23 (a25 ++ ([y0] : List (Int))) a27
    else
      deletion_level_l2 a0 a15 ((List.length a15 : Nat) : Int) 0 a11 a13 a15 a17 a19 a21 a23 a25 a27
  ) (deletion_level_l1 a0 a5 a7 a9 a11 a13 a15 a17 a19 a21 a23 a25 a27) :=
  goC_loopAt (T := tn) (o := ⟨[.ag .Trust], []⟩) sigOk 100000 (b := codeAt Try.f71 [1, 1, 0, 1, 0, 0]) (by kernel_rfl) (by kernel_rfl)
theorem deletion_lowered_le (threshold_0 : Int) (by_1 : Int) : Le (
    some (subI .i64 (if by_1 > threshold_0 then by_1 else threshold_0) by_1)
  ) (deletion_lowered threshold_0 by_1) :=
  callC_le (T := tn) (c := bodyOf Try.f93) (o := ⟨[.lf (.i .i64)], []⟩) sigOk 100000 (by kernel_rfl) Try.func93 (by kernel_rfl) (by kernel_rfl) (by kernel_rfl)
theorem nodeset_Next_l1_le (a0 : Int) (a2 : Int) (a4 : Int) : Le (
    Option.bind (nodeset_below a4 a0) fun x0 =>
    bif x0 then
      Option.bind (nodeset_Size a4) fun x1 =>
      bif (eqB x1 a2) then
        some (a4, true)
      else
        nodeset_Next_l1 a0 a2 (addI .i64 a4 1)
    else
      bif (eqB a2 a0) then
        some (0, false)
      else
        chk (0 ≤ (addI .i64 a2 1)) <|
        some ((subI .i64 (shlI .i64 1 (addI .i64 a2 1)) 1), true)
  ) (nodeset_Next_l1 a0 a2 a4) :=
  goC_loopAt (T := tn) (o := ⟨[.lf (.i .i64), .lf .b], []⟩) sigOk 100000 (b := codeAt Try.f68 [1, 1, 1, 0, 1, 0, 0]) (by kernel_rfl) (by kernel_rfl)
theorem closure_unhappy_l1_le (a0 : Int) (a3 : List (Int)) (a5 : Int) (a7 : Int) (a9 : List (Member)) : Le (
    bif (ltB a7 a5) then
      nth a3 a7 fun y0 =>
      Option.bind (closure_content (Config.mk a9) y0 a0) fun x1 =>
      bif (!x1) then
        some (y0, true)
      else
        closure_unhappy_l1 a0 a3 a5 (addI .i64 a7 1) a9
    else
      some (0, false)
  ) (closure_unhappy_l1 a0 a3 a5 a7 a9) :=
  goC_loopAt (T := tn) (o := ⟨[.lf (.i .i64), .lf .b], []⟩) sigOk 100000 (b := codeAt Try.f77 [1, 0, 1, 0, 0]) (by kernel_rfl) (by kernel_rfl)
theorem closure_content_le (c_0 : Config) (k_1 : Int) (s_2 : Int) : Le (
    nth c_0.Members k_1 fun y0 =>
    Option.bind (threshold_Satisfied y0.Trust s_2) fun x1 =>
    some x1
  ) (closure_content c_0 k_1 s_2) :=
  callC_le (T := tn) (c := bodyOf Try.f97) (o := ⟨[.lf .b], []⟩) sigOk 100000 (by kernel_rfl) Try.func97 (by kernel_rfl) (by kernel_rfl) (by kernel_rfl)
theorem threshold_Satisfied_le (t_0 : Trust) (s_1 : Int) : Le (
    Option.bind (nodeset_Valid s_1) fun x0 =>
    bif (!x0) then
      some false
    else
      threshold_Satisfied_l1 s_1 0 t_0.Nodes ((List.length t_0.Nodes : Nat) : Int) 0 t_0.Threshold t_0.Nodes t_0.Inner
  ) (threshold_Satisfied t_0 s_1) :=
  callC_le (T := tn) (c := bodyOf Try.f104) (o := ⟨[.lf .b], []⟩) sigOk 100000 (by kernel_rfl) Try.func104 (by kernel_rfl) (by kernel_rfl) (by kernel_rfl)
theorem nodeset_Nodes_l1_le (a0 : Int) (a2 : List (Int)) (a4 : Int) : Le (
    bif (ltB a4 10) then
      Option.bind (nodeset_Has a0 a4) fun x0 =>
      bif x0 then
        capOk (List.length a2 + List.length ([a4] : List (Int))) <|
        nodeset_Nodes_l1 a0 (a2 ++ ([a4] : List (Int))) (addI .i64 a4 1)
      else
        nodeset_Nodes_l1 a0 a2 (addI .i64 a4 1)
    else
      some a2
  ) (nodeset_Nodes_l1 a0 a2 a4) :=
  goC_loopAt (T := tn) (o := ⟨[.lf (.l .i64)], []⟩) sigOk 100000 (b := codeAt Try.f96 [1, 1, 0, 1, 0, 0]) (by kernel_rfl) (by kernel_rfl)
theorem law16_DangerUniform_l3_le (a0 : Int) (a2 : Int) (a4 : List (Int)) (a6 : List (Int)) (a8 : Int) (a10 : Int) (a12 : Int) (a14 : Int) (a16 : List (Int)) (a18 : Int) (a20 : Int) (a22 : List (Member)) : Le (
    bif (ltB a20 a18) then
      nth a16 a20 fun y0 =>
      Option.bind (ref01_Size y0) fun x1 =>
      bif (neB x1 (addI .i64 (subI .i64 a0 a2) 1)) then
        some false
      else
        law16_DangerUniform_l3 a0 a2 a4 a6 a8 a10 a12 a14 a16 a18 (addI .i64 a20 1) a22
    else
      bif (eqB a2 a0) then
        bif (eqB ((List.length a4 : Nat) : Int) 0) then
          bif (eqB a8 a0) then
            bif (eqB ((List.length a6 : Nat) : Int) a12) then
              Option.bind (law16_awake) fun x2 =>
              some x2
            else
              some false
          else
            some false
        else
          some false
      else
        bif (eqB ((List.length a4 : Nat) : Int) a10) then
          bif (eqB ((List.length a6 : Nat) : Int) a12) then
            bif (eqB a8 (subI .i64 a14 1)) then
              Option.bind (law16_awake) fun x3 =>
              some x3
            else
              some false
          else
            some false
        else
          some false
  ) (law16_DangerUniform_l3 a0 a2 a4 a6 a8 a10 a12 a14 a16 a18 a20 a22) :=
  goC_loopAt (T := tn) (o := ⟨[.lf .b], []⟩) sigOk 100000 (b := codeAt Try.f3 [1, 1, 1, 1, 1, 1, 1, 1, 1, 1, 1, 1, 0, 1, 0, 0]) (by kernel_rfl) (by kernel_rfl)
theorem mk_group_l2_le (a1 : Int) (a3 : Int) (a6 : List (Trust)) (a8 : Int) (a11 : Int) (a13 : List (Int)) (a15 : Int) (a17 : Int) (a19 : List (Int)) (a21 : List (Trust)) (a23 : Int) (a25 : List (Int)) (a27 : List (Trust)) : Le (
    bif (ltB a11 a1) then
      capOk (List.length a25 + List.length ([a11] : List (Int))) <|
      mk_group_l2 a1 a3 a6 a8 (addI .i64 a11 3) a13 a15 a17 a19 a21 a23 (a25 ++ ([a11] : List (Int))) a27
    else
      bif (ltB 0 ((List.length a25 : Nat) : Int)) then
        Option.bind (mk_Tape_Range 1 ((List.length a25 : Nat) : Int) a13 a15) fun x0 =>
        capOk (List.length a6 + List.length ([(Trust.mk x0.1 a25 a27)] : List (Trust))) <|
        mk_group_l1 a1 a3 (a6 ++ ([(Trust.mk x0.1 a25 a27)] : List (Trust))) (addI .i64 a8 1) x0.2.1 x0.2.2 a17 a19 a21
      else
        mk_group_l1 a1 a3 a6 (addI .i64 a8 1) a13 a15 a17 a19 a21
  ) (mk_group_l2 a1 a3 a6 a8 a11 a13 a15 a17 a19 a21 a23 a25 a27) :=
  goC_loopAt (T := tn) (o := ⟨[.ag .Trust], [[.lf (.l .i64), .lf (.i .i64)]]⟩) sigOk 100000 (b := codeAt Try.f27 [1, 1, 0, 1, 0, 0, 1, 0, 0, 1, 0, 1, 0, 0]) (by kernel_rfl) (by kernel_rfl)
theorem mk_trust_l2_le (a1 : Int) (a3 : Int) (a7 : Int) (a9 : List (Int)) (a11 : Int) (a13 : Int) (a15 : List (Int)) (a17 : List (Trust)) (a19 : Int) (a21 : List (Int)) (a23 : List (Trust)) : Le (
    bif (ltB 0 a7) then
      Option.bind (mk_trust a1 (subI .i64 a3 1) a9 a11) fun x0 =>
      capOk (List.length a23 + List.length ([(Trust.mk x0.1.Threshold x0.1.Nodes x0.1.Inner)] : List (Trust))) <|
      mk_trust_l2 a1 a3 (subI .i64 a7 1) x0.2.1 x0.2.2 a13 a15 a17 a19 a21 (a23 ++ ([(Trust.mk x0.1.Threshold x0.1.Nodes x0.1.Inner)] : List (Trust)))
    else
      bif (ltB 0 ((List.length a23 : Nat) : Int)) then
        Option.bind (mk_Tape_N 3 a9 a11) fun x1 =>
        bif (eqB x1.1 0) then
          Option.bind (mk_Tape_Range 1 (addI .i64 ((List.length ([] : List (Int)) : Nat) : Int) ((List.length a23 : Nat) : Int)) x1.2.1 x1.2.2) fun x2 =>
          some ((Trust.mk x2.1 ([] : List (Int)) a23), x2.2.1, x2.2.2)
        else
          Option.bind (mk_Tape_Range 1 (addI .i64 ((List.length a21 : Nat) : Int) ((List.length a23 : Nat) : Int)) x1.2.1 x1.2.2) fun x3 =>
          some ((Trust.mk x3.1 a21 a23), x3.2.1, x3.2.2)
      else
        Option.bind (mk_Tape_Range 1 (addI .i64 ((List.length a21 : Nat) : Int) ((List.length a23 : Nat) : Int)) a9 a11) fun x4 =>
        some ((Trust.mk x4.1 a21 a23), x4.2.1, x4.2.2)
  ) (mk_trust_l2 a1 a3 a7 a9 a11 a13 a15 a17 a19 a21 a23) :=
  goC_loopAt (T := tn) (o := ⟨[.ag .Trust], [[.lf (.l .i64), .lf (.i .i64)]]⟩) sigOk 100000 (b := codeAt Try.f37 [1, 1, 1, 1, 0, 1, 0, 0, 1, 0, 0]) (by kernel_rfl) (by kernel_rfl)
theorem mk_Tape_Order_l2_le (a1 : List (Int)) (a3 : Int) (a5 : List (Int)) (a7 : Int) : Le (
    bif (ltB 0 a3) then
      Option.bind (mk_Tape_N (addI .i64 a3 1) a5 a7) fun x0 =>
      nth a1 x0.1 fun _ =>
      nth a1 a3 fun _ =>
      nthN a1 (Int.toNat x0.1) fun y1 =>
      nthN a1 (Int.toNat a3) fun y2 =>
      nth a1 a3 fun _ =>
      nthN a1 (Int.toNat a3) fun _y3 =>
      nth (List.set a1 (Int.toNat a3) y1) x0.1 fun _ =>
      nthN (List.set a1 (Int.toNat a3) y1) (Int.toNat x0.1) fun _y4 =>
      mk_Tape_Order_l2 (List.set (List.set a1 (Int.toNat a3) y1) (Int.toNat x0.1) y2) (subI .i64 a3 1) x0.2.1 x0.2.2
    else
      some (a1, a5, a7)
  ) (mk_Tape_Order_l2 a1 a3 a5 a7) :=
  goC_loopAt (T := tn) (o := ⟨[.lf (.l .i64)], [[.lf (.l .i64), .lf (.i .i64)]]⟩) sigOk 100000 (b := codeAt Try.f57 [1, 1, 1, 0, 1, 0, 0]) (by kernel_rfl) (by kernel_rfl)
theorem ref02_check_l2_le (a0 : List (Trust)) (a2 : Int) (a4 : Int) (a6 : Int) (a8 : List (Int)) (a10 : List (Trust)) : Le (
    bif (ltB a4 a2) then
      nth a0 a4 fun y0 =>
      Option.bind (ref02_check y0) fun x1 =>
      bif (neB x1 0) then
        some x1
      else
        ref02_check_l2 a0 a2 (addI .i64 a4 1) a6 a8 a10
    else
      some 0
  ) (ref02_check_l2 a0 a2 a4 a6 a8 a10) :=
  goC_loopAt (T := tn) (o := ⟨[.lf (.i .i64)], []⟩) sigOk 100000 (b := codeAt Try.f60 [1, 1, 1, 1, 0, 1, 0, 0]) (by kernel_rfl) (by kernel_rfl)
theorem ref01_Of_l1_le (a0 : Int) (a2 : List (Int)) (a4 : Int) (a6 : Int) : Le (
    bif (ltB a6 a4) then
      nth a2 a6 fun y0 =>
      bif (ltB y0 0) then
        some (0, 5)
      else
        bif (leB 10 y0) then
          some (0, 5)
        else
          Option.bind (ref01_Has a0 y0) fun x1 =>
          bif x1 then
            some (0, 6)
          else
            chk (0 ≤ y0) <|
            ref01_Of_l1 (orI .i64 a0 (shlI .i64 1 y0)) a2 a4 (addI .i64 a6 1)
    else
      some (a0, 0)
  ) (ref01_Of_l1 a0 a2 a4 a6) :=
  goC_loopAt (T := tn) (o := ⟨[.lf (.i .i64), .lf (.i .i64)], []⟩) sigOk 100000 (b := codeAt Try.f80 [1, 1, 0, 1, 0, 0]) (by kernel_rfl) (by kernel_rfl)
theorem ref01_Has_le (s_0 : Int) (node_1 : Int) : Le (
    Option.bind (ref01_Valid s_0) fun x0 =>
    bif x0 then
      bif (leB 0 node_1) then
        bif (ltB node_1 10) then
          chk (0 ≤ node_1) <|
          some (eqB (andI .i64 (shrI .i64 s_0 node_1) 1) 1)
        else
          some false
      else
        some false
    else
      some false
  ) (ref01_Has s_0 node_1) :=
  callC_le (T := tn) (c := bodyOf Try.f98) (o := ⟨[.lf .b], []⟩) sigOk 100000 (by kernel_rfl) Try.func98 (by kernel_rfl) (by kernel_rfl) (by kernel_rfl)
theorem law16_same_l3_le (a0 : Int) (a5 : Int) (a7 : List (Member)) (a9 : Int) (a11 : List (Int)) (a13 : List (Trust)) (a15 : List (Member)) : Le (
    bif (ltB a5 a0) then
      capOk (List.length a15 + List.length ([(Member.mk true (Trust.mk a9 a11 a13))] : List (Member))) <|
      law16_same_l3 a0 (addI .i64 a5 1) a7 a9 a11 a13 (a15 ++ ([(Member.mk true (Trust.mk a9 a11 a13))] : List (Member)))
    else
      some (Config.mk a15)
  ) (law16_same_l3 a0 a5 a7 a9 a11 a13 a15) :=
  goC_loopAt (T := tn) (o := ⟨[.ag .Config], []⟩) sigOk 100000 (b := codeAt Try.f5 [1, 1, 1, 1, 0, 1, 0, 0]) (by kernel_rfl) (by kernel_rfl)
theorem nodeset_Least_l2_le (a0 : List (Int)) (a2 : List (Int)) (a4 : Int) (a6 : Int) : Le (
    bif (ltB a6 a4) then
      nth a2 a6 fun y0 =>
      Option.bind (slices_ContainsFunc___int_int___nodeset_Least_2 a0 y0) fun x1 =>
      bif (!x1.1) then
        capOk (List.length a0 + List.length ([x1.2] : List (Int))) <|
        nodeset_Least_l2 (a0 ++ ([x1.2] : List (Int))) a2 a4 (addI .i64 a6 1)
      else
        nodeset_Least_l2 a0 a2 a4 (addI .i64 a6 1)
    else
      some a0
  ) (nodeset_Least_l2 a0 a2 a4 a6) :=
  goC_loopAt (T := tn) (o := ⟨[.lf (.l .i64)], []⟩) sigOk 100000 (b := codeAt Try.f31 [1, 1, 1, 1, 0, 1, 0, 0]) (by kernel_rfl) (by kernel_rfl)
theorem slices_IndexFunc___int_int___nodeset_Least_2_l1_le (a0 : List (Int)) (a3 : Int) (a5 : Int) (a7 : Int) : Le (
    bif (ltB a5 a3) then
      nth a0 a5 fun y0 =>
      Option.bind (nodeset_Least_2 y0 a7) fun x1 =>
      bif x1.1 then
        some (a5, x1.2)
      else
        slices_IndexFunc___int_int___nodeset_Least_2_l1 a0 a3 (addI .i64 a5 1) x1.2
    else
      some ((-1), a7)
  ) (slices_IndexFunc___int_int___nodeset_Least_2_l1 a0 a3 a5 a7) :=
  goC_loopAt (T := tn) (o := ⟨[.lf (.i .i64)], [[.lf (.i .i64)]]⟩) sigOk 100000 (b := codeAt Try.f67 [1, 0, 1, 0, 0]) (by kernel_rfl) (by kernel_rfl)
theorem nodeset_Least_2_le (t_0 : Int) (h0 : Int) : Le (
    some ((eqB (andNotI .i64 t_0 h0) 0), h0)
  ) (nodeset_Least_2 t_0 h0) :=
  callC_le (T := tn) (c := bodyOf Try.f47) (o := ⟨[.lf .b], [[.lf (.i .i64)]]⟩) sigOk 100000 (by kernel_rfl) Try.func47 (by kernel_rfl) (by kernel_rfl) (by kernel_rfl)
theorem slices_insertionSortCmpFunc_int__r__nodeset_Compare_l1_le (a1 : Int) (a3 : Int) (a6 : Int) (a8 : List (Int)) : Le (
    bif (ltB a6 a3) then
      slices_insertionSortCmpFunc_int__r__nodeset_Compare_l2 a1 a3 a6 a6 a8
    else
      some a8
  ) (slices_insertionSortCmpFunc_int__r__nodeset_Compare_l1 a1 a3 a6 a8) :=
  goC_loopAt (T := tn) (o := ⟨[], [[.own .i64 false]]⟩) sigOk 100000 (b := codeAt Try.f81 [1, 0, 0]) (by kernel_rfl) (by kernel_rfl)
theorem slices_heapSortCmpFunc_int__r__nodeset_Compare_l1_le (a2 : Int) (a4 : Int) (a6 : Int) (a8 : Int) (a10 : List (Int)) : Le (
    bif (leB 0 a8) then
      Option.bind (slices_siftDownCmpFunc_int__r__nodeset_Compare a8 a6 a2 a10) fun x0 =>
      slices_heapSortCmpFunc_int__r__nodeset_Compare_l1 a2 a4 a6 (subI .i64 a8 1) x0
    else
      slices_heapSortCmpFunc_int__r__nodeset_Compare_l2 a2 a4 (subI .i64 a6 1) a10
  ) (slices_heapSortCmpFunc_int__r__nodeset_Compare_l1 a2 a4 a6 a8 a10) :=
  goC_loopAt (T := tn) (o := ⟨[], [[.own .i64 false]]⟩) sigOk 100000 (b := codeAt Try.f82 [1, 1, 1, 0, 1, 0, 0]) (by kernel_rfl) (by kernel_rfl)
theorem slices_siftDownCmpFunc_int__r__nodeset_Compare_le (lo_1 : Int) (hi_2 : Int) (first_3 : Int) (h0 : List (Int)) : Le (
    slices_siftDownCmpFunc_int__r__nodeset_Compare_l1 hi_2 first_3 lo_1 h0
  ) (slices_siftDownCmpFunc_int__r__nodeset_Compare lo_1 hi_2 first_3 h0) :=
  callC_le (T := tn) (c := bodyOf Try.f99) (o := ⟨[], [[.own .i64 false]]⟩) sigOk 100000 (by kernel_rfl) Try.func99 (by kernel_rfl) (by kernel_rfl) (by kernel_rfl)
theorem slices_breakPatternsCmpFunc_int__r__nodeset_Compare_l1_le (a1 : Int) (a3 : Int) (a6 : Int) (a8 : Int) (a10 : List (Int)) (a12 : Int) : Le (
    bif (leB a8 (addI .i64 (addI .i64 a1 (mulI .i64 (quoI .i64 a3 4) 2)) 1)) then
      Option.bind (slices_xorshift_Next a12) fun x0 =>
      bif (leB a3 (IntKind.wrap .i64 (andI .u64 x0.1 (subI .u64 a6 1)))) then
        nth a10 (addI .i64 a1 (subI .i64 (IntKind.wrap .i64 (andI .u64 x0.1 (subI .u64 a6 1))) a3)) fun _ =>
        nth a10 a8 fun _ =>
        nthN a10 (Int.toNat (addI .i64 a1 (subI .i64 (IntKind.wrap .i64 (andI .u64 x0.1 (subI .u64 a6 1))) a3))) fun y1 =>
        nthN a10 (Int.toNat a8) fun y2 =>
        nth a10 a8 fun _ =>
        nthN a10 (Int.toNat a8) fun _y3 =>
        nth (List.set a10 (Int.toNat a8) y1) (addI .i64 a1 (subI .i64 (IntKind.wrap .i64 (andI .u64 x0.1 (subI .u64 a6 1))) a3)) fun _ =>
        nthN (List.set a10 (Int.toNat a8) y1) (Int.toNat (addI .i64 a1 (subI .i64 (IntKind.wrap .i64 (andI .u64 x0.1 (subI .u64 a6 1))) a3))) fun _y4 =>
        slices_breakPatternsCmpFunc_int__r__nodeset_Compare_l1 a1 a3 a6 (addI .i64 a8 1) (List.set (List.set a10 (Int.toNat a8) y1) (Int.toNat (addI .i64 a1 (subI .i64 (IntKind.wrap .i64 (andI .u64 x0.1 (subI .u64 a6 1))) a3))) y2) x0.2
      else
        nth a10 (addI .i64 a1 (IntKind.wrap .i64 (andI .u64 x0.1 (subI .u64 a6 1)))) fun _ =>
        nth a10 a8 fun _ =>
        nthN a10 (Int.toNat (addI .i64 a1 (IntKind.wrap .i64 (andI .u64 x0.1 (subI .u64 a6 1))))) fun y5 =>
        nthN a10 (Int.toNat a8) fun y6 =>
        nth a10 a8 fun _ =>
        nthN a10 (Int.toNat a8) fun _y7 =>
        nth (List.set a10 (Int.toNat a8) y5) (addI .i64 a1 (IntKind.wrap .i64 (andI .u64 x0.1 (subI .u64 a6 1)))) fun _ =>
        nthN (List.set a10 (Int.toNat a8) y5) (Int.toNat (addI .i64 a1 (IntKind.wrap .i64 (andI .u64 x0.1 (subI .u64 a6 1))))) fun _y8 =>
        slices_breakPatternsCmpFunc_int__r__nodeset_Compare_l1 a1 a3 a6 (addI .i64 a8 1) (List.set (List.set a10 (Int.toNat a8) y5) (Int.toNat (addI .i64 a1 (IntKind.wrap .i64 (andI .u64 x0.1 (subI .u64 a6 1))))) y6) x0.2
    else
      some a10
  ) (slices_breakPatternsCmpFunc_int__r__nodeset_Compare_l1 a1 a3 a6 a8 a10 a12) :=
  goC_loopAt (T := tn) (o := ⟨[], [[.own .i64 false]]⟩) sigOk 100000 (b := codeAt Try.f83 [1, 1, 0, 1, 1, 1, 0, 0]) (by kernel_rfl) (by kernel_rfl)
theorem slices_xorshift_Next_le (h0 : Int) : Le (
    some ((xorI .u64 (xorI .u64 (xorI .u64 h0 (shlI .u64 h0 13)) (shrI .u64 (xorI .u64 h0 (shlI .u64 h0 13)) 7)) (shlI .u64 (xorI .u64 (xorI .u64 h0 (shlI .u64 h0 13)) (shrI .u64 (xorI .u64 h0 (shlI .u64 h0 13)) 7)) 17)), (xorI .u64 (xorI .u64 (xorI .u64 h0 (shlI .u64 h0 13)) (shrI .u64 (xorI .u64 h0 (shlI .u64 h0 13)) 7)) (shlI .u64 (xorI .u64 (xorI .u64 h0 (shlI .u64 h0 13)) (shrI .u64 (xorI .u64 h0 (shlI .u64 h0 13)) 7)) 17)))
  ) (slices_xorshift_Next h0) :=
  callC_le (T := tn) (c := bodyOf Try.f101) (o := ⟨[.lf (.i .u64)], [[.lf (.i .u64)]]⟩) sigOk 100000 (by kernel_rfl) Try.func101 (by kernel_rfl) (by kernel_rfl) (by kernel_rfl)
theorem slices_reverseRangeCmpFunc_int__r__nodeset_Compare_l1_le (a1 : Int) (a3 : Int) (a5 : List (Int)) : Le (
    bif (ltB a1 a3) then
      nth a5 a3 fun _ =>
      nth a5 a1 fun _ =>
      nthN a5 (Int.toNat a3) fun y0 =>
      nthN a5 (Int.toNat a1) fun y1 =>
      nth a5 a1 fun _ =>
      nthN a5 (Int.toNat a1) fun _y2 =>
      nth (List.set a5 (Int.toNat a1) y0) a3 fun _ =>
      nthN (List.set a5 (Int.toNat a1) y0) (Int.toNat a3) fun _y3 =>
      slices_reverseRangeCmpFunc_int__r__nodeset_Compare_l1 (addI .i64 a1 1) (subI .i64 a3 1) (List.set (List.set a5 (Int.toNat a1) y0) (Int.toNat a3) y1)
    else
      some a5
  ) (slices_reverseRangeCmpFunc_int__r__nodeset_Compare_l1 a1 a3 a5) :=
  goC_loopAt (T := tn) (o := ⟨[], [[.own .i64 false]]⟩) sigOk 100000 (b := codeAt Try.f85 [1, 1, 0, 0]) (by kernel_rfl) (by kernel_rfl)
theorem slices_partialInsertionSortCmpFunc_int__r__nodeset_Compare_l1_le (a1 : Int) (a3 : Int) (a6 : Int) (a8 : Int) (a10 : List (Int)) : Le (
    bif (ltB a8 5) then
      slices_partialInsertionSortCmpFunc_int__r__nodeset_Compare_l2 a1 a3 a6 a8 true a10
    else
      some (false, a10)
  ) (slices_partialInsertionSortCmpFunc_int__r__nodeset_Compare_l1 a1 a3 a6 a8 a10) :=
  goC_loopAt (T := tn) (o := ⟨[.lf .b], [[.own .i64 false]]⟩) sigOk 100000 (b := codeAt Try.f86 [1, 1, 0, 1, 0, 0]) (by kernel_rfl) (by kernel_rfl)
theorem slices_partitionEqualCmpFunc_int__r__nodeset_Compare_l1_le (a1 : Int) (a4 : Int) (a6 : Int) (a8 : List (Int)) : Le (
    slices_partitionEqualCmpFunc_int__r__nodeset_Compare_l2 a1 a4 a6 a8
  ) (slices_partitionEqualCmpFunc_int__r__nodeset_Compare_l1 a1 a4 a6 a8) :=
  goC_loopAt (T := tn) (o := ⟨[.lf (.i .i64)], [[.own .i64 false]]⟩) sigOk 100000 (b := codeAt Try.f87 [1, 1, 1, 0, 0, 0]) (by kernel_rfl) (by kernel_rfl)
theorem slices_partitionCmpFunc_int__r__nodeset_Compare_l1_le (a1 : Int) (a4 : Int) (a6 : Int) (a8 : List (Int)) : Le (
    bif (leB a4 a6) then
      nth a8 a4 fun _ =>
      nth a8 a1 fun _ =>
      nthN a8 (Int.toNat a4) fun y0 =>
      nthN a8 (Int.toNat a1) fun y1 =>
      Option.bind (nodeset_Compare y0 y1) fun x2 =>
      bif (ltB x2 0) then
        slices_partitionCmpFunc_int__r__nodeset_Compare_l1 a1 (addI .i64 a4 1) a6 a8
      else
        slices_partitionCmpFunc_int__r__nodeset_Compare_l2 a1 a4 a6 false a8
    else
      slices_partitionCmpFunc_int__r__nodeset_Compare_l2 a1 a4 a6 false a8
  ) (slices_partitionCmpFunc_int__r__nodeset_Compare_l1 a1 a4 a6 a8) :=
  goC_loopAt (T := tn) (o := ⟨[.lf (.i .i64), .lf .b], [[.own .i64 false]]⟩) sigOk 100000 (b := codeAt Try.f88 [1, 1, 1, 0, 0, 0]) (by kernel_rfl) (by kernel_rfl)
end Go.Proofs.Ytfjcndlhpfbcgaa
