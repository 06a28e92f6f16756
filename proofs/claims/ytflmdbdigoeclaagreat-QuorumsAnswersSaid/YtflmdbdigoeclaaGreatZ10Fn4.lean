/- What the functions come to, printed by a program and checked by the kernel. -/
import Derived.Test.YtflmdbdigoeclaaGreatZ10Df
namespace Go.Proofs.YtflmdbdigoeclaaGreat
open Go Go.Ab
set_option maxRecDepth 100000
theorem ref10_Parts_l2_le (a1 : List (Int)) (a3 : Int) (a5 : Int) (a7 : Int) (a9 : List (Int)) (a11 : Int) (a13 : Int) (a15 : List (Int)) (a17 : Int) (a19 : Int) (a21 : List (Member)) : Le (
    bif (ltB a19 a17) then
      nth a15 a19 fun y0 =>
      Option.bind (ref10_reach (Config.mk a21) y0) fun x1 =>
      Option.bind (ref01_Has x1 a5) fun x2 =>
      bif x2 then
        chk (0 ≤ y0) <|
        ref10_Parts_l2 a1 a3 a5 (orI .i64 a7 (shlI .i64 1 y0)) a9 a11 a13 a15 a17 (addI .i64 a19 1) a21
      else
        ref10_Parts_l2 a1 a3 a5 a7 a9 a11 a13 a15 a17 (addI .i64 a19 1) a21
    else
      capOk (List.length a1 + List.length ([a7] : List (Int))) <|
      ref10_Parts_l1 (a1 ++ ([a7] : List (Int))) (orI .i64 a3 a7) a9 a11 (addI .i64 a13 1) a21
  ) (ref10_Parts_l2 a1 a3 a5 a7 a9 a11 a13 a15 a17 a19 a21) :=
  goC_loopAt (T := tn) (o := ⟨[.lf (.l .i64), .lf (.i .i64)], []⟩) sigOk 100000 (b := codeAt Tryz.f14 [1, 1, 1, 1, 0, 1, 0, 0, 1, 1, 0, 0, 1, 1, 1, 0, 1, 0, 0]) (by kernel_rfl) (by kernel_rfl)
theorem ref10_reach_l1_le (a1 : Int) (a3 : Bool) (a5 : List (Member)) : Le (
    bif a3 then
      Option.bind (ref01_Nodes a1) fun x0 =>
      ref10_reach_l2 a1 false x0 ((List.length x0 : Nat) : Int) 0 a5
    else
      some a1
  ) (ref10_reach_l1 a1 a3 a5) :=
  goC_loopAt (T := tn) (o := ⟨[.lf (.i .i64)], []⟩) sigOk 100000 (b := codeAt Tryz.f42 [1, 1, 0, 1, 0, 0]) (by kernel_rfl) (by kernel_rfl)
theorem quorums_Symmetric_l2_le (a1 : List (Int)) (a3 : Int) (a5 : Int) (a7 : Int) (a9 : List (Int)) (a11 : Int) (a13 : Int) (a15 : List (Member)) : Le (
    bif (ltB a13 a11) then
      nth a9 a13 fun y0 =>
      nth a1 0 fun y1 =>
      nth a15 y0 fun y2 =>
      nth a15 y1 fun y3 =>
      Option.bind (threshold_Satisfied y2.Trust a3) fun x4 =>
      Option.bind (threshold_Satisfied y3.Trust a3) fun x5 =>
      bif (!(x4 == x5)) then
        some (false, 0)
      else
        quorums_Symmetric_l2 a1 a3 a5 a7 a9 a11 (addI .i64 a13 1) a15
    else
      quorums_Symmetric_l1 a1 a5 (addI .i64 a7 1) a15
  ) (quorums_Symmetric_l2 a1 a3 a5 a7 a9 a11 a13 a15) :=
  goC_loopAt (T := tn) (o := ⟨[.lf .b, .lf (.i .i64)], []⟩) sigOk 100000 (b := codeAt Tryz.f17 [1, 1, 1, 0, 1, 0, 0, 1, 1, 0, 0, 1, 1, 0, 0]) (by kernel_rfl) (by kernel_rfl)
theorem ref10_Symmetric_l2_le (a1 : List (Int)) (a3 : Int) (a5 : Int) (a7 : List (Int)) (a9 : Int) (a11 : Int) (a13 : List (Member)) : Le (
    chk (0 ≤ ((List.length a13 : Nat) : Int)) <|
    bif (ltB a5 (shlI .i64 1 ((List.length a13 : Nat) : Int))) then
      nth a1 0 fun y0 =>
      nth a13 a3 fun y1 =>
      nth a13 y0 fun y2 =>
      Option.bind (ref02_Satisfied y1.Trust a5) fun x3 =>
      Option.bind (ref02_Satisfied y2.Trust a5) fun x4 =>
      bif (!(x3 == x4)) then
        some (false, 0)
      else
        ref10_Symmetric_l2 a1 a3 (addI .i64 a5 1) a7 a9 a11 a13
    else
      ref10_Symmetric_l1 a1 a7 a9 (addI .i64 a11 1) a13
  ) (ref10_Symmetric_l2 a1 a3 a5 a7 a9 a11 a13) :=
  goC_loopAt (T := tn) (o := ⟨[.lf .b, .lf (.i .i64)], []⟩) sigOk 100000 (b := codeAt Tryz.f18 [1, 1, 1, 0, 1, 0, 0, 1, 1, 0, 0, 1, 1, 0, 0]) (by kernel_rfl) (by kernel_rfl)
theorem ref02_Satisfied_le (t_0 : Trust) (s_1 : Int) : Le (
    Option.bind (ref01_Valid s_1) fun x0 =>
    bif (!x0) then
      some false
    else
      ref02_Satisfied_l1 s_1 0 t_0.Nodes ((List.length t_0.Nodes : Nat) : Int) 0 t_0.Threshold t_0.Nodes t_0.Inner
  ) (ref02_Satisfied t_0 s_1) :=
  callC_le (T := tn) (c := bodyOf Tryz.f44) (o := ⟨[.lf .b], []⟩) sigOk 100000 (by kernel_rfl) Tryz.func44 (by kernel_rfl) (by kernel_rfl) (by kernel_rfl)
theorem ref02_Same_l1_le (a2 : Int) (a4 : Int) (a6 : Int) (a8 : List (Int)) (a10 : List (Trust)) (a12 : Int) (a14 : List (Int)) (a16 : List (Trust)) : Le (
    bif (ltB a4 a2) then
      nth a10 a4 fun y0 =>
      nth a16 a4 fun y1 =>
      Option.bind (ref02_Same y0 y1) fun x2 =>
      bif (!x2) then
        some false
      else
        ref02_Same_l1 a2 (addI .i64 a4 1) a6 a8 a10 a12 a14 a16
    else
      some true
  ) (ref02_Same_l1 a2 a4 a6 a8 a10 a12 a14 a16) :=
  goC_loopAt (T := tn) (o := ⟨[.lf .b], []⟩) sigOk 100000 (b := codeAt Tryz.f57 [1, 1, 0, 1, 0, 0]) (by kernel_rfl) (by kernel_rfl)
theorem ref02_Uses_l1_le (a1 : Int) (a3 : List (Int)) (a5 : Int) (a7 : Int) (a9 : Int) (a11 : List (Int)) (a13 : List (Trust)) : Le (
    bif (ltB a7 a5) then
      nth a3 a7 fun y0 =>
      bif (leB 0 y0) then
        bif (ltB y0 10) then
          chk (0 ≤ y0) <|
          ref02_Uses_l1 (orI .i64 a1 (shlI .i64 1 y0)) a3 a5 (addI .i64 a7 1) a9 a11 a13
        else
          ref02_Uses_l1 a1 a3 a5 (addI .i64 a7 1) a9 a11 a13
      else
        ref02_Uses_l1 a1 a3 a5 (addI .i64 a7 1) a9 a11 a13
    else
      ref02_Uses_l2 a1 a13 ((List.length a13 : Nat) : Int) 0 a9 a11 a13
  ) (ref02_Uses_l1 a1 a3 a5 a7 a9 a11 a13) :=
  goC_loopAt (T := tn) (o := ⟨[.lf (.i .i64)], []⟩) sigOk 100000 (b := codeAt Tryz.f58 [1, 1, 0, 1, 0, 0]) (by kernel_rfl) (by kernel_rfl)
theorem ref01_Same_l1_le (a0 : List (Int)) (a2 : List (Int)) (a4 : Int) (a6 : Int) : Le (
    bif (ltB a6 a4) then
      nth a0 a6 fun y0 =>
      nth a2 a6 fun y1 =>
      bif (neB y0 y1) then
        some false
      else
        ref01_Same_l1 a0 a2 a4 (addI .i64 a6 1)
    else
      some true
  ) (ref01_Same_l1 a0 a2 a4 a6) :=
  goC_loopAt (T := tn) (o := ⟨[.lf .b], []⟩) sigOk 100000 (b := codeAt Tryz.f78 [1, 1, 0, 1, 0, 0]) (by kernel_rfl) (by kernel_rfl)
theorem ref09_Quorum_l1_le (a0 : Int) (a3 : List (Int)) (a5 : Int) (a7 : Int) (a9 : List (Member)) : Le (
    bif (ltB a7 a5) then
      nth a3 a7 fun y0 =>
      nth a9 y0 fun y1 =>
      Option.bind (ref02_Satisfied y1.Trust a0) fun x2 =>
      bif (!x2) then
        some false
      else
        ref09_Quorum_l1 a0 a3 a5 (addI .i64 a7 1) a9
    else
      some true
  ) (ref09_Quorum_l1 a0 a3 a5 a7 a9) :=
  goC_loopAt (T := tn) (o := ⟨[.lf .b], []⟩) sigOk 100000 (b := codeAt Tryz.f61 [1, 1, 0, 1, 0, 0]) (by kernel_rfl) (by kernel_rfl)
theorem ref01_Least_l2_le (a0 : List (Int)) (a2 : List (Int)) (a4 : Int) (a6 : Bool) (a8 : List (Int)) (a10 : Int) (a12 : Int) (a14 : List (Int)) (a16 : Int) (a18 : Int) : Le (
    bif (ltB a18 a16) then
      nth a14 a18 fun y0 =>
      bif a6 then
        Option.bind (ref01_Valid y0) fun x1 =>
        bif x1 then
          bif (neB y0 a4) then
            ref01_Least_l2 a0 a2 a4 (!(eqB (andI .i64 y0 a4) y0)) a8 a10 a12 a14 a16 (addI .i64 a18 1)
          else
            ref01_Least_l2 a0 a2 a4 (!false) a8 a10 a12 a14 a16 (addI .i64 a18 1)
        else
          ref01_Least_l2 a0 a2 a4 (!false) a8 a10 a12 a14 a16 (addI .i64 a18 1)
      else
        ref01_Least_l2 a0 a2 a4 false a8 a10 a12 a14 a16 (addI .i64 a18 1)
    else
      bif (!a6) then
        ref01_Least_l1 a0 a2 a8 a10 (addI .i64 a12 1)
      else
        ref01_Least_l3 a0 a2 a4 0 false a8 a10 a12 ((List.length a2 : Nat) : Int) 0
  ) (ref01_Least_l2 a0 a2 a4 a6 a8 a10 a12 a14 a16 a18) :=
  goC_loopAt (T := tn) (o := ⟨[.lf (.l .i64)], []⟩) sigOk 100000 (b := codeAt Tryz.f33 [1, 1, 0, 1, 0, 0, 1, 1, 0, 0, 1, 1, 0, 1, 0, 0]) (by kernel_rfl) (by kernel_rfl)
theorem mk_group_l2_le (a1 : Int) (a3 : Int) (a6 : List (Trust)) (a8 : Int) (a11 : Int) (a13 : List (Int)) (a15 : Int) (a17 : Int) (a19 : List (Int)) (a21 : List (Trust)) (a23 : Int) (a25 : List (Int)) (a27 : List (Trust)) : Le (
    bif (ltB a11 a1) then
      capOk (List.length a25 + List.length ([a11] : List (Int))) <|
      mk_group_l2 a1 a3 a6 a8 (addI .i64 a11 3) a13 a15 a17 a19 a21 a23 (a25 ++ ([a11] : List (Int))) a27
    else
      bif (ltB 0 ((List.length a25 : Nat) : Int)) then
        Option.bind (mk_Tape_Range 1 ((List.length a25 : Nat) : Int) a13 a15) fun x0 =>
        capOk (List.length a6 + List.length ([(Trust.mk x0.1 a25 a27)] : List (Trust))) <|
        mk_group_l1 a1 a3 (a6 ++ ([(Trust.mk x0.1 a25 a27)] : List (Trust))) (addI .i64 a8 1) x0.2.1 x0.2.2 a17 a19 a21
      else
        mk_group_l1 a1 a3 a6 (addI .i64 a8 1) a13 a15 a17 a19 a21
  ) (mk_group_l2 a1 a3 a6 a8 a11 a13 a15 a17 a19 a21 a23 a25 a27) :=
  goC_loopAt (T := tn) (o := ⟨[.ag .Trust], [[.lf (.l .i64), .lf (.i .i64)]]⟩) sigOk 100000 (b := codeAt Tryz.f26 [1, 1, 0, 1, 0, 0, 1, 0, 0, 1, 0, 1, 0, 0]) (by kernel_rfl) (by kernel_rfl)
theorem mk_trust_l2_le (a1 : Int) (a3 : Int) (a7 : Int) (a9 : List (Int)) (a11 : Int) (a13 : Int) (a15 : List (Int)) (a17 : List (Trust)) (a19 : Int) (a21 : List (Int)) (a23 : List (Trust)) : Le (
    bif (ltB 0 a7) then
      Option.bind (mk_trust a1 (subI .i64 a3 1) a9 a11) fun x0 =>
      capOk (List.length a23 + List.length ([(Trust.mk x0.1.Threshold x0.1.Nodes x0.1.Inner)] : List (Trust))) <|
      mk_trust_l2 a1 a3 (subI .i64 a7 1) x0.2.1 x0.2.2 a13 a15 a17 a19 a21 (a23 ++ ([(Trust.mk x0.1.Threshold x0.1.Nodes x0.1.Inner)] : List (Trust)))
    else
      bif (ltB 0 ((List.length a23 : Nat) : Int)) then
        Option.bind (mk_Tape_N 3 a9 a11) fun x1 =>
        bif (eqB x1.1 0) then
          Option.bind (mk_Tape_Range 1 (addI .i64 ((List.length ([] : List (Int)) : Nat) : Int) ((List.length a23 : Nat) : Int)) x1.2.1 x1.2.2) fun x2 =>
          some ((Trust.mk x2.1 ([] : List (Int)) a23), x2.2.1, x2.2.2)
        else
          Option.bind (mk_Tape_Range 1 (addI .i64 ((List.length a21 : Nat) : Int) ((List.length a23 : Nat) : Int)) x1.2.1 x1.2.2) fun x3 =>
          some ((Trust.mk x3.1 a21 a23), x3.2.1, x3.2.2)
      else
        Option.bind (mk_Tape_Range 1 (addI .i64 ((List.length a21 : Nat) : Int) ((List.length a23 : Nat) : Int)) a9 a11) fun x4 =>
        some ((Trust.mk x4.1 a21 a23), x4.2.1, x4.2.2)
  ) (mk_trust_l2 a1 a3 a7 a9 a11 a13 a15 a17 a19 a21 a23) :=
  goC_loopAt (T := tn) (o := ⟨[.ag .Trust], [[.lf (.l .i64), .lf (.i .i64)]]⟩) sigOk 100000 (b := codeAt Tryz.f45 [1, 1, 1, 1, 0, 1, 0, 0, 1, 0, 0]) (by kernel_rfl) (by kernel_rfl)
theorem mk_Tape_Order_l2_le (a1 : List (Int)) (a3 : Int) (a5 : List (Int)) (a7 : Int) : Le (
    bif (ltB 0 a3) then
      Option.bind (mk_Tape_N (addI .i64 a3 1) a5 a7) fun x0 =>
      nth a1 x0.1 fun _ =>
      nth a1 a3 fun _ =>
      nthN a1 (Int.toNat x0.1) fun y1 =>
      nthN a1 (Int.toNat a3) fun y2 =>
      nth a1 a3 fun _ =>
      nthN a1 (Int.toNat a3) fun _y3 =>
      nth (List.set a1 (Int.toNat a3) y1) x0.1 fun _ =>
      nthN (List.set a1 (Int.toNat a3) y1) (Int.toNat x0.1) fun _y4 =>
      mk_Tape_Order_l2 (List.set (List.set a1 (Int.toNat a3) y1) (Int.toNat x0.1) y2) (subI .i64 a3 1) x0.2.1 x0.2.2
    else
      some (a1, a5, a7)
  ) (mk_Tape_Order_l2 a1 a3 a5 a7) :=
  goC_loopAt (T := tn) (o := ⟨[.lf (.l .i64)], [[.lf (.l .i64), .lf (.i .i64)]]⟩) sigOk 100000 (b := codeAt Tryz.f63 [1, 1, 1, 0, 1, 0, 0]) (by kernel_rfl) (by kernel_rfl)
theorem ref02_check_l2_le (a0 : List (Trust)) (a2 : Int) (a4 : Int) (a6 : Int) (a8 : List (Int)) (a10 : List (Trust)) : Le (
    bif (ltB a4 a2) then
      nth a0 a4 fun y0 =>
      Option.bind (ref02_check y0) fun x1 =>
      bif (neB x1 0) then
        some x1
      else
        ref02_check_l2 a0 a2 (addI .i64 a4 1) a6 a8 a10
    else
      some 0
  ) (ref02_check_l2 a0 a2 a4 a6 a8 a10) :=
  goC_loopAt (T := tn) (o := ⟨[.lf (.i .i64)], []⟩) sigOk 100000 (b := codeAt Tryz.f66 [1, 1, 1, 1, 0, 1, 0, 0]) (by kernel_rfl) (by kernel_rfl)
theorem ref01_Of_l1_le (a0 : Int) (a2 : List (Int)) (a4 : Int) (a6 : Int) : Le (
    bif (ltB a6 a4) then
      nth a2 a6 fun y0 =>
      bif (ltB y0 0) then
        some (0, 5)
      else
        bif (leB 10 y0) then
          some (0, 5)
        else
          Option.bind (ref01_Has a0 y0) fun x1 =>
          bif x1 then
            some (0, 6)
          else
            chk (0 ≤ y0) <|
            ref01_Of_l1 (orI .i64 a0 (shlI .i64 1 y0)) a2 a4 (addI .i64 a6 1)
    else
      some (a0, 0)
  ) (ref01_Of_l1 a0 a2 a4 a6) :=
  goC_loopAt (T := tn) (o := ⟨[.lf (.i .i64), .lf (.i .i64)], []⟩) sigOk 100000 (b := codeAt Tryz.f81 [1, 1, 0, 1, 0, 0]) (by kernel_rfl) (by kernel_rfl)
theorem quorums_Parts_l3_le (a0 : List (Int)) (a2 : List (Int)) (a4 : Int) (a6 : Int) (a8 : Int) (a11 : Int) (a13 : Int) (a15 : List (Int)) (a17 : Int) (a19 : Int) (a21 : List (Member)) : Le (
    bif (ltB a19 a17) then
      nth a15 a19 fun y0 =>
      nth a0 y0 fun _ =>
      nthN a0 (Int.toNat y0) fun y1 =>
      Option.bind (nodeset_Has y1 a6) fun x2 =>
      bif x2 then
        chk (0 ≤ y0) <|
        quorums_Parts_l3 a0 a2 a4 a6 (orI .i64 a8 (shlI .i64 1 y0)) a11 a13 a15 a17 (addI .i64 a19 1) a21
      else
        quorums_Parts_l3 a0 a2 a4 a6 a8 a11 a13 a15 a17 (addI .i64 a19 1) a21
    else
      capOk (List.length a2 + List.length ([a8] : List (Int))) <|
      quorums_Parts_l2 a0 (a2 ++ ([a8] : List (Int))) (orI .i64 a4 a8) a11 (addI .i64 a13 1) a21
  ) (quorums_Parts_l3 a0 a2 a4 a6 a8 a11 a13 a15 a17 a19 a21) :=
  goC_loopAt (T := tn) (o := ⟨[.lf (.l .i64), .lf (.i .i64)], []⟩) sigOk 100000 (b := codeAt Tryz.f13 [1, 1, 1, 1, 1, 1, 0, 1, 0, 0, 1, 1, 0, 0, 1, 1, 1, 0, 1, 0, 0]) (by kernel_rfl) (by kernel_rfl)
theorem quorums_reached_l2_le (a1 : Int) (a3 : Int) (a5 : Int) (a7 : List (Int)) (a9 : Int) (a11 : Int) (a13 : List (Member)) : Le (
    bif (ltB a11 a9) then
      nth a7 a11 fun y0 =>
      nth a13 y0 fun y1 =>
      Option.bind (threshold_Uses y1.Trust) fun x2 =>
      quorums_reached_l2 a1 a3 (orI .i64 a5 (andI .i64 x2 a1)) a7 a9 (addI .i64 a11 1) a13
    else
      bif (eqB a5 a3) then
        some a3
      else
        quorums_reached_l1 a1 a5 a13
  ) (quorums_reached_l2 a1 a3 a5 a7 a9 a11 a13) :=
  goC_loopAt (T := tn) (o := ⟨[.lf (.i .i64)], []⟩) sigOk 100000 (b := codeAt Tryz.f37 [1, 1, 1, 0, 0, 0, 1, 0, 1, 0, 0]) (by kernel_rfl) (by kernel_rfl)
theorem threshold_Uses_l2_le (a0 : Int) (a2 : List (Trust)) (a4 : Int) (a6 : Int) (a8 : Int) (a10 : List (Int)) (a12 : List (Trust)) : Le (
    bif (ltB a6 a4) then
      nth a2 a6 fun y0 =>
      Option.bind (threshold_Uses y0) fun x1 =>
      threshold_Uses_l2 (orI .i64 a0 x1) a2 a4 (addI .i64 a6 1) a8 a10 a12
    else
      some a0
  ) (threshold_Uses_l2 a0 a2 a4 a6 a8 a10 a12) :=
  goC_loopAt (T := tn) (o := ⟨[.lf (.i .i64)], []⟩) sigOk 100000 (b := codeAt Tryz.f62 [1, 1, 1, 0, 1, 0, 0]) (by kernel_rfl) (by kernel_rfl)
theorem threshold_Satisfied_l1_le (a0 : Int) (a3 : Int) (a5 : List (Int)) (a7 : Int) (a9 : Int) (a11 : Int) (a13 : List (Int)) (a15 : List (Trust)) : Le (
    bif (ltB a9 a7) then
      nth a5 a9 fun y0 =>
      Option.bind (nodeset_Has a0 y0) fun x1 =>
      bif x1 then
        threshold_Satisfied_l1 a0 (addI .i64 a3 1) a5 a7 (addI .i64 a9 1) a11 a13 a15
      else
        threshold_Satisfied_l1 a0 a3 a5 a7 (addI .i64 a9 1) a11 a13 a15
    else
      threshold_Satisfied_l2 a0 a3 a15 ((List.length a15 : Nat) : Int) 0 a11 a13 a15
  ) (threshold_Satisfied_l1 a0 a3 a5 a7 a9 a11 a13 a15) :=
  goC_loopAt (T := tn) (o := ⟨[.lf .b], []⟩) sigOk 100000 (b := codeAt Tryz.f43 [1, 1, 1, 0, 1, 0, 0]) (by kernel_rfl) (by kernel_rfl)
theorem slices_insertionSortCmpFunc_int__r__nodeset_Compare_l2_le (a1 : Int) (a3 : Int) (a6 : Int) (a8 : Int) (a10 : List (Int)) : Le (
    bif (ltB a1 a8) then
      nth a10 a8 fun _ =>
      nth a10 (subI .i64 a8 1) fun _ =>
      nthN a10 (Int.toNat a8) fun y0 =>
      nthN a10 (Int.toNat (subI .i64 a8 1)) fun y1 =>
      Option.bind (nodeset_Compare y0 y1) fun x2 =>
      bif (ltB x2 0) then
        nth a10 (subI .i64 a8 1) fun _ =>
        nth a10 a8 fun _ =>
        nthN a10 (Int.toNat (subI .i64 a8 1)) fun y3 =>
        nthN a10 (Int.toNat a8) fun y4 =>
        nth a10 a8 fun _ =>
        nthN a10 (Int.toNat a8) fun _y5 =>
        nth (List.set a10 (Int.toNat a8) y3) (subI .i64 a8 1) fun _ =>
        nthN (List.set a10 (Int.toNat a8) y3) (Int.toNat (subI .i64 a8 1)) fun _y6 =>
        slices_insertionSortCmpFunc_int__r__nodeset_Compare_l2 a1 a3 a6 (subI .i64 a8 1) (List.set (List.set a10 (Int.toNat a8) y3) (Int.toNat (subI .i64 a8 1)) y4)
      else
        slices_insertionSortCmpFunc_int__r__nodeset_Compare_l1 a1 a3 (addI .i64 a6 1) a10
    else
      slices_insertionSortCmpFunc_int__r__nodeset_Compare_l1 a1 a3 (addI .i64 a6 1) a10
  ) (slices_insertionSortCmpFunc_int__r__nodeset_Compare_l2 a1 a3 a6 a8 a10) :=
  goC_loopAt (T := tn) (o := ⟨[], [[.own .i64 false]]⟩) sigOk 100000 (b := codeAt Tryz.f85 [1, 0, 0, 1, 0, 0, 1, 0, 0]) (by kernel_rfl) (by kernel_rfl)
theorem slices_heapSortCmpFunc_int__r__nodeset_Compare_l2_le (a2 : Int) (a4 : Int) (a6 : Int) (a8 : List (Int)) : Le (
    bif (leB 0 a6) then
      nth a8 (addI .i64 a2 a6) fun _ =>
      nth a8 a2 fun _ =>
      nthN a8 (Int.toNat (addI .i64 a2 a6)) fun y0 =>
      nthN a8 (Int.toNat a2) fun y1 =>
      nth a8 a2 fun _ =>
      nthN a8 (Int.toNat a2) fun _y2 =>
      nth (List.set a8 (Int.toNat a2) y0) (addI .i64 a2 a6) fun _ =>
      nthN (List.set a8 (Int.toNat a2) y0) (Int.toNat (addI .i64 a2 a6)) fun _y3 =>
      Option.bind (slices_siftDownCmpFunc_int__r__nodeset_Compare a4 a6 a2 (List.set (List.set a8 (Int.toNat a2) y0) (Int.toNat (addI .i64 a2 a6)) y1)) fun x4 =>
      slices_heapSortCmpFunc_int__r__nodeset_Compare_l2 a2 a4 (subI .i64 a6 1) x4
    else
      some a8
  ) (slices_heapSortCmpFunc_int__r__nodeset_Compare_l2 a2 a4 a6 a8) :=
  goC_loopAt (T := tn) (o := ⟨[], [[.own .i64 false]]⟩) sigOk 100000 (b := codeAt Tryz.f86 [1, 1, 1, 1, 1, 0, 0]) (by kernel_rfl) (by kernel_rfl)
theorem slices_siftDownCmpFunc_int__r__nodeset_Compare_l1_le (a1 : Int) (a3 : Int) (a6 : Int) (a8 : List (Int)) : Le (
    bif (leB a1 (addI .i64 (mulI .i64 2 a6) 1)) then
      some a8
    else
      bif (ltB (addI .i64 (addI .i64 (mulI .i64 2 a6) 1) 1) a1) then
        nth a8 (addI .i64 a3 (addI .i64 (mulI .i64 2 a6) 1)) fun _ =>
        nth a8 (addI .i64 (addI .i64 a3 (addI .i64 (mulI .i64 2 a6) 1)) 1) fun _ =>
        nthN a8 (Int.toNat (addI .i64 a3 (addI .i64 (mulI .i64 2 a6) 1))) fun y0 =>
        nthN a8 (Int.toNat (addI .i64 (addI .i64 a3 (addI .i64 (mulI .i64 2 a6) 1)) 1)) fun y1 =>
        Option.bind (nodeset_Compare y0 y1) fun x2 =>
        bif (ltB x2 0) then
          nth a8 (addI .i64 a3 a6) fun _ =>
          nth a8 (addI .i64 a3 (addI .i64 (addI .i64 (mulI .i64 2 a6) 1) 1)) fun _ =>
          nthN a8 (Int.toNat (addI .i64 a3 a6)) fun y3 =>
          nthN a8 (Int.toNat (addI .i64 a3 (addI .i64 (addI .i64 (mulI .i64 2 a6) 1) 1))) fun y4 =>
          Option.bind (nodeset_Compare y3 y4) fun x5 =>
          bif (!(ltB x5 0)) then
            some a8
          else
            nth a8 (addI .i64 a3 (addI .i64 (addI .i64 (mulI .i64 2 a6) 1) 1)) fun _ =>
            nth a8 (addI .i64 a3 a6) fun _ =>
            nthN a8 (Int.toNat (addI .i64 a3 (addI .i64 (addI .i64 (mulI .i64 2 a6) 1) 1))) fun y6 =>
            nthN a8 (Int.toNat (addI .i64 a3 a6)) fun y7 =>
            nth a8 (addI .i64 a3 a6) fun _ =>
            nthN a8 (Int.toNat (addI .i64 a3 a6)) fun _y8 =>
            nth (List.set a8 (Int.toNat (addI .i64 a3 a6)) y6) (addI .i64 a3 (addI .i64 (addI .i64 (mulI .i64 2 a6) 1) 1)) fun _ =>
            nthN (List.set a8 (Int.toNat (addI .i64 a3 a6)) y6) (Int.toNat (addI .i64 a3 (addI .i64 (addI .i64 (mulI .i64 2 a6) 1) 1))) fun _y9 =>
            slices_siftDownCmpFunc_int__r__nodeset_Compare_l1 a1 a3 (addI .i64 (addI .i64 (mulI .i64 2 a6) 1) 1) (List.set (List.set a8 (Int.toNat (addI .i64 a3 a6)) y6) (Int.toNat (addI .i64 a3 (addI .i64 (addI .i64 (mulI .i64 2 a6) 1) 1))) y7)
        else
          nth a8 (addI .i64 a3 a6) fun _ =>
          nth a8 (addI .i64 a3 (addI .i64 (mulI .i64 2 a6) 1)) fun _ =>
          nthN a8 (Int.toNat (addI .i64 a3 a6)) fun y10 =>
          nthN a8 (Int.toNat (addI .i64 a3 (addI .i64 (mulI .i64 2 a6) 1))) fun y11 =>
          Option.bind (nodeset_Compare y10 y11) fun x12 =>
          bif (!(ltB x12 0)) then
            some a8
          else
            nth a8 (addI .i64 a3 (addI .i64 (mulI .i64 2 a6) 1)) fun _ =>
            nth a8 (addI .i64 a3 a6) fun _ =>
            nthN a8 (Int.toNat (addI .i64 a3 (addI .i64 (mulI .i64 2 a6) 1))) fun y13 =>
            nthN a8 (Int.toNat (addI .i64 a3 a6)) fun y14 =>
            nth a8 (addI .i64 a3 a6) fun _ =>
            nthN a8 (Int.toNat (addI .i64 a3 a6)) fun _y15 =>
            nth (List.set a8 (Int.toNat (addI .i64 a3 a6)) y13) (addI .i64 a3 (addI .i64 (mulI .i64 2 a6) 1)) fun _ =>
            nthN (List.set a8 (Int.toNat (addI .i64 a3 a6)) y13) (Int.toNat (addI .i64 a3 (addI .i64 (mulI .i64 2 a6) 1))) fun _y16 =>
            slices_siftDownCmpFunc_int__r__nodeset_Compare_l1 a1 a3 (addI .i64 (mulI .i64 2 a6) 1) (List.set (List.set a8 (Int.toNat (addI .i64 a3 a6)) y13) (Int.toNat (addI .i64 a3 (addI .i64 (mulI .i64 2 a6) 1))) y14)
      else
        nth a8 (addI .i64 a3 a6) fun _ =>
        nth a8 (addI .i64 a3 (addI .i64 (mulI .i64 2 a6) 1)) fun _ =>
        nthN a8 (Int.toNat (addI .i64 a3 a6)) fun y17 =>
        nthN a8 (Int.toNat (addI .i64 a3 (addI .i64 (mulI .i64 2 a6) 1))) fun y18 =>
        Option.bind (nodeset_Compare y17 y18) fun x19 =>
        bif (!(ltB x19 0)) then
          some a8
        else
          nth a8 (addI .i64 a3 (addI .i64 (mulI .i64 2 a6) 1)) fun _ =>
          nth a8 (addI .i64 a3 a6) fun _ =>
          nthN a8 (Int.toNat (addI .i64 a3 (addI .i64 (mulI .i64 2 a6) 1))) fun y20 =>
          nthN a8 (Int.toNat (addI .i64 a3 a6)) fun y21 =>
          nth a8 (addI .i64 a3 a6) fun _ =>
          nthN a8 (Int.toNat (addI .i64 a3 a6)) fun _y22 =>
          nth (List.set a8 (Int.toNat (addI .i64 a3 a6)) y20) (addI .i64 a3 (addI .i64 (mulI .i64 2 a6) 1)) fun _ =>
          nthN (List.set a8 (Int.toNat (addI .i64 a3 a6)) y20) (Int.toNat (addI .i64 a3 (addI .i64 (mulI .i64 2 a6) 1))) fun _y23 =>
          slices_siftDownCmpFunc_int__r__nodeset_Compare_l1 a1 a3 (addI .i64 (mulI .i64 2 a6) 1) (List.set (List.set a8 (Int.toNat (addI .i64 a3 a6)) y20) (Int.toNat (addI .i64 a3 (addI .i64 (mulI .i64 2 a6) 1))) y21)
  ) (slices_siftDownCmpFunc_int__r__nodeset_Compare_l1 a1 a3 a6 a8) :=
  goC_loopAt (T := tn) (o := ⟨[], [[.own .i64 false]]⟩) sigOk 100000 (b := codeAt Tryz.f100 [1, 0, 0]) (by kernel_rfl) (by kernel_rfl)
theorem slices_partialInsertionSortCmpFunc_int__r__nodeset_Compare_l2_le (a1 : Int) (a3 : Int) (a6 : Int) (a8 : Int) (a10 : Bool) (a12 : List (Int)) : Le (
    bif (ltB a6 a3) then
      nth a12 a6 fun _ =>
      nth a12 (subI .i64 a6 1) fun _ =>
      nthN a12 (Int.toNat a6) fun y0 =>
      nthN a12 (Int.toNat (subI .i64 a6 1)) fun y1 =>
      Option.bind (nodeset_Compare y0 y1) fun x2 =>
      bif (!(ltB x2 0)) then
        slices_partialInsertionSortCmpFunc_int__r__nodeset_Compare_l3 a1 a3 (addI .i64 a6 1) a8 a12
      else
        bif (eqB a6 a3) then
          some (true, a12)
        else
          bif (ltB (subI .i64 a3 a1) 50) then
            some (false, a12)
          else
            nth a12 (subI .i64 a6 1) fun _ =>
            nth a12 a6 fun _ =>
            nthN a12 (Int.toNat (subI .i64 a6 1)) fun y3 =>
            nthN a12 (Int.toNat a6) fun y4 =>
            nth a12 a6 fun _ =>
            nthN a12 (Int.toNat a6) fun _y5 =>
            nth (List.set a12 (Int.toNat a6) y3) (subI .i64 a6 1) fun _ =>
            nthN (List.set a12 (Int.toNat a6) y3) (Int.toNat (subI .i64 a6 1)) fun _y6 =>
            bif (leB 2 (subI .i64 a6 a1)) then
              slices_partialInsertionSortCmpFunc_int__r__nodeset_Compare_l4 a1 a3 a6 a8 (subI .i64 a6 1) (List.set (List.set a12 (Int.toNat a6) y3) (Int.toNat (subI .i64 a6 1)) y4)
            else
              bif (leB 2 (subI .i64 a3 a6)) then
                slices_partialInsertionSortCmpFunc_int__r__nodeset_Compare_l5 a1 a3 a6 a8 (addI .i64 a6 1) (List.set (List.set a12 (Int.toNat a6) y3) (Int.toNat (subI .i64 a6 1)) y4)
              else
                slices_partialInsertionSortCmpFunc_int__r__nodeset_Compare_l1 a1 a3 a6 (addI .i64 a8 1) (List.set (List.set a12 (Int.toNat a6) y3) (Int.toNat (subI .i64 a6 1)) y4)
    else
      bif (eqB a6 a3) then
        some (true, a12)
      else
        bif (ltB (subI .i64 a3 a1) 50) then
          some (false, a12)
        else
          nth a12 (subI .i64 a6 1) fun _ =>
          nth a12 a6 fun _ =>
          nthN a12 (Int.toNat (subI .i64 a6 1)) fun y7 =>
          nthN a12 (Int.toNat a6) fun y8 =>
          nth a12 a6 fun _ =>
          nthN a12 (Int.toNat a6) fun _y9 =>
          nth (List.set a12 (Int.toNat a6) y7) (subI .i64 a6 1) fun _ =>
          nthN (List.set a12 (Int.toNat a6) y7) (Int.toNat (subI .i64 a6 1)) fun _y10 =>
          bif (leB 2 (subI .i64 a6 a1)) then
            slices_partialInsertionSortCmpFunc_int__r__nodeset_Compare_l4 a1 a3 a6 a8 (subI .i64 a6 1) (List.set (List.set a12 (Int.toNat a6) y7) (Int.toNat (subI .i64 a6 1)) y8)
          else
            bif (leB 2 (subI .i64 a3 a6)) then
              slices_partialInsertionSortCmpFunc_int__r__nodeset_Compare_l5 a1 a3 a6 a8 (addI .i64 a6 1) (List.set (List.set a12 (Int.toNat a6) y7) (Int.toNat (subI .i64 a6 1)) y8)
            else
              slices_partialInsertionSortCmpFunc_int__r__nodeset_Compare_l1 a1 a3 a6 (addI .i64 a8 1) (List.set (List.set a12 (Int.toNat a6) y7) (Int.toNat (subI .i64 a6 1)) y8)
  ) (slices_partialInsertionSortCmpFunc_int__r__nodeset_Compare_l2 a1 a3 a6 a8 a10 a12) :=
  goC_loopAt (T := tn) (o := ⟨[.lf .b], [[.own .i64 false]]⟩) sigOk 100000 (b := codeAt Tryz.f90 [1, 1, 0, 1, 0, 0, 1, 0, 0, 0, 0, 0]) (by kernel_rfl) (by kernel_rfl)
theorem slices_partitionEqualCmpFunc_int__r__nodeset_Compare_l2_le (a1 : Int) (a4 : Int) (a6 : Int) (a8 : List (Int)) : Le (
    bif (leB a4 a6) then
      nth a8 a1 fun _ =>
      nth a8 a4 fun _ =>
      nthN a8 (Int.toNat a1) fun y0 =>
      nthN a8 (Int.toNat a4) fun y1 =>
      Option.bind (nodeset_Compare y0 y1) fun x2 =>
      bif (!(ltB x2 0)) then
        slices_partitionEqualCmpFunc_int__r__nodeset_Compare_l2 a1 (addI .i64 a4 1) a6 a8
      else
        slices_partitionEqualCmpFunc_int__r__nodeset_Compare_l3 a1 a4 a6 false a8
    else
      slices_partitionEqualCmpFunc_int__r__nodeset_Compare_l3 a1 a4 a6 false a8
  ) (slices_partitionEqualCmpFunc_int__r__nodeset_Compare_l2 a1 a4 a6 a8) :=
  goC_loopAt (T := tn) (o := ⟨[.lf (.i .i64)], [[.own .i64 false]]⟩) sigOk 100000 (b := codeAt Tryz.f91 [1, 1, 1, 0, 0, 0, 0, 0, 0, 0]) (by kernel_rfl) (by kernel_rfl)
theorem slices_partitionCmpFunc_int__r__nodeset_Compare_l2_le (a1 : Int) (a4 : Int) (a6 : Int) (a8 : Bool) (a10 : List (Int)) : Le (
    bif (leB a4 a6) then
      nth a10 a6 fun _ =>
      nth a10 a1 fun _ =>
      nthN a10 (Int.toNat a6) fun y0 =>
      nthN a10 (Int.toNat a1) fun y1 =>
      Option.bind (nodeset_Compare y0 y1) fun x2 =>
      bif (!(ltB x2 0)) then
        slices_partitionCmpFunc_int__r__nodeset_Compare_l3 a1 a4 (subI .i64 a6 1) a10
      else
        bif (ltB a6 a4) then
          nth a10 a1 fun _ =>
          nth a10 a6 fun _ =>
          nthN a10 (Int.toNat a1) fun y3 =>
          nthN a10 (Int.toNat a6) fun y4 =>
          nth a10 a6 fun _ =>
          nthN a10 (Int.toNat a6) fun _y5 =>
          nth (List.set a10 (Int.toNat a6) y3) a1 fun _ =>
          nthN (List.set a10 (Int.toNat a6) y3) (Int.toNat a1) fun _y6 =>
          some (a6, true, (List.set (List.set a10 (Int.toNat a6) y3) (Int.toNat a1) y4))
        else
          nth a10 a6 fun _ =>
          nth a10 a4 fun _ =>
          nthN a10 (Int.toNat a6) fun y7 =>
          nthN a10 (Int.toNat a4) fun y8 =>
          nth a10 a4 fun _ =>
          nthN a10 (Int.toNat a4) fun _y9 =>
          nth (List.set a10 (Int.toNat a4) y7) a6 fun _ =>
          nthN (List.set a10 (Int.toNat a4) y7) (Int.toNat a6) fun _y10 =>
          slices_partitionCmpFunc_int__r__nodeset_Compare_l4 a1 (addI .i64 a4 1) (subI .i64 a6 1) (List.set (List.set a10 (Int.toNat a4) y7) (Int.toNat a6) y8)
    else
      bif (ltB a6 a4) then
        nth a10 a1 fun _ =>
        nth a10 a6 fun _ =>
        nthN a10 (Int.toNat a1) fun y11 =>
        nthN a10 (Int.toNat a6) fun y12 =>
        nth a10 a6 fun _ =>
        nthN a10 (Int.toNat a6) fun _y13 =>
        nth (List.set a10 (Int.toNat a6) y11) a1 fun _ =>
        nthN (List.set a10 (Int.toNat a6) y11) (Int.toNat a1) fun _y14 =>
        some (a6, true, (List.set (List.set a10 (Int.toNat a6) y11) (Int.toNat a1) y12))
      else
        nth a10 a6 fun _ =>
        nth a10 a4 fun _ =>
        nthN a10 (Int.toNat a6) fun y15 =>
        nthN a10 (Int.toNat a4) fun y16 =>
        nth a10 a4 fun _ =>
        nthN a10 (Int.toNat a4) fun _y17 =>
        nth (List.set a10 (Int.toNat a4) y15) a6 fun _ =>
        nthN (List.set a10 (Int.toNat a4) y15) (Int.toNat a6) fun _y18 =>
        slices_partitionCmpFunc_int__r__nodeset_Compare_l4 a1 (addI .i64 a4 1) (subI .i64 a6 1) (List.set (List.set a10 (Int.toNat a4) y15) (Int.toNat a6) y16)
  ) (slices_partitionCmpFunc_int__r__nodeset_Compare_l2 a1 a4 a6 a8 a10) :=
  goC_loopAt (T := tn) (o := ⟨[.lf (.i .i64), .lf .b], [[.own .i64 false]]⟩) sigOk 100000 (b := codeAt Tryz.f92 [1, 1, 1, 1, 0, 0, 0]) (by kernel_rfl) (by kernel_rfl)
theorem ref10_reach_l2_le (a1 : Int) (a3 : Bool) (a5 : List (Int)) (a7 : Int) (a9 : Int) (a11 : List (Member)) : Le (
    bif (ltB a9 a7) then
      nth a5 a9 fun y0 =>
      nth a11 y0 fun y1 =>
      Option.bind (ref02_Uses y1.Trust) fun x2 =>
      Option.bind (ref06_Declared (Config.mk a11)) fun x3 =>
      bif a3 then
        ref10_reach_l2 (orI .i64 a1 (andI .i64 x2 x3)) true a5 a7 (addI .i64 a9 1) a11
      else
        ref10_reach_l2 (orI .i64 a1 (andI .i64 x2 x3)) (neB (orI .i64 a1 (andI .i64 x2 x3)) a1) a5 a7 (addI .i64 a9 1) a11
    else
      ref10_reach_l3 a1 a3 a5 a7 a9 false a11
  ) (ref10_reach_l2 a1 a3 a5 a7 a9 a11) :=
  goC_loopAt (T := tn) (o := ⟨[.lf (.i .i64)], []⟩) sigOk 100000 (b := codeAt Tryz.f42 [1, 1, 0, 1, 0, 0, 1, 0, 1, 1, 0, 0]) (by kernel_rfl) (by kernel_rfl)
theorem ref02_Satisfied_l1_le (a0 : Int) (a3 : Int) (a5 : List (Int)) (a7 : Int) (a9 : Int) (a11 : Int) (a13 : List (Int)) (a15 : List (Trust)) : Le (
    bif (ltB a9 a7) then
      nth a5 a9 fun y0 =>
      Option.bind (ref01_Has a0 y0) fun x1 =>
      bif x1 then
        ref02_Satisfied_l1 a0 (addI .i64 a3 1) a5 a7 (addI .i64 a9 1) a11 a13 a15
      else
        ref02_Satisfied_l1 a0 a3 a5 a7 (addI .i64 a9 1) a11 a13 a15
    else
      ref02_Satisfied_l2 a0 a3 a15 ((List.length a15 : Nat) : Int) 0 a11 a13 a15
  ) (ref02_Satisfied_l1 a0 a3 a5 a7 a9 a11 a13 a15) :=
  goC_loopAt (T := tn) (o := ⟨[.lf .b], []⟩) sigOk 100000 (b := codeAt Tryz.f44 [1, 1, 1, 0, 1, 0, 0]) (by kernel_rfl) (by kernel_rfl)
theorem ref02_Uses_l2_le (a0 : Int) (a2 : List (Trust)) (a4 : Int) (a6 : Int) (a8 : Int) (a10 : List (Int)) (a12 : List (Trust)) : Le (
    bif (ltB a6 a4) then
      nth a2 a6 fun y0 =>
      Option.bind (ref02_Uses y0) fun x1 =>
      ref02_Uses_l2 (orI .i64 a0 x1) a2 a4 (addI .i64 a6 1) a8 a10 a12
    else
      some a0
  ) (ref02_Uses_l2 a0 a2 a4 a6 a8 a10 a12) :=
  goC_loopAt (T := tn) (o := ⟨[.lf (.i .i64)], []⟩) sigOk 100000 (b := codeAt Tryz.f58 [1, 1, 1, 0, 1, 0, 0]) (by kernel_rfl) (by kernel_rfl)
theorem ref01_Least_l3_le (a0 : List (Int)) (a2 : List (Int)) (a4 : Int) (a6 : Int) (a8 : Bool) (a10 : List (Int)) (a12 : Int) (a14 : Int) (a17 : Int) (a19 : Int) : Le (
    bif (ltB a19 a17) then
      nth a2 a19 fun _ =>
      nthN a2 (Int.toNat a19) fun y0 =>
      bif a8 then
        Option.bind (ref01_Compare y0 a4) fun x1 =>
        bif (ltB x1 0) then
          ref01_Least_l3 a0 a2 a4 (addI .i64 a19 1) true a10 a12 a14 a17 (addI .i64 a19 1)
        else
          ref01_Least_l3 a0 a2 a4 a6 true a10 a12 a14 a17 (addI .i64 a19 1)
      else
        Option.bind (ref01_Compare y0 a4) fun x2 =>
        bif (ltB x2 0) then
          ref01_Least_l3 a0 a2 a4 (addI .i64 a19 1) (eqB a4 y0) a10 a12 a14 a17 (addI .i64 a19 1)
        else
          ref01_Least_l3 a0 a2 a4 a6 (eqB a4 y0) a10 a12 a14 a17 (addI .i64 a19 1)
    else
      bif (!a8) then
        capOk (List.length a2 + List.length ([0] : List (Int))) <|
        hiK (List.length (a2 ++ ([0] : List (Int)))) (addI .i64 a6 1) fun b3 =>
        hiK (List.length (a2 ++ ([0] : List (Int)))) a6 fun b4 =>
        chk ((List.length (a2 ++ ([0] : List (Int)))) ≤ List.length (a2 ++ ([0] : List (Int)))) <|
        chk ((List.length (a2 ++ ([0] : List (Int)))) ≤ List.length (a2 ++ ([0] : List (Int)))) <|
        nth (List.take b3 (a2 ++ ([0] : List (Int))) ++ List.take ((List.length (a2 ++ ([0] : List (Int)))) - b3) (List.drop b4 (List.take (List.length (a2 ++ ([0] : List (Int)))) (a2 ++ ([0] : List (Int))))) ++ List.drop (b3 + (min ((List.length (a2 ++ ([0] : List (Int)))) - b3) (List.length (List.drop b4 (List.take (List.length (a2 ++ ([0] : List (Int)))) (a2 ++ ([0] : List (Int)))))))) (a2 ++ ([0] : List (Int)))) a6 fun _ =>
        nthN (List.take b3 (a2 ++ ([0] : List (Int))) ++ List.take ((List.length (a2 ++ ([0] : List (Int)))) - b3) (List.drop b4 (List.take (List.length (a2 ++ ([0] : List (Int)))) (a2 ++ ([0] : List (Int))))) ++ List.drop (b3 + (min ((List.length (a2 ++ ([0] : List (Int)))) - b3) (List.length (List.drop b4 (List.take (List.length (a2 ++ ([0] : List (Int)))) (a2 ++ ([0] : List (Int)))))))) (a2 ++ ([0] : List (Int)))) (Int.toNat a6) fun _y5 =>
        ref01_Least_l1 a0 (List.set (List.take b3 (a2 ++ ([0] : List (Int))) ++ List.take ((List.length (a2 ++ ([0] : List (Int)))) - b3) (List.drop b4 (List.take (List.length (a2 ++ ([0] : List (Int)))) (a2 ++ ([0] : List (Int))))) ++ List.drop (b3 + (min ((List.length (a2 ++ ([0] : List (Int)))) - b3) (List.length (List.drop b4 (List.take (List.length (a2 ++ ([0] : List (Int)))) (a2 ++ ([0] : List (Int)))))))) (a2 ++ ([0] : List (Int)))) (Int.toNat a6) a4) a10 a12 (addI .i64 a14 1)
      else
        ref01_Least_l1 a0 a2 a10 a12 (addI .i64 a14 1)
  ) (ref01_Least_l3 a0 a2 a4 a6 a8 a10 a12 a14 a17 a19) :=
  goC_loopAt (T := tn) (o := ⟨[.lf (.l .i64)], []⟩) sigOk 100000 (b := codeAt Tryz.f33 [1, 1, 0, 1, 0, 0, 1, 1, 0, 0, 1, 1, 1, 1, 1, 0, 1, 0, 0]) (by kernel_rfl) (by kernel_rfl)
theorem ref01_Compare_le (a_0 : Int) (b_1 : Int) : Le (
    Option.bind (ref01_Valid a_0) fun x0 =>
    bif x0 then
      Option.bind (ref01_Size a_0) fun x1 =>
      Option.bind (ref01_Valid b_1) fun x2 =>
      bif x2 then
        Option.bind (ref01_Size b_1) fun x3 =>
        bif (ltB x1 x3) then
          some (-1)
        else
          bif (eqB x1 x3) then
            bif (ltB a_0 b_1) then
              some (-1)
            else
              bif (eqB x1 x3) then
                bif (eqB a_0 b_1) then
                  some 0
                else
                  some 1
              else
                some 1
          else
            bif (eqB x1 x3) then
              bif (eqB a_0 b_1) then
                some 0
              else
                some 1
            else
              some 1
      else
        bif (ltB x1 (-1)) then
          some (-1)
        else
          bif (eqB x1 (-1)) then
            bif (ltB a_0 b_1) then
              some (-1)
            else
              bif (eqB x1 (-1)) then
                bif (eqB a_0 b_1) then
                  some 0
                else
                  some 1
              else
                some 1
          else
            bif (eqB x1 (-1)) then
              bif (eqB a_0 b_1) then
                some 0
              else
                some 1
            else
              some 1
    else
      Option.bind (ref01_Valid b_1) fun x4 =>
      bif x4 then
        Option.bind (ref01_Size b_1) fun x5 =>
        bif (ltB (-1) x5) then
          some (-1)
        else
          bif (eqB (-1) x5) then
            bif (ltB a_0 b_1) then
              some (-1)
            else
              bif (eqB (-1) x5) then
                bif (eqB a_0 b_1) then
                  some 0
                else
                  some 1
              else
                some 1
          else
            bif (eqB (-1) x5) then
              bif (eqB a_0 b_1) then
                some 0
              else
                some 1
            else
              some 1
      else
        bif (ltB a_0 b_1) then
          some (-1)
        else
          bif (eqB a_0 b_1) then
            some 0
          else
            some 1
  ) (ref01_Compare a_0 b_1) :=
  callC_le (T := tn) (c := bodyOf Tryz.f60) (o := ⟨[.lf (.i .i64)], []⟩) sigOk 100000 (by kernel_rfl) Tryz.func60 (by kernel_rfl) (by kernel_rfl) (by kernel_rfl)
theorem ref01_Size_le (s_0 : Int) : Le (
    ref01_Size_l1 s_0 0 0
  ) (ref01_Size s_0) :=
  callC_le (T := tn) (c := bodyOf Tryz.f79) (o := ⟨[.lf (.i .i64)], []⟩) sigOk 100000 (by kernel_rfl) Tryz.func79 (by kernel_rfl) (by kernel_rfl) (by kernel_rfl)
theorem threshold_Satisfied_l2_le (a0 : Int) (a3 : Int) (a5 : List (Trust)) (a7 : Int) (a9 : Int) (a11 : Int) (a13 : List (Int)) (a15 : List (Trust)) : Le (
    bif (ltB a9 a7) then
      nth a5 a9 fun y0 =>
      Option.bind (threshold_Satisfied y0 a0) fun x1 =>
      bif x1 then
        threshold_Satisfied_l2 a0 (addI .i64 a3 1) a5 a7 (addI .i64 a9 1) a11 a13 a15
      else
        threshold_Satisfied_l2 a0 a3 a5 a7 (addI .i64 a9 1) a11 a13 a15
    else
      some (leB a11 a3)
  ) (threshold_Satisfied_l2 a0 a3 a5 a7 a9 a11 a13 a15) :=
  goC_loopAt (T := tn) (o := ⟨[.lf .b], []⟩) sigOk 100000 (b := codeAt Tryz.f43 [1, 1, 1, 1, 0, 1, 0, 0]) (by kernel_rfl) (by kernel_rfl)
theorem slices_partialInsertionSortCmpFunc_int__r__nodeset_Compare_l3_le (a1 : Int) (a3 : Int) (a6 : Int) (a8 : Int) (a10 : List (Int)) : Le (
    bif (ltB a6 a3) then
      nth a10 a6 fun _ =>
      nth a10 (subI .i64 a6 1) fun _ =>
      nthN a10 (Int.toNat a6) fun y0 =>
      nthN a10 (Int.toNat (subI .i64 a6 1)) fun y1 =>
      Option.bind (nodeset_Compare y0 y1) fun x2 =>
      bif (!(ltB x2 0)) then
        slices_partialInsertionSortCmpFunc_int__r__nodeset_Compare_l3 a1 a3 (addI .i64 a6 1) a8 a10
      else
        bif (eqB a6 a3) then
          some (true, a10)
        else
          bif (ltB (subI .i64 a3 a1) 50) then
            some (false, a10)
          else
            nth a10 (subI .i64 a6 1) fun _ =>
            nth a10 a6 fun _ =>
            nthN a10 (Int.toNat (subI .i64 a6 1)) fun y3 =>
            nthN a10 (Int.toNat a6) fun y4 =>
            nth a10 a6 fun _ =>
            nthN a10 (Int.toNat a6) fun _y5 =>
            nth (List.set a10 (Int.toNat a6) y3) (subI .i64 a6 1) fun _ =>
            nthN (List.set a10 (Int.toNat a6) y3) (Int.toNat (subI .i64 a6 1)) fun _y6 =>
            bif (leB 2 (subI .i64 a6 a1)) then
              slices_partialInsertionSortCmpFunc_int__r__nodeset_Compare_l4 a1 a3 a6 a8 (subI .i64 a6 1) (List.set (List.set a10 (Int.toNat a6) y3) (Int.toNat (subI .i64 a6 1)) y4)
            else
              bif (leB 2 (subI .i64 a3 a6)) then
                slices_partialInsertionSortCmpFunc_int__r__nodeset_Compare_l5 a1 a3 a6 a8 (addI .i64 a6 1) (List.set (List.set a10 (Int.toNat a6) y3) (Int.toNat (subI .i64 a6 1)) y4)
              else
                slices_partialInsertionSortCmpFunc_int__r__nodeset_Compare_l1 a1 a3 a6 (addI .i64 a8 1) (List.set (List.set a10 (Int.toNat a6) y3) (Int.toNat (subI .i64 a6 1)) y4)
    else
      bif (eqB a6 a3) then
        some (true, a10)
      else
        bif (ltB (subI .i64 a3 a1) 50) then
          some (false, a10)
        else
          nth a10 (subI .i64 a6 1) fun _ =>
          nth a10 a6 fun _ =>
          nthN a10 (Int.toNat (subI .i64 a6 1)) fun y7 =>
          nthN a10 (Int.toNat a6) fun y8 =>
          nth a10 a6 fun _ =>
          nthN a10 (Int.toNat a6) fun _y9 =>
          nth (List.set a10 (Int.toNat a6) y7) (subI .i64 a6 1) fun _ =>
          nthN (List.set a10 (Int.toNat a6) y7) (Int.toNat (subI .i64 a6 1)) fun _y10 =>
          bif (leB 2 (subI .i64 a6 a1)) then
            slices_partialInsertionSortCmpFunc_int__r__nodeset_Compare_l4 a1 a3 a6 a8 (subI .i64 a6 1) (List.set (List.set a10 (Int.toNat a6) y7) (Int.toNat (subI .i64 a6 1)) y8)
          else
            bif (leB 2 (subI .i64 a3 a6)) then
              slices_partialInsertionSortCmpFunc_int__r__nodeset_Compare_l5 a1 a3 a6 a8 (addI .i64 a6 1) (List.set (List.set a10 (Int.toNat a6) y7) (Int.toNat (subI .i64 a6 1)) y8)
            else
              slices_partialInsertionSortCmpFunc_int__r__nodeset_Compare_l1 a1 a3 a6 (addI .i64 a8 1) (List.set (List.set a10 (Int.toNat a6) y7) (Int.toNat (subI .i64 a6 1)) y8)
  ) (slices_partialInsertionSortCmpFunc_int__r__nodeset_Compare_l3 a1 a3 a6 a8 a10) :=
  goC_loopAt (T := tn) (o := ⟨[.lf .b], [[.own .i64 false]]⟩) sigOk 100000 (b := codeAt Tryz.f90 [1, 1, 0, 1, 0, 0, 1, 0, 0, 0, 0, 0]) (by kernel_rfl) (by kernel_rfl)
theorem slices_partialInsertionSortCmpFunc_int__r__nodeset_Compare_l4_le (a1 : Int) (a3 : Int) (a6 : Int) (a8 : Int) (a10 : Int) (a12 : List (Int)) : Le (
    bif (leB 1 a10) then
      nth a12 a10 fun _ =>
      nth a12 (subI .i64 a10 1) fun _ =>
      nthN a12 (Int.toNat a10) fun y0 =>
      nthN a12 (Int.toNat (subI .i64 a10 1)) fun y1 =>
      Option.bind (nodeset_Compare y0 y1) fun x2 =>
      bif (!(ltB x2 0)) then
        bif (leB 2 (subI .i64 a3 a6)) then
          slices_partialInsertionSortCmpFunc_int__r__nodeset_Compare_l5 a1 a3 a6 a8 (addI .i64 a6 1) a12
        else
          slices_partialInsertionSortCmpFunc_int__r__nodeset_Compare_l1 a1 a3 a6 (addI .i64 a8 1) a12
      else
        nth a12 (subI .i64 a10 1) fun _ =>
        nth a12 a10 fun _ =>
        nthN a12 (Int.toNat (subI .i64 a10 1)) fun y3 =>
        nthN a12 (Int.toNat a10) fun y4 =>
        nth a12 a10 fun _ =>
        nthN a12 (Int.toNat a10) fun _y5 =>
        nth (List.set a12 (Int.toNat a10) y3) (subI .i64 a10 1) fun _ =>
        nthN (List.set a12 (Int.toNat a10) y3) (Int.toNat (subI .i64 a10 1)) fun _y6 =>
        slices_partialInsertionSortCmpFunc_int__r__nodeset_Compare_l4 a1 a3 a6 a8 (subI .i64 a10 1) (List.set (List.set a12 (Int.toNat a10) y3) (Int.toNat (subI .i64 a10 1)) y4)
    else
      bif (leB 2 (subI .i64 a3 a6)) then
        slices_partialInsertionSortCmpFunc_int__r__nodeset_Compare_l5 a1 a3 a6 a8 (addI .i64 a6 1) a12
      else
        slices_partialInsertionSortCmpFunc_int__r__nodeset_Compare_l1 a1 a3 a6 (addI .i64 a8 1) a12
  ) (slices_partialInsertionSortCmpFunc_int__r__nodeset_Compare_l4 a1 a3 a6 a8 a10 a12) :=
  goC_loopAt (T := tn) (o := ⟨[.lf .b], [[.own .i64 false]]⟩) sigOk 100000 (b := codeAt Tryz.f90 [1, 1, 0, 1, 0, 0, 1, 0, 0, 1, 1, 1, 1, 0, 1, 0, 1, 0, 0]) (by kernel_rfl) (by kernel_rfl)
theorem slices_partialInsertionSortCmpFunc_int__r__nodeset_Compare_l5_le (a1 : Int) (a3 : Int) (a6 : Int) (a8 : Int) (a10 : Int) (a12 : List (Int)) : Le (
    bif (ltB a10 a3) then
      nth a12 a10 fun _ =>
      nth a12 (subI .i64 a10 1) fun _ =>
      nthN a12 (Int.toNat a10) fun y0 =>
      nthN a12 (Int.toNat (subI .i64 a10 1)) fun y1 =>
      Option.bind (nodeset_Compare y0 y1) fun x2 =>
      bif (!(ltB x2 0)) then
        slices_partialInsertionSortCmpFunc_int__r__nodeset_Compare_l1 a1 a3 a6 (addI .i64 a8 1) a12
      else
        nth a12 (subI .i64 a10 1) fun _ =>
        nth a12 a10 fun _ =>
        nthN a12 (Int.toNat (subI .i64 a10 1)) fun y3 =>
        nthN a12 (Int.toNat a10) fun y4 =>
        nth a12 a10 fun _ =>
        nthN a12 (Int.toNat a10) fun _y5 =>
        nth (List.set a12 (Int.toNat a10) y3) (subI .i64 a10 1) fun _ =>
        nthN (List.set a12 (Int.toNat a10) y3) (Int.toNat (subI .i64 a10 1)) fun _y6 =>
        slices_partialInsertionSortCmpFunc_int__r__nodeset_Compare_l5 a1 a3 a6 a8 (addI .i64 a10 1) (List.set (List.set a12 (Int.toNat a10) y3) (Int.toNat (subI .i64 a10 1)) y4)
    else
      slices_partialInsertionSortCmpFunc_int__r__nodeset_Compare_l1 a1 a3 a6 (addI .i64 a8 1) a12
  ) (slices_partialInsertionSortCmpFunc_int__r__nodeset_Compare_l5 a1 a3 a6 a8 a10 a12) :=
  goC_loopAt (T := tn) (o := ⟨[.lf .b], [[.own .i64 false]]⟩) sigOk 100000 (b := codeAt Tryz.f90 [1, 1, 0, 1, 0, 0, 1, 0, 0, 1, 1, 1, 1, 1, 1, 0, 1, 0, 0]) (by kernel_rfl) (by kernel_rfl)
theorem slices_partitionEqualCmpFunc_int__r__nodeset_Compare_l3_le (a1 : Int) (a4 : Int) (a6 : Int) (a8 : Bool) (a10 : List (Int)) : Le (
    bif (leB a4 a6) then
      nth a10 a1 fun _ =>
      nth a10 a6 fun _ =>
      nthN a10 (Int.toNat a1) fun y0 =>
      nthN a10 (Int.toNat a6) fun y1 =>
      Option.bind (nodeset_Compare y0 y1) fun x2 =>
      bif (ltB x2 0) then
        slices_partitionEqualCmpFunc_int__r__nodeset_Compare_l4 a1 a4 (subI .i64 a6 1) a10
      else
        bif (ltB a6 a4) then
          some (a4, a10)
        else
          nth a10 a6 fun _ =>
          nth a10 a4 fun _ =>
          nthN a10 (Int.toNat a6) fun y3 =>
          nthN a10 (Int.toNat a4) fun y4 =>
          nth a10 a4 fun _ =>
          nthN a10 (Int.toNat a4) fun _y5 =>
          nth (List.set a10 (Int.toNat a4) y3) a6 fun _ =>
          nthN (List.set a10 (Int.toNat a4) y3) (Int.toNat a6) fun _y6 =>
          slices_partitionEqualCmpFunc_int__r__nodeset_Compare_l1 a1 (addI .i64 a4 1) (subI .i64 a6 1) (List.set (List.set a10 (Int.toNat a4) y3) (Int.toNat a6) y4)
    else
      bif (ltB a6 a4) then
        some (a4, a10)
      else
        nth a10 a6 fun _ =>
        nth a10 a4 fun _ =>
        nthN a10 (Int.toNat a6) fun y7 =>
        nthN a10 (Int.toNat a4) fun y8 =>
        nth a10 a4 fun _ =>
        nthN a10 (Int.toNat a4) fun _y9 =>
        nth (List.set a10 (Int.toNat a4) y7) a6 fun _ =>
        nthN (List.set a10 (Int.toNat a4) y7) (Int.toNat a6) fun _y10 =>
        slices_partitionEqualCmpFunc_int__r__nodeset_Compare_l1 a1 (addI .i64 a4 1) (subI .i64 a6 1) (List.set (List.set a10 (Int.toNat a4) y7) (Int.toNat a6) y8)
  ) (slices_partitionEqualCmpFunc_int__r__nodeset_Compare_l3 a1 a4 a6 a8 a10) :=
  goC_loopAt (T := tn) (o := ⟨[.lf (.i .i64)], [[.own .i64 false]]⟩) sigOk 100000 (b := codeAt Tryz.f91 [1, 1, 1, 0, 0, 0, 0, 1, 0, 0, 0]) (by kernel_rfl) (by kernel_rfl)
theorem slices_partitionCmpFunc_int__r__nodeset_Compare_l3_le (a1 : Int) (a4 : Int) (a6 : Int) (a8 : List (Int)) : Le (
    bif (leB a4 a6) then
      nth a8 a6 fun _ =>
      nth a8 a1 fun _ =>
      nthN a8 (Int.toNat a6) fun y0 =>
      nthN a8 (Int.toNat a1) fun y1 =>
      Option.bind (nodeset_Compare y0 y1) fun x2 =>
      bif (!(ltB x2 0)) then
        slices_partitionCmpFunc_int__r__nodeset_Compare_l3 a1 a4 (subI .i64 a6 1) a8
      else
        bif (ltB a6 a4) then
          nth a8 a1 fun _ =>
          nth a8 a6 fun _ =>
          nthN a8 (Int.toNat a1) fun y3 =>
          nthN a8 (Int.toNat a6) fun y4 =>
          nth a8 a6 fun _ =>
          nthN a8 (Int.toNat a6) fun _y5 =>
          nth (List.set a8 (Int.toNat a6) y3) a1 fun _ =>
          nthN (List.set a8 (Int.toNat a6) y3) (Int.toNat a1) fun _y6 =>
          some (a6, true, (List.set (List.set a8 (Int.toNat a6) y3) (Int.toNat a1) y4))
        else
          nth a8 a6 fun _ =>
          nth a8 a4 fun _ =>
          nthN a8 (Int.toNat a6) fun y7 =>
          nthN a8 (Int.toNat a4) fun y8 =>
          nth a8 a4 fun _ =>
          nthN a8 (Int.toNat a4) fun _y9 =>
          nth (List.set a8 (Int.toNat a4) y7) a6 fun _ =>
          nthN (List.set a8 (Int.toNat a4) y7) (Int.toNat a6) fun _y10 =>
          slices_partitionCmpFunc_int__r__nodeset_Compare_l4 a1 (addI .i64 a4 1) (subI .i64 a6 1) (List.set (List.set a8 (Int.toNat a4) y7) (Int.toNat a6) y8)
    else
      bif (ltB a6 a4) then
        nth a8 a1 fun _ =>
        nth a8 a6 fun _ =>
        nthN a8 (Int.toNat a1) fun y11 =>
        nthN a8 (Int.toNat a6) fun y12 =>
        nth a8 a6 fun _ =>
        nthN a8 (Int.toNat a6) fun _y13 =>
        nth (List.set a8 (Int.toNat a6) y11) a1 fun _ =>
        nthN (List.set a8 (Int.toNat a6) y11) (Int.toNat a1) fun _y14 =>
        some (a6, true, (List.set (List.set a8 (Int.toNat a6) y11) (Int.toNat a1) y12))
      else
        nth a8 a6 fun _ =>
        nth a8 a4 fun _ =>
        nthN a8 (Int.toNat a6) fun y15 =>
        nthN a8 (Int.toNat a4) fun y16 =>
        nth a8 a4 fun _ =>
        nthN a8 (Int.toNat a4) fun _y17 =>
        nth (List.set a8 (Int.toNat a4) y15) a6 fun _ =>
        nthN (List.set a8 (Int.toNat a4) y15) (Int.toNat a6) fun _y18 =>
        slices_partitionCmpFunc_int__r__nodeset_Compare_l4 a1 (addI .i64 a4 1) (subI .i64 a6 1) (List.set (List.set a8 (Int.toNat a4) y15) (Int.toNat a6) y16)
  ) (slices_partitionCmpFunc_int__r__nodeset_Compare_l3 a1 a4 a6 a8) :=
  goC_loopAt (T := tn) (o := ⟨[.lf (.i .i64), .lf .b], [[.own .i64 false]]⟩) sigOk 100000 (b := codeAt Tryz.f92 [1, 1, 1, 1, 0, 0, 0]) (by kernel_rfl) (by kernel_rfl)
theorem slices_partitionCmpFunc_int__r__nodeset_Compare_l4_le (a1 : Int) (a4 : Int) (a6 : Int) (a8 : List (Int)) : Le (
    slices_partitionCmpFunc_int__r__nodeset_Compare_l5 a1 a4 a6 a8
  ) (slices_partitionCmpFunc_int__r__nodeset_Compare_l4 a1 a4 a6 a8) :=
  goC_loopAt (T := tn) (o := ⟨[.lf (.i .i64), .lf .b], [[.own .i64 false]]⟩) sigOk 100000 (b := codeAt Tryz.f92 [1, 1, 1, 1, 1, 1, 1, 1, 1, 0, 0, 0]) (by kernel_rfl) (by kernel_rfl)
theorem ref10_reach_l3_le (a1 : Int) (a3 : Bool) (a5 : List (Int)) (a7 : Int) (a9 : Int) (a11 : Bool) (a13 : List (Member)) : Le (
    bif a3 then
      Option.bind (ref01_Nodes a1) fun x0 =>
      ref10_reach_l2 a1 false x0 ((List.length x0 : Nat) : Int) 0 a13
    else
      some a1
  ) (ref10_reach_l3 a1 a3 a5 a7 a9 a11 a13) :=
  goC_loopAt (T := tn) (o := ⟨[.lf (.i .i64)], []⟩) sigOk 100000 (b := codeAt Tryz.f42 [1, 1, 0, 1, 0, 0]) (by kernel_rfl) (by kernel_rfl)
end Go.Proofs.YtflmdbdigoeclaaGreat
