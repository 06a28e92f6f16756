/- What the functions come to, printed by a program and checked by the kernel. -/
import Derived.Test.YtflmdbdigoeclaaGreatZ10Df
namespace Go.Proofs.YtflmdbdigoeclaaGreat
open Go Go.Ab
set_option maxRecDepth 100000
theorem ref06_Declared_l1_le (a0 : Int) (a2 : List (Member)) (a4 : Int) (a6 : Int) (a8 : List (Member)) : Le (
    bif (ltB a6 a4) then
      nth a2 a6 fun y0 =>
      bif (ltB a6 10) then
        bif y0.Declared then
          chk (0 ≤ a6) <|
          ref06_Declared_l1 (orI .i64 a0 (shlI .i64 1 a6)) a2 a4 (addI .i64 a6 1) a8
        else
          ref06_Declared_l1 a0 a2 a4 (addI .i64 a6 1) a8
      else
        ref06_Declared_l1 a0 a2 a4 (addI .i64 a6 1) a8
    else
      some a0
  ) (ref06_Declared_l1 a0 a2 a4 a6 a8) :=
  goC_loopAt (T := tn) (o := ⟨[.lf (.i .i64)], []⟩) sigOk 100000 (b := codeAt Tryz.f40 [1, 1, 0, 1, 0, 0]) (by kernel_rfl) (by kernel_rfl)
theorem ref01_Nodes_l1_le (a0 : Int) (a2 : List (Int)) (a4 : Int) : Le (
    bif (ltB a4 10) then
      Option.bind (ref01_Has a0 a4) fun x0 =>
      bif x0 then
        capOk (List.length a2 + List.length ([a4] : List (Int))) <|
        ref01_Nodes_l1 a0 (a2 ++ ([a4] : List (Int))) (addI .i64 a4 1)
      else
        ref01_Nodes_l1 a0 a2 (addI .i64 a4 1)
    else
      some a2
  ) (ref01_Nodes_l1 a0 a2 a4) :=
  goC_loopAt (T := tn) (o := ⟨[.lf (.l .i64)], []⟩) sigOk 100000 (b := codeAt Tryz.f39 [1, 1, 0, 1, 0, 0]) (by kernel_rfl) (by kernel_rfl)
theorem mk_entries_l1_le (a0 : Int) (a3 : Int) (a5 : Int) (a7 : List (Int)) (a9 : List (Trust)) : Le (
    bif (ltB a3 ((List.length a9 : Nat) : Int)) then
      bif (leB a0 400) then
        nth a9 a3 fun y0 =>
        Option.bind (mk_entries y0 a0) fun x1 =>
        mk_entries_l1 x1 (addI .i64 a3 1) a5 a7 a9
      else
        some a0
    else
      some a0
  ) (mk_entries_l1 a0 a3 a5 a7 a9) :=
  goC_loopAt (T := tn) (o := ⟨[.lf (.i .i64)], []⟩) sigOk 100000 (b := codeAt Tryz.f20 [1, 1, 0, 1, 0, 0]) (by kernel_rfl) (by kernel_rfl)
theorem mk_most_l1_le (a1 : Int) (a5 : Int) (a7 : List (Int)) (a9 : Int) (a11 : Int) (a13 : List (Int)) (a15 : List (Trust)) (a17 : Int) (a19 : List (Int)) (a21 : List (Trust)) : Le (
    bif (ltB a5 a1) then
      Option.bind (mk_Tape_N 10 a7 a9) fun x0 =>
      bif (ltB x0.1 9) then
        capOk (List.length a19 + List.length ([a5] : List (Int))) <|
        mk_most_l1 a1 (addI .i64 a5 1) x0.2.1 x0.2.2 a11 a13 a15 a17 (a19 ++ ([a5] : List (Int))) a21
      else
        mk_most_l1 a1 (addI .i64 a5 1) x0.2.1 x0.2.2 a11 a13 a15 a17 a19 a21
    else
      bif (eqB ((List.length a19 : Nat) : Int) 0) then
        Option.bind (mk_Tape_Pick ([0, 0, 0, 1, (-1)] : List (Int)) a7 a9) fun x1 =>
        some ((Trust.mk (if (if (addI .i64 (quoI .i64 (addI .i64 (mulI .i64 2 ((List.length ([0] : List (Int)) : Nat) : Int)) 2) 3) x1.1) > 1 then (addI .i64 (quoI .i64 (addI .i64 (mulI .i64 2 ((List.length ([0] : List (Int)) : Nat) : Int)) 2) 3) x1.1) else 1) < ((List.length ([0] : List (Int)) : Nat) : Int) then (if (addI .i64 (quoI .i64 (addI .i64 (mulI .i64 2 ((List.length ([0] : List (Int)) : Nat) : Int)) 2) 3) x1.1) > 1 then (addI .i64 (quoI .i64 (addI .i64 (mulI .i64 2 ((List.length ([0] : List (Int)) : Nat) : Int)) 2) 3) x1.1) else 1) else ((List.length ([0] : List (Int)) : Nat) : Int)) ([0] : List (Int)) a21), x1.2.1, x1.2.2)
      else
        Option.bind (mk_Tape_Pick ([0, 0, 0, 1, (-1)] : List (Int)) a7 a9) fun x2 =>
        some ((Trust.mk (if (if (addI .i64 (quoI .i64 (addI .i64 (mulI .i64 2 ((List.length a19 : Nat) : Int)) 2) 3) x2.1) > 1 then (addI .i64 (quoI .i64 (addI .i64 (mulI .i64 2 ((List.length a19 : Nat) : Int)) 2) 3) x2.1) else 1) < ((List.length a19 : Nat) : Int) then (if (addI .i64 (quoI .i64 (addI .i64 (mulI .i64 2 ((List.length a19 : Nat) : Int)) 2) 3) x2.1) > 1 then (addI .i64 (quoI .i64 (addI .i64 (mulI .i64 2 ((List.length a19 : Nat) : Int)) 2) 3) x2.1) else 1) else ((List.length a19 : Nat) : Int)) a19 a21), x2.2.1, x2.2.2)
  ) (mk_most_l1 a1 a5 a7 a9 a11 a13 a15 a17 a19 a21) :=
  goC_loopAt (T := tn) (o := ⟨[.ag .Trust], [[.lf (.l .i64), .lf (.i .i64)]]⟩) sigOk 100000 (b := codeAt Tryz.f25 [1, 1, 0, 1, 0, 0]) (by kernel_rfl) (by kernel_rfl)
theorem mk_group_l1_le (a1 : Int) (a3 : Int) (a6 : List (Trust)) (a8 : Int) (a10 : List (Int)) (a12 : Int) (a14 : Int) (a16 : List (Int)) (a18 : List (Trust)) : Le (
    bif (ltB a8 3) then
      mk_group_l2 a1 a3 a6 a8 a8 a10 a12 a14 a16 a18 1 ([] : List (Int)) ([] : List (Trust))
    else
      Option.bind (mk_Tape_N 4 a10 a12) fun x0 =>
      bif (eqB x0.1 0) then
        chk (((List.length a6 : Nat) : Int) ≠ 0) <|
        nth a6 (remI .i64 a3 ((List.length a6 : Nat) : Int)) fun _ =>
        nthN a6 (Int.toNat (remI .i64 a3 ((List.length a6 : Nat) : Int))) fun y1 =>
        some ((Trust.mk y1.Threshold y1.Nodes y1.Inner), x0.2.1, x0.2.2)
      else
        Option.bind (mk_Tape_Range (if (subI .i64 ((List.length a6 : Nat) : Int) 1) > 1 then (subI .i64 ((List.length a6 : Nat) : Int) 1) else 1) ((List.length a6 : Nat) : Int) x0.2.1 x0.2.2) fun x2 =>
        some ((Trust.mk x2.1 ([] : List (Int)) a6), x2.2.1, x2.2.2)
  ) (mk_group_l1 a1 a3 a6 a8 a10 a12 a14 a16 a18) :=
  goC_loopAt (T := tn) (o := ⟨[.ag .Trust], [[.lf (.l .i64), .lf (.i .i64)]]⟩) sigOk 100000 (b := codeAt Tryz.f26 [1, 1, 0, 1, 0, 0]) (by kernel_rfl) (by kernel_rfl)
theorem mk_trust_l1_le (a1 : Int) (a3 : Int) (a7 : List (Int)) (a9 : Int) (a11 : Int) (a13 : List (Int)) (a15 : Int) (a17 : Int) (a19 : List (Int)) (a21 : List (Trust)) (a23 : Int) (a25 : List (Int)) (a27 : List (Trust)) : Le (
    bif (ltB a11 a9) then
      nth a7 a11 fun y0 =>
      capOk (List.length a25 + List.length ([y0] : List (Int))) <|
      mk_trust_l1 a1 a3 a7 a9 (addI .i64 a11 1) a13 a15 a17 a19 a21 a23 (a25 ++ ([y0] : List (Int))) a27
    else
      bif (ltB 1 a3) then
        Option.bind (mk_Tape_Pick ([0, 0, 1, 1, 2, 3] : List (Int)) a13 a15) fun x1 =>
        mk_trust_l2 a1 a3 x1.1 x1.2.1 x1.2.2 a17 a19 a21 a23 a25 a27
      else
        Option.bind (mk_Tape_Range 1 (addI .i64 ((List.length a25 : Nat) : Int) ((List.length a27 : Nat) : Int)) a13 a15) fun x2 =>
        some ((Trust.mk x2.1 a25 a27), x2.2.1, x2.2.2)
  ) (mk_trust_l1 a1 a3 a7 a9 a11 a13 a15 a17 a19 a21 a23 a25 a27) :=
  goC_loopAt (T := tn) (o := ⟨[.ag .Trust], [[.lf (.l .i64), .lf (.i .i64)]]⟩) sigOk 100000 (b := codeAt Tryz.f45 [1, 1, 1, 0, 1, 0, 0]) (by kernel_rfl) (by kernel_rfl)
theorem mk_Tape_Order_l1_le (a1 : Int) (a3 : List (Int)) (a5 : Int) (a7 : List (Int)) (a9 : Int) : Le (
    bif (ltB a5 a1) then
      capOk (List.length a3 + List.length ([a5] : List (Int))) <|
      mk_Tape_Order_l1 a1 (a3 ++ ([a5] : List (Int))) (addI .i64 a5 1) a7 a9
    else
      mk_Tape_Order_l2 a3 (subI .i64 a1 1) a7 a9
  ) (mk_Tape_Order_l1 a1 a3 a5 a7 a9) :=
  goC_loopAt (T := tn) (o := ⟨[.lf (.l .i64)], [[.lf (.l .i64), .lf (.i .i64)]]⟩) sigOk 100000 (b := codeAt Tryz.f63 [1, 1, 0, 1, 0, 0]) (by kernel_rfl) (by kernel_rfl)
theorem ref02_Depth_l1_le (a0 : Int) (a2 : List (Trust)) (a4 : Int) (a6 : Int) (a8 : Int) (a10 : List (Int)) (a12 : List (Trust)) : Le (
    bif (ltB a6 a4) then
      nth a2 a6 fun y0 =>
      Option.bind (ref02_Depth y0) fun x1 =>
      ref02_Depth_l1 (if x1 > a0 then x1 else a0) a2 a4 (addI .i64 a6 1) a8 a10 a12
    else
      some (addI .i64 a0 1)
  ) (ref02_Depth_l1 a0 a2 a4 a6 a8 a10 a12) :=
  goC_loopAt (T := tn) (o := ⟨[.lf (.i .i64)], []⟩) sigOk 100000 (b := codeAt Tryz.f64 [1, 1, 0, 1, 0, 0]) (by kernel_rfl) (by kernel_rfl)
theorem ref02_Size_l1_le (a0 : Int) (a2 : List (Trust)) (a4 : Int) (a6 : Int) (a8 : Int) (a10 : List (Int)) (a12 : List (Trust)) : Le (
    bif (ltB a6 a4) then
      nth a2 a6 fun y0 =>
      Option.bind (ref02_Size y0) fun x1 =>
      ref02_Size_l1 (addI .i64 a0 x1) a2 a4 (addI .i64 a6 1) a8 a10 a12
    else
      some a0
  ) (ref02_Size_l1 a0 a2 a4 a6 a8 a10 a12) :=
  goC_loopAt (T := tn) (o := ⟨[.lf (.i .i64)], []⟩) sigOk 100000 (b := codeAt Tryz.f65 [1, 1, 0, 1, 0, 0]) (by kernel_rfl) (by kernel_rfl)
theorem ref02_check_l1_le (a1 : List (Int)) (a3 : Int) (a5 : Int) (a7 : Int) (a9 : List (Int)) (a11 : List (Trust)) : Le (
    bif (ltB a5 a3) then
      nth a1 a5 fun y0 =>
      bif (ltB y0 0) then
        some 5
      else
        bif (leB 10 y0) then
          some 5
        else
          ref02_check_l1 a1 a3 (addI .i64 a5 1) a7 a9 a11
    else
      Option.bind (ref01_Of a9) fun x1 =>
      bif (neB x1.2 0) then
        some x1.2
      else
        ref02_check_l2 a11 ((List.length a11 : Nat) : Int) 0 a7 a9 a11
  ) (ref02_check_l1 a1 a3 a5 a7 a9 a11) :=
  goC_loopAt (T := tn) (o := ⟨[.lf (.i .i64)], []⟩) sigOk 100000 (b := codeAt Tryz.f66 [1, 1, 0, 1, 0, 0]) (by kernel_rfl) (by kernel_rfl)
theorem ref01_Of_le (nodes_0 : List (Int)) : Le (
    ref01_Of_l1 0 nodes_0 ((List.length nodes_0 : Nat) : Int) 0
  ) (ref01_Of nodes_0) :=
  callC_le (T := tn) (c := bodyOf Tryz.f81) (o := ⟨[.lf (.i .i64), .lf (.i .i64)], []⟩) sigOk 100000 (by kernel_rfl) Tryz.func81 (by kernel_rfl) (by kernel_rfl) (by kernel_rfl)
theorem mk_BentConfig_l2_le (a2 : List (Int)) (a4 : Int) (a6 : List (Member)) (a8 : List (Member)) (a10 : List (Member)) : Le (
    bif (leB ((List.length a10 : Nat) : Int) 10) then
      capOk (List.length a10 + List.length ([(Member.mk false (Trust.mk 0 ([] : List (Int)) ([] : List (Trust))))] : List (Member))) <|
      mk_BentConfig_l2 a2 a4 a6 a8 (a10 ++ ([(Member.mk false (Trust.mk 0 ([] : List (Int)) ([] : List (Trust))))] : List (Member)))
    else
      some ((Config.mk a10), a2, a4)
  ) (mk_BentConfig_l2 a2 a4 a6 a8 a10) :=
  goC_loopAt (T := tn) (o := ⟨[.ag .Config], [[.lf (.l .i64), .lf (.i .i64)]]⟩) sigOk 100000 (b := codeAt Tryz.f8 [1, 1, 1, 1, 0, 1, 0, 1, 1, 1, 1, 1, 1, 1, 1, 0, 0]) (by kernel_rfl) (by kernel_rfl)
theorem quorums_Parts_l2_le (a0 : List (Int)) (a2 : List (Int)) (a4 : Int) (a7 : Int) (a9 : Int) (a11 : List (Member)) : Le (
    bif (ltB a9 a7) then
      nth a0 a9 fun _ =>
      nthN a0 (Int.toNat a9) fun y0 =>
      chk (0 ≤ a9) <|
      bif (neB (andI .i64 a4 (shlI .i64 1 a9)) 0) then
        quorums_Parts_l2 a0 a2 a4 a7 (addI .i64 a9 1) a11
      else
        bif (eqB y0 0) then
          quorums_Parts_l2 a0 a2 a4 a7 (addI .i64 a9 1) a11
        else
          Option.bind (nodeset_Nodes y0) fun x1 =>
          quorums_Parts_l3 a0 a2 a4 a9 0 a7 a9 x1 ((List.length x1 : Nat) : Int) 0 a11
    else
      some (a2, 0)
  ) (quorums_Parts_l2 a0 a2 a4 a7 a9 a11) :=
  goC_loopAt (T := tn) (o := ⟨[.lf (.l .i64), .lf (.i .i64)], []⟩) sigOk 100000 (b := codeAt Tryz.f13 [1, 1, 1, 1, 1, 1, 0, 1, 0, 0]) (by kernel_rfl) (by kernel_rfl)
theorem quorums_reached_l1_le (a1 : Int) (a3 : Int) (a5 : List (Member)) : Le (
    Option.bind (nodeset_Nodes a3) fun x0 =>
    quorums_reached_l2 a1 a3 a3 x0 ((List.length x0 : Nat) : Int) 0 a5
  ) (quorums_reached_l1 a1 a3 a5) :=
  goC_loopAt (T := tn) (o := ⟨[.lf (.i .i64)], []⟩) sigOk 100000 (b := codeAt Tryz.f37 [1, 1, 1, 0, 0]) (by kernel_rfl) (by kernel_rfl)
theorem mk_BentTrust_l3_le (a2 : Int) (a4 : List (Int)) (a6 : Int) (a8 : Int) (a10 : List (Int)) (a12 : List (Trust)) (a14 : Int) (a16 : List (Int)) (a18 : List (Trust)) (a20 : Int) (a22 : List (Int)) (a24 : List (Trust)) : Le (
    bif (ltB 0 a2) then
      mk_BentTrust_l3 (subI .i64 a2 1) a4 a6 a8 a10 a12 a14 a16 a18 1 ([] : List (Int)) ([(Trust.mk a20 a22 a24)] : List (Trust))
    else
      some ((Trust.mk a20 a22 a24), a4, a6)
  ) (mk_BentTrust_l3 a2 a4 a6 a8 a10 a12 a14 a16 a18 a20 a22 a24) :=
  goC_loopAt (T := tn) (o := ⟨[.ag .Trust], [[.lf (.l .i64), .lf (.i .i64)]]⟩) sigOk 100000 (b := codeAt Tryz.f28 [1, 1, 0, 1, 0, 1, 1, 1, 1, 1, 1, 1, 1, 1, 0, 1, 0, 1, 0, 0]) (by kernel_rfl) (by kernel_rfl)
theorem threshold_Uses_l1_le (a1 : Int) (a3 : List (Int)) (a5 : Int) (a7 : Int) (a9 : Int) (a11 : List (Int)) (a13 : List (Trust)) : Le (
    bif (ltB a7 a5) then
      nth a3 a7 fun y0 =>
      Option.bind (threshold_node y0) fun x1 =>
      bif x1 then
        chk (0 ≤ y0) <|
        threshold_Uses_l1 (orI .i64 a1 (shlI .i64 1 y0)) a3 a5 (addI .i64 a7 1) a9 a11 a13
      else
        threshold_Uses_l1 a1 a3 a5 (addI .i64 a7 1) a9 a11 a13
    else
      threshold_Uses_l2 a1 a13 ((List.length a13 : Nat) : Int) 0 a9 a11 a13
  ) (threshold_Uses_l1 a1 a3 a5 a7 a9 a11 a13) :=
  goC_loopAt (T := tn) (o := ⟨[.lf (.i .i64)], []⟩) sigOk 100000 (b := codeAt Tryz.f62 [1, 1, 0, 1, 0, 0]) (by kernel_rfl) (by kernel_rfl)
theorem threshold_node_le (k_0 : Int) : Le (
    bif (leB 0 k_0) then
      some (ltB k_0 10)
    else
      some false
  ) (threshold_node k_0) :=
  callC_le (T := tn) (c := bodyOf Tryz.f80) (o := ⟨[.lf .b], []⟩) sigOk 100000 (by kernel_rfl) Tryz.func80 (by kernel_rfl) (by kernel_rfl) (by kernel_rfl)
theorem threshold_Depth_l1_le (a0 : Int) (a2 : List (Trust)) (a4 : Int) (a6 : Int) (a8 : Int) (a10 : List (Int)) (a12 : List (Trust)) : Le (
    bif (ltB a6 a4) then
      nth a2 a6 fun y0 =>
      Option.bind (threshold_Depth y0) fun x1 =>
      threshold_Depth_l1 (if x1 > a0 then x1 else a0) a2 a4 (addI .i64 a6 1) a8 a10 a12
    else
      some (addI .i64 a0 1)
  ) (threshold_Depth_l1 a0 a2 a4 a6 a8 a10 a12) :=
  goC_loopAt (T := tn) (o := ⟨[.lf (.i .i64)], []⟩) sigOk 100000 (b := codeAt Tryz.f82 [1, 1, 0, 1, 0, 0]) (by kernel_rfl) (by kernel_rfl)
theorem threshold_Size_l1_le (a0 : Int) (a2 : List (Trust)) (a4 : Int) (a6 : Int) (a8 : Int) (a10 : List (Int)) (a12 : List (Trust)) : Le (
    bif (ltB a6 a4) then
      nth a2 a6 fun y0 =>
      Option.bind (threshold_Size y0) fun x1 =>
      threshold_Size_l1 (addI .i64 a0 x1) a2 a4 (addI .i64 a6 1) a8 a10 a12
    else
      some a0
  ) (threshold_Size_l1 a0 a2 a4 a6 a8 a10 a12) :=
  goC_loopAt (T := tn) (o := ⟨[.lf (.i .i64)], []⟩) sigOk 100000 (b := codeAt Tryz.f83 [1, 1, 0, 1, 0, 0]) (by kernel_rfl) (by kernel_rfl)
theorem threshold_level_l1_le (a0 : List (Trust)) (a2 : Int) (a4 : Int) (a6 : Int) (a8 : List (Int)) (a10 : List (Trust)) : Le (
    bif (ltB a4 a2) then
      nth a0 a4 fun y0 =>
      Option.bind (threshold_level y0) fun x1 =>
      bif (neB x1 0) then
        some x1
      else
        threshold_level_l1 a0 a2 (addI .i64 a4 1) a6 a8 a10
    else
      some 0
  ) (threshold_level_l1 a0 a2 a4 a6 a8 a10) :=
  goC_loopAt (T := tn) (o := ⟨[.lf (.i .i64)], []⟩) sigOk 100000 (b := codeAt Tryz.f84 [1, 1, 1, 1, 0, 1, 0, 0]) (by kernel_rfl) (by kernel_rfl)
theorem nodeset_Of_l1_le (a0 : Int) (a2 : List (Int)) (a4 : Int) (a6 : Int) : Le (
    bif (ltB a6 a4) then
      nth a2 a6 fun y0 =>
      bif (ltB y0 0) then
        some (0, 5)
      else
        bif (leB 10 y0) then
          some (0, 5)
        else
          Option.bind (nodeset_Has a0 y0) fun x1 =>
          bif x1 then
            some (0, 6)
          else
            chk (0 ≤ y0) <|
            nodeset_Of_l1 (orI .i64 a0 (shlI .i64 1 y0)) a2 a4 (addI .i64 a6 1)
    else
      some (a0, 0)
  ) (nodeset_Of_l1 a0 a2 a4 a6) :=
  goC_loopAt (T := tn) (o := ⟨[.lf (.i .i64), .lf (.i .i64)], []⟩) sigOk 100000 (b := codeAt Tryz.f99 [1, 1, 0, 1, 0, 0]) (by kernel_rfl) (by kernel_rfl)
theorem slices_IndexFunc___int_int___threshold_level_1_l1_le (a0 : List (Int)) (a3 : Int) (a5 : Int) : Le (
    bif (ltB a5 a3) then
      nth a0 a5 fun y0 =>
      Option.bind (threshold_level_1 y0) fun x1 =>
      bif x1 then
        some a5
      else
        slices_IndexFunc___int_int___threshold_level_1_l1 a0 a3 (addI .i64 a5 1)
    else
      some (-1)
  ) (slices_IndexFunc___int_int___threshold_level_1_l1 a0 a3 a5) :=
  goC_loopAt (T := tn) (o := ⟨[.lf (.i .i64)], []⟩) sigOk 100000 (b := codeAt Tryz.f69 [1, 0, 1, 0, 0]) (by kernel_rfl) (by kernel_rfl)
theorem threshold_level_1_le (k_0 : Int) : Le (
    Option.bind (threshold_node k_0) fun x0 =>
    some (!x0)
  ) (threshold_level_1 k_0) :=
  callC_le (T := tn) (c := bodyOf Tryz.f98) (o := ⟨[.lf .b], []⟩) sigOk 100000 (by kernel_rfl) Tryz.func98 (by kernel_rfl) (by kernel_rfl) (by kernel_rfl)
theorem closure_unhappy_l1_le (a0 : Int) (a3 : List (Int)) (a5 : Int) (a7 : Int) (a9 : List (Member)) : Le (
    bif (ltB a7 a5) then
      nth a3 a7 fun y0 =>
      Option.bind (closure_content (Config.mk a9) y0 a0) fun x1 =>
      bif (!x1) then
        some (y0, true)
      else
        closure_unhappy_l1 a0 a3 a5 (addI .i64 a7 1) a9
    else
      some (0, false)
  ) (closure_unhappy_l1 a0 a3 a5 a7 a9) :=
  goC_loopAt (T := tn) (o := ⟨[.lf (.i .i64), .lf .b], []⟩) sigOk 100000 (b := codeAt Tryz.f77 [1, 0, 1, 0, 0]) (by kernel_rfl) (by kernel_rfl)
theorem closure_content_le (c_0 : Config) (k_1 : Int) (s_2 : Int) : Le (
    nth c_0.Members k_1 fun y0 =>
    Option.bind (threshold_Satisfied y0.Trust s_2) fun x1 =>
    some x1
  ) (closure_content c_0 k_1 s_2) :=
  callC_le (T := tn) (c := bodyOf Tryz.f97) (o := ⟨[.lf .b], []⟩) sigOk 100000 (by kernel_rfl) Tryz.func97 (by kernel_rfl) (by kernel_rfl) (by kernel_rfl)
theorem threshold_Satisfied_le (t_0 : Trust) (s_1 : Int) : Le (
    Option.bind (nodeset_Valid s_1) fun x0 =>
    bif (!x0) then
      some false
    else
      threshold_Satisfied_l1 s_1 0 t_0.Nodes ((List.length t_0.Nodes : Nat) : Int) 0 t_0.Threshold t_0.Nodes t_0.Inner
  ) (threshold_Satisfied t_0 s_1) :=
  callC_le (T := tn) (c := bodyOf Tryz.f43) (o := ⟨[.lf .b], []⟩) sigOk 100000 (by kernel_rfl) Tryz.func43 (by kernel_rfl) (by kernel_rfl) (by kernel_rfl)
theorem nodeset_Least_l2_le (a0 : List (Int)) (a2 : List (Int)) (a4 : Int) (a6 : Int) : Le (
    bif (ltB a6 a4) then
      nth a2 a6 fun y0 =>
      Option.bind (slices_ContainsFunc___int_int___nodeset_Least_2 a0 y0) fun x1 =>
      bif (!x1.1) then
        capOk (List.length a0 + List.length ([x1.2] : List (Int))) <|
        nodeset_Least_l2 (a0 ++ ([x1.2] : List (Int))) a2 a4 (addI .i64 a6 1)
      else
        nodeset_Least_l2 a0 a2 a4 (addI .i64 a6 1)
    else
      some a0
  ) (nodeset_Least_l2 a0 a2 a4 a6) :=
  goC_loopAt (T := tn) (o := ⟨[.lf (.l .i64)], []⟩) sigOk 100000 (b := codeAt Tryz.f30 [1, 1, 1, 1, 0, 1, 0, 0]) (by kernel_rfl) (by kernel_rfl)
theorem slices_IndexFunc___int_int___nodeset_Least_2_l1_le (a0 : List (Int)) (a3 : Int) (a5 : Int) (a7 : Int) : Le (
    bif (ltB a5 a3) then
      nth a0 a5 fun y0 =>
      Option.bind (nodeset_Least_2 y0 a7) fun x1 =>
      bif x1.1 then
        some (a5, x1.2)
      else
        slices_IndexFunc___int_int___nodeset_Least_2_l1 a0 a3 (addI .i64 a5 1) x1.2
    else
      some ((-1), a7)
  ) (slices_IndexFunc___int_int___nodeset_Least_2_l1 a0 a3 a5 a7) :=
  goC_loopAt (T := tn) (o := ⟨[.lf (.i .i64)], [[.lf (.i .i64)]]⟩) sigOk 100000 (b := codeAt Tryz.f69 [1, 0, 1, 0, 0]) (by kernel_rfl) (by kernel_rfl)
theorem nodeset_Least_2_le (t_0 : Int) (h0 : Int) : Le (
    some ((eqB (andNotI .i64 t_0 h0) 0), h0)
  ) (nodeset_Least_2 t_0 h0) :=
  callC_le (T := tn) (c := bodyOf Tryz.f55) (o := ⟨[.lf .b], [[.lf (.i .i64)]]⟩) sigOk 100000 (by kernel_rfl) Tryz.func55 (by kernel_rfl) (by kernel_rfl) (by kernel_rfl)
theorem slices_insertionSortCmpFunc_int__r__nodeset_Compare_l1_le (a1 : Int) (a3 : Int) (a6 : Int) (a8 : List (Int)) : Le (
    bif (ltB a6 a3) then
      slices_insertionSortCmpFunc_int__r__nodeset_Compare_l2 a1 a3 a6 a6 a8
    else
      some a8
  ) (slices_insertionSortCmpFunc_int__r__nodeset_Compare_l1 a1 a3 a6 a8) :=
  goC_loopAt (T := tn) (o := ⟨[], [[.own .i64 false]]⟩) sigOk 100000 (b := codeAt Tryz.f85 [1, 0, 0]) (by kernel_rfl) (by kernel_rfl)
theorem slices_heapSortCmpFunc_int__r__nodeset_Compare_l1_le (a2 : Int) (a4 : Int) (a6 : Int) (a8 : Int) (a10 : List (Int)) : Le (
    bif (leB 0 a8) then
      Option.bind (slices_siftDownCmpFunc_int__r__nodeset_Compare a8 a6 a2 a10) fun x0 =>
      slices_heapSortCmpFunc_int__r__nodeset_Compare_l1 a2 a4 a6 (subI .i64 a8 1) x0
    else
      slices_heapSortCmpFunc_int__r__nodeset_Compare_l2 a2 a4 (subI .i64 a6 1) a10
  ) (slices_heapSortCmpFunc_int__r__nodeset_Compare_l1 a2 a4 a6 a8 a10) :=
  goC_loopAt (T := tn) (o := ⟨[], [[.own .i64 false]]⟩) sigOk 100000 (b := codeAt Tryz.f86 [1, 1, 1, 0, 1, 0, 0]) (by kernel_rfl) (by kernel_rfl)
theorem slices_siftDownCmpFunc_int__r__nodeset_Compare_le (lo_1 : Int) (hi_2 : Int) (first_3 : Int) (h0 : List (Int)) : Le (
    slices_siftDownCmpFunc_int__r__nodeset_Compare_l1 hi_2 first_3 lo_1 h0
  ) (slices_siftDownCmpFunc_int__r__nodeset_Compare lo_1 hi_2 first_3 h0) :=
  callC_le (T := tn) (c := bodyOf Tryz.f100) (o := ⟨[], [[.own .i64 false]]⟩) sigOk 100000 (by kernel_rfl) Tryz.func100 (by kernel_rfl) (by kernel_rfl) (by kernel_rfl)
theorem slices_breakPatternsCmpFunc_int__r__nodeset_Compare_l1_le (a1 : Int) (a3 : Int) (a6 : Int) (a8 : Int) (a10 : List (Int)) (a12 : Int) : Le (
    bif (leB a8 (addI .i64 (addI .i64 a1 (mulI .i64 (quoI .i64 a3 4) 2)) 1)) then
      Option.bind (slices_xorshift_Next a12) fun x0 =>
      bif (leB a3 (IntKind.wrap .i64 (andI .u64 x0.1 (subI .u64 a6 1)))) then
        nth a10 (addI .i64 a1 (subI .i64 (IntKind.wrap .i64 (andI .u64 x0.1 (subI .u64 a6 1))) a3)) fun _ =>
        nth a10 a8 fun _ =>
        nthN a10 (Int.toNat (addI .i64 a1 (subI .i64 (IntKind.wrap .i64 (andI .u64 x0.1 (subI .u64 a6 1))) a3))) fun y1 =>
        nthN a10 (Int.toNat a8) fun y2 =>
        nth a10 a8 fun _ =>
        nthN a10 (Int.toNat a8) fun _y3 =>
        nth (List.set a10 (Int.toNat a8) y1) (addI .i64 a1 (subI .i64 (IntKind.wrap .i64 (andI .u64 x0.1 (subI .u64 a6 1))) a3)) fun _ =>
        nthN (List.set a10 (Int.toNat a8) y1) (Int.toNat (addI .i64 a1 (subI .i64 (IntKind.wrap .i64 (andI .u64 x0.1 (subI .u64 a6 1))) a3))) fun _y4 =>
        slices_breakPatternsCmpFunc_int__r__nodeset_Compare_l1 a1 a3 a6 (addI .i64 a8 1) (List.set (List.set a10 (Int.toNat a8) y1) (Int.toNat (addI .i64 a1 (subI .i64 (IntKind.wrap .i64 (andI .u64 x0.1 (subI .u64 a6 1))) a3))) y2) x0.2
      else
        nth a10 (addI .i64 a1 (IntKind.wrap .i64 (andI .u64 x0.1 (subI .u64 a6 1)))) fun _ =>
        nth a10 a8 fun _ =>
        nthN a10 (Int.toNat (addI .i64 a1 (IntKind.wrap .i64 (andI .u64 x0.1 (subI .u64 a6 1))))) fun y5 =>
        nthN a10 (Int.toNat a8) fun y6 =>
        nth a10 a8 fun _ =>
        nthN a10 (Int.toNat a8) fun _y7 =>
        nth (List.set a10 (Int.toNat a8) y5) (addI .i64 a1 (IntKind.wrap .i64 (andI .u64 x0.1 (subI .u64 a6 1)))) fun _ =>
        nthN (List.set a10 (Int.toNat a8) y5) (Int.toNat (addI .i64 a1 (IntKind.wrap .i64 (andI .u64 x0.1 (subI .u64 a6 1))))) fun _y8 =>
        slices_breakPatternsCmpFunc_int__r__nodeset_Compare_l1 a1 a3 a6 (addI .i64 a8 1) (List.set (List.set a10 (Int.toNat a8) y5) (Int.toNat (addI .i64 a1 (IntKind.wrap .i64 (andI .u64 x0.1 (subI .u64 a6 1))))) y6) x0.2
    else
      some a10
  ) (slices_breakPatternsCmpFunc_int__r__nodeset_Compare_l1 a1 a3 a6 a8 a10 a12) :=
  goC_loopAt (T := tn) (o := ⟨[], [[.own .i64 false]]⟩) sigOk 100000 (b := codeAt Tryz.f87 [1, 1, 0, 1, 1, 1, 0, 0]) (by kernel_rfl) (by kernel_rfl)
theorem slices_xorshift_Next_le (h0 : Int) : Le (
    some ((xorI .u64 (xorI .u64 (xorI .u64 h0 (shlI .u64 h0 13)) (shrI .u64 (xorI .u64 h0 (shlI .u64 h0 13)) 7)) (shlI .u64 (xorI .u64 (xorI .u64 h0 (shlI .u64 h0 13)) (shrI .u64 (xorI .u64 h0 (shlI .u64 h0 13)) 7)) 17)), (xorI .u64 (xorI .u64 (xorI .u64 h0 (shlI .u64 h0 13)) (shrI .u64 (xorI .u64 h0 (shlI .u64 h0 13)) 7)) (shlI .u64 (xorI .u64 (xorI .u64 h0 (shlI .u64 h0 13)) (shrI .u64 (xorI .u64 h0 (shlI .u64 h0 13)) 7)) 17)))
  ) (slices_xorshift_Next h0) :=
  callC_le (T := tn) (c := bodyOf Tryz.f102) (o := ⟨[.lf (.i .u64)], [[.lf (.i .u64)]]⟩) sigOk 100000 (by kernel_rfl) Tryz.func102 (by kernel_rfl) (by kernel_rfl) (by kernel_rfl)
theorem slices_reverseRangeCmpFunc_int__r__nodeset_Compare_l1_le (a1 : Int) (a3 : Int) (a5 : List (Int)) : Le (
    bif (ltB a1 a3) then
      nth a5 a3 fun _ =>
      nth a5 a1 fun _ =>
      nthN a5 (Int.toNat a3) fun y0 =>
      nthN a5 (Int.toNat a1) fun y1 =>
      nth a5 a1 fun _ =>
      nthN a5 (Int.toNat a1) fun _y2 =>
      nth (List.set a5 (Int.toNat a1) y0) a3 fun _ =>
      nthN (List.set a5 (Int.toNat a1) y0) (Int.toNat a3) fun _y3 =>
      slices_reverseRangeCmpFunc_int__r__nodeset_Compare_l1 (addI .i64 a1 1) (subI .i64 a3 1) (List.set (List.set a5 (Int.toNat a1) y0) (Int.toNat a3) y1)
    else
      some a5
  ) (slices_reverseRangeCmpFunc_int__r__nodeset_Compare_l1 a1 a3 a5) :=
  goC_loopAt (T := tn) (o := ⟨[], [[.own .i64 false]]⟩) sigOk 100000 (b := codeAt Tryz.f89 [1, 1, 0, 0]) (by kernel_rfl) (by kernel_rfl)
theorem slices_partialInsertionSortCmpFunc_int__r__nodeset_Compare_l1_le (a1 : Int) (a3 : Int) (a6 : Int) (a8 : Int) (a10 : List (Int)) : Le (
    bif (ltB a8 5) then
      slices_partialInsertionSortCmpFunc_int__r__nodeset_Compare_l2 a1 a3 a6 a8 true a10
    else
      some (false, a10)
  ) (slices_partialInsertionSortCmpFunc_int__r__nodeset_Compare_l1 a1 a3 a6 a8 a10) :=
  goC_loopAt (T := tn) (o := ⟨[.lf .b], [[.own .i64 false]]⟩) sigOk 100000 (b := codeAt Tryz.f90 [1, 1, 0, 1, 0, 0]) (by kernel_rfl) (by kernel_rfl)
theorem slices_partitionEqualCmpFunc_int__r__nodeset_Compare_l1_le (a1 : Int) (a4 : Int) (a6 : Int) (a8 : List (Int)) : Le (
    slices_partitionEqualCmpFunc_int__r__nodeset_Compare_l2 a1 a4 a6 a8
  ) (slices_partitionEqualCmpFunc_int__r__nodeset_Compare_l1 a1 a4 a6 a8) :=
  goC_loopAt (T := tn) (o := ⟨[.lf (.i .i64)], [[.own .i64 false]]⟩) sigOk 100000 (b := codeAt Tryz.f91 [1, 1, 1, 0, 0, 0]) (by kernel_rfl) (by kernel_rfl)
theorem slices_partitionCmpFunc_int__r__nodeset_Compare_l1_le (a1 : Int) (a4 : Int) (a6 : Int) (a8 : List (Int)) : Le (
    bif (leB a4 a6) then
      nth a8 a4 fun _ =>
      nth a8 a1 fun _ =>
      nthN a8 (Int.toNat a4) fun y0 =>
      nthN a8 (Int.toNat a1) fun y1 =>
      Option.bind (nodeset_Compare y0 y1) fun x2 =>
      bif (ltB x2 0) then
        slices_partitionCmpFunc_int__r__nodeset_Compare_l1 a1 (addI .i64 a4 1) a6 a8
      else
        slices_partitionCmpFunc_int__r__nodeset_Compare_l2 a1 a4 a6 false a8
    else
      slices_partitionCmpFunc_int__r__nodeset_Compare_l2 a1 a4 a6 false a8
  ) (slices_partitionCmpFunc_int__r__nodeset_Compare_l1 a1 a4 a6 a8) :=
  goC_loopAt (T := tn) (o := ⟨[.lf (.i .i64), .lf .b], [[.own .i64 false]]⟩) sigOk 100000 (b := codeAt Tryz.f92 [1, 1, 1, 0, 0, 0]) (by kernel_rfl) (by kernel_rfl)
theorem cmp_Or_int__l1_le (a0 : Int) (a2 : List (Int)) (a4 : Int) (a6 : Int) : Le (
    bif (ltB a6 a4) then
      nth a2 a6 fun y0 =>
      bif (neB y0 a0) then
        some y0
      else
        cmp_Or_int__l1 a0 a2 a4 (addI .i64 a6 1)
    else
      some a0
  ) (cmp_Or_int__l1 a0 a2 a4 a6) :=
  goC_loopAt (T := tn) (o := ⟨[.lf (.i .i64)], []⟩) sigOk 100000 (b := codeAt Tryz.f73 [1, 1, 0, 1, 0, 0]) (by kernel_rfl) (by kernel_rfl)
end Go.Proofs.YtflmdbdigoeclaaGreat
