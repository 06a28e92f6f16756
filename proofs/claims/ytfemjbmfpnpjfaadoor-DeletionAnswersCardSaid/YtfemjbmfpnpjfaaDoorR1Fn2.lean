/- What the functions come to, printed by a program and checked by the kernel. -/
import Derived.Test.YtfemjbmfpnpjfaaDoorR1Df
namespace Go.Proofs.YtfemjbmfpnpjfaaDoor
open Go Go.Ab
set_option maxRecDepth 100000
theorem ref09_Greatest_l1_le (a0 : Int) (a2 : List (Int)) (a4 : Int) (a6 : Int) (a8 : List (Member)) : Le (
    bif (ltB a6 a4) then
      nth a2 a6 fun y0 =>
      chk (0 ≤ y0) <|
      ref09_Greatest_l1 (subI .i64 a0 (shlI .i64 1 y0)) a2 a4 (addI .i64 a6 1) a8
    else
      some a0
  ) (ref09_Greatest_l1 a0 a2 a4 a6 a8) :=
  goC_loopAt (T := tn) (o := ⟨[.lf (.i .i64)], []⟩) sigOk 100000 (b := codeAt Tryd.f29 [1, 1, 1, 0, 1, 0, 0]) (by kernel_rfl) (by kernel_rfl)
theorem ref09_Quorum_l1_le (a0 : Int) (a3 : List (Int)) (a5 : Int) (a7 : Int) (a9 : List (Member)) : Le (
    bif (ltB a7 a5) then
      nth a3 a7 fun y0 =>
      nth a9 y0 fun y1 =>
      Option.bind (ref02_Satisfied y1.Trust a0) fun x2 =>
      bif (!x2) then
        some false
      else
        ref09_Quorum_l1 a0 a3 a5 (addI .i64 a7 1) a9
    else
      some true
  ) (ref09_Quorum_l1 a0 a3 a5 a7 a9) :=
  goC_loopAt (T := tn) (o := ⟨[.lf .b], []⟩) sigOk 100000 (b := codeAt Tryd.f30 [1, 1, 0, 1, 0, 0]) (by kernel_rfl) (by kernel_rfl)
theorem ref09_Elimination_l1_le (a1 : Int) (a3 : List (Int)) (a5 : Bool) (a7 : List (Member)) : Le (
    bif a5 then
      Option.bind (ref01_Nodes a1) fun x0 =>
      ref09_Elimination_l2 a1 a3 false x0 ((List.length x0 : Nat) : Int) 0 a7
    else
      some a3
  ) (ref09_Elimination_l1 a1 a3 a5 a7) :=
  goC_loopAt (T := tn) (o := ⟨[.lf (.l .i64)], []⟩) sigOk 100000 (b := codeAt Tryd.f49 [1, 1, 1, 1, 0, 1, 0, 0]) (by kernel_rfl) (by kernel_rfl)
theorem ref01_Nodes_l1_le (a0 : Int) (a2 : List (Int)) (a4 : Int) : Le (
    bif (ltB a4 10) then
      Option.bind (ref01_Has a0 a4) fun x0 =>
      bif x0 then
        capOk (List.length a2 + List.length ([a4] : List (Int))) <|
        ref01_Nodes_l1 a0 (a2 ++ ([a4] : List (Int))) (addI .i64 a4 1)
      else
        ref01_Nodes_l1 a0 a2 (addI .i64 a4 1)
    else
      some a2
  ) (ref01_Nodes_l1 a0 a2 a4) :=
  goC_loopAt (T := tn) (o := ⟨[.lf (.l .i64)], []⟩) sigOk 100000 (b := codeAt Tryd.f50 [1, 1, 0, 1, 0, 0]) (by kernel_rfl) (by kernel_rfl)
theorem law13_DeletionAnswers_l2_le (a0 : Int) (a7 : Int) (a9 : List (Int)) (a11 : Int) (a13 : Int) (a15 : List (Trust)) (a17 : Int) (a19 : Int) (a21 : Int) (a23 : List (Int)) (a25 : List (Trust)) (a27 : List (Member)) (a29 : List (Int)) (a31 : Int) (a33 : List (Member)) (a35 : Int) (a37 : List (Int)) (a39 : List (Trust)) : Le (
    bif (ltB a19 a17) then
      nth a15 a19 fun y0 =>
      Option.bind (mk_Tape_N 10 a29 a31) fun x1 =>
      law13_DeletionAnswers_l3 a0 a7 a9 a11 a13 a15 a17 a19 ([a0, x1.1] : List (Int)) ((List.length ([a0, x1.1] : List (Int)) : Nat) : Int) 0 a21 a23 a25 a27 x1.2.1 x1.2.2 a33 a35 a37 a39 y0.Threshold y0.Nodes y0.Inner
    else
      Option.bind (mk_BentConfig (Config.mk a33) a29 a31) fun x2 =>
      law13_DeletionAnswers_l4 a0 a7 a9 a11 a13 ([(Config.mk a33), (Config.mk x2.1.Members), (Config.mk a27)] : List (Config)) ((List.length ([(Config.mk a33), (Config.mk x2.1.Members), (Config.mk a27)] : List (Config)) : Nat) : Int) 0 a21 a23 a25 a27 x2.2.1 x2.2.2 a33 a35 a37 a39
  ) (law13_DeletionAnswers_l2 a0 a7 a9 a11 a13 a15 a17 a19 a21 a23 a25 a27 a29 a31 a33 a35 a37 a39) :=
  goC_loopAt (T := tn) (o := ⟨[.lf .b], []⟩) sigOk 100000 (b := codeAt Tryd.f5 [1, 1, 1, 1, 1, 0, 1, 0, 0, 1, 1, 0, 0, 1, 0, 1, 0, 0]) (by kernel_rfl) (by kernel_rfl)
theorem mk_BentConfig_le (c_1 : Config) (h0 : List (Int)) (h1 : Int) : Le (
    capOk (List.length ([] : List (Member)) + List.length c_1.Members) <|
    bif (eqB ((List.length (([] : List (Member)) ++ c_1.Members) : Nat) : Int) 0) then
      Option.bind (mk_Tape_Pick ([1, 10, 11] : List (Int)) h0 h1) fun x0 =>
      chk (x0.1 = x0.1 ∧ 0 ≤ x0.1 ∧ x0.1 ≤ 65536) <|
      some ((Config.mk (List.replicate (Int.toNat x0.1) (Member.mk false (Trust.mk 0 ([] : List (Int)) ([] : List (Trust)))))), x0.2.1, x0.2.2)
    else
      Option.bind (mk_Tape_N ((List.length (([] : List (Member)) ++ c_1.Members) : Nat) : Int) h0 h1) fun x1 =>
      nth (([] : List (Member)) ++ c_1.Members) x1.1 fun _ =>
      Option.bind (mk_Tape_N 5 x1.2.1 x1.2.2) fun x2 =>
      bif (eqB x2.1 0) then
        nthN (([] : List (Member)) ++ c_1.Members) (Int.toNat x1.1) fun y3 =>
        nthN (([] : List (Member)) ++ c_1.Members) (Int.toNat x1.1) fun y4 =>
        some ((Config.mk (List.set (([] : List (Member)) ++ c_1.Members) (Int.toNat x1.1) (Member.mk (!y3.Declared) (Trust.mk y4.Trust.Threshold y4.Trust.Nodes y4.Trust.Inner)))), x2.2.1, x2.2.2)
      else
        bif (eqB x2.1 1) then
          nthN (([] : List (Member)) ++ c_1.Members) (Int.toNat x1.1) fun y5 =>
          Option.bind (mk_BentTrust y5.Trust x2.2.1 x2.2.2) fun x6 =>
          nthN (([] : List (Member)) ++ c_1.Members) (Int.toNat x1.1) fun y7 =>
          some ((Config.mk (List.set (([] : List (Member)) ++ c_1.Members) (Int.toNat x1.1) (Member.mk y7.Declared (Trust.mk x6.1.Threshold x6.1.Nodes x6.1.Inner)))), x6.2.1, x6.2.2)
        else
          bif (eqB x2.1 2) then
            nthN (([] : List (Member)) ++ c_1.Members) (Int.toNat x1.1) fun y8 =>
            some ((Config.mk (List.set (([] : List (Member)) ++ c_1.Members) (Int.toNat x1.1) (Member.mk y8.Declared (Trust.mk 1 ([((List.length (([] : List (Member)) ++ c_1.Members) : Nat) : Int)] : List (Int)) ([] : List (Trust)))))), x2.2.1, x2.2.2)
          else
            bif (eqB x2.1 3) then
              hiK (List.length (([] : List (Member)) ++ c_1.Members)) (subI .i64 ((List.length (([] : List (Member)) ++ c_1.Members) : Nat) : Int) 1) fun b9 =>
              some ((Config.mk (List.drop 0 (List.take b9 (([] : List (Member)) ++ c_1.Members)))), x2.2.1, x2.2.2)
            else
              mk_BentConfig_l1 false x2.2.1 x2.2.2 c_1.Members ([] : List (Member)) (([] : List (Member)) ++ c_1.Members)
  ) (mk_BentConfig c_1 h0 h1) :=
  callC_le (T := tn) (c := bodyOf Tryd.f23) (o := ⟨[.ag .Config], [[.lf (.l .i64), .lf (.i .i64)]]⟩) sigOk 100000 (by kernel_rfl) Tryd.func23 (by kernel_rfl) (by kernel_rfl) (by kernel_rfl)
theorem mk_BentTrust_l1_le (a2 : Int) (a4 : List (Int)) (a6 : Int) (a8 : Int) (a10 : List (Int)) (a12 : List (Trust)) (a14 : Int) (a16 : List (Int)) (a18 : List (Trust)) (a20 : Int) (a22 : List (Int)) (a24 : List (Trust)) : Le (
    bif (ltB 0 a2) then
      mk_BentTrust_l3 (subI .i64 a2 1) a4 a6 a8 a10 a12 a14 a16 a18 1 ([] : List (Int)) ([(Trust.mk a20 a22 a24)] : List (Trust))
    else
      some ((Trust.mk a20 a22 a24), a4, a6)
  ) (mk_BentTrust_l1 a2 a4 a6 a8 a10 a12 a14 a16 a18 a20 a22 a24) :=
  goC_loopAt (T := tn) (o := ⟨[.ag .Trust], [[.lf (.l .i64), .lf (.i .i64)]]⟩) sigOk 100000 (b := codeAt Tryd.f20 [1, 1, 0, 1, 0, 1, 1, 1, 1, 1, 1, 1, 1, 1, 0, 1, 0, 1, 0, 0]) (by kernel_rfl) (by kernel_rfl)
theorem mk_BentTrust_l2_le (a2 : List (Trust)) (a4 : Int) (a6 : List (Int)) (a8 : Int) (a10 : Int) (a12 : List (Int)) (a14 : List (Trust)) (a16 : Int) (a18 : List (Int)) (a20 : List (Trust)) : Le (
    bif (ltB 0 a4) then
      capOk (List.length a2 + List.length ([(Trust.mk 1 ([(remI .i64 a4 10)] : List (Int)) ([] : List (Trust)))] : List (Trust))) <|
      mk_BentTrust_l2 (a2 ++ ([(Trust.mk 1 ([(remI .i64 a4 10)] : List (Int)) ([] : List (Trust)))] : List (Trust))) (subI .i64 a4 1) a6 a8 a10 a12 a14 a16 a18 a20
    else
      capOk (List.length a2 + List.length a14) <|
      some ((Trust.mk a10 a12 (a2 ++ a14)), a6, a8)
  ) (mk_BentTrust_l2 a2 a4 a6 a8 a10 a12 a14 a16 a18 a20) :=
  goC_loopAt (T := tn) (o := ⟨[.ag .Trust], [[.lf (.l .i64), .lf (.i .i64)]]⟩) sigOk 100000 (b := codeAt Tryd.f20 [1, 1, 0, 1, 0, 1, 1, 1, 1, 1, 1, 1, 1, 1, 1, 1, 0, 1, 0, 0]) (by kernel_rfl) (by kernel_rfl)
theorem mk_most_l1_le (a1 : Int) (a5 : Int) (a7 : List (Int)) (a9 : Int) (a11 : Int) (a13 : List (Int)) (a15 : List (Trust)) (a17 : Int) (a19 : List (Int)) (a21 : List (Trust)) : Le (
    bif (ltB a5 a1) then
      Option.bind (mk_Tape_N 10 a7 a9) fun x0 =>
      bif (ltB x0.1 9) then
        capOk (List.length a19 + List.length ([a5] : List (Int))) <|
        mk_most_l1 a1 (addI .i64 a5 1) x0.2.1 x0.2.2 a11 a13 a15 a17 (a19 ++ ([a5] : List (Int))) a21
      else
        mk_most_l1 a1 (addI .i64 a5 1) x0.2.1 x0.2.2 a11 a13 a15 a17 a19 a21
    else
      bif (eqB ((List.length a19 : Nat) : Int) 0) then
        Option.bind (mk_Tape_Pick ([0, 0, 0, 1, (-1)] : List (Int)) a7 a9) fun x1 =>
        some ((Trust.mk (if (if (addI .i64 (quoI .i64 (addI .i64 (mulI .i64 2 ((List.length ([0] : List (Int)) : Nat) : Int)) 2) 3) x1.1) > 1 then (addI .i64 (quoI .i64 (addI .i64 (mulI .i64 2 ((List.length ([0] : List (Int)) : Nat) : Int)) 2) 3) x1.1) else 1) < ((List.length ([0] : List (Int)) : Nat) : Int) then (if (addI .i64 (quoI .i64 (addI .i64 (mulI .i64 2 ((List.length ([0] : List (Int)) : Nat) : Int)) 2) 3) x1.1) > 1 then (addI .i64 (quoI .i64 (addI .i64 (mulI .i64 2 ((List.length ([0] : List (Int)) : Nat) : Int)) 2) 3) x1.1) else 1) else ((List.length ([0] : List (Int)) : Nat) : Int)) ([0] : List (Int)) a21), x1.2.1, x1.2.2)
      else
        Option.bind (mk_Tape_Pick ([0, 0, 0, 1, (-1)] : List (Int)) a7 a9) fun x2 =>
        some ((Trust.mk (if (if (addI .i64 (quoI .i64 (addI .i64 (mulI .i64 2 ((List.length a19 : Nat) : Int)) 2) 3) x2.1) > 1 then (addI .i64 (quoI .i64 (addI .i64 (mulI .i64 2 ((List.length a19 : Nat) : Int)) 2) 3) x2.1) else 1) < ((List.length a19 : Nat) : Int) then (if (addI .i64 (quoI .i64 (addI .i64 (mulI .i64 2 ((List.length a19 : Nat) : Int)) 2) 3) x2.1) > 1 then (addI .i64 (quoI .i64 (addI .i64 (mulI .i64 2 ((List.length a19 : Nat) : Int)) 2) 3) x2.1) else 1) else ((List.length a19 : Nat) : Int)) a19 a21), x2.2.1, x2.2.2)
  ) (mk_most_l1 a1 a5 a7 a9 a11 a13 a15 a17 a19 a21) :=
  goC_loopAt (T := tn) (o := ⟨[.ag .Trust], [[.lf (.l .i64), .lf (.i .i64)]]⟩) sigOk 100000 (b := codeAt Tryd.f43 [1, 1, 0, 1, 0, 0]) (by kernel_rfl) (by kernel_rfl)
theorem mk_group_l1_le (a1 : Int) (a3 : Int) (a6 : List (Trust)) (a8 : Int) (a10 : List (Int)) (a12 : Int) (a14 : Int) (a16 : List (Int)) (a18 : List (Trust)) : Le (
    bif (ltB a8 3) then
      mk_group_l2 a1 a3 a6 a8 a8 a10 a12 a14 a16 a18 1 ([] : List (Int)) ([] : List (Trust))
    else
      Option.bind (mk_Tape_N 4 a10 a12) fun x0 =>
      bif (eqB x0.1 0) then
        chk (((List.length a6 : Nat) : Int) ≠ 0) <|
        nth a6 (remI .i64 a3 ((List.length a6 : Nat) : Int)) fun _ =>
        nthN a6 (Int.toNat (remI .i64 a3 ((List.length a6 : Nat) : Int))) fun y1 =>
        some ((Trust.mk y1.Threshold y1.Nodes y1.Inner), x0.2.1, x0.2.2)
      else
        Option.bind (mk_Tape_Range (if (subI .i64 ((List.length a6 : Nat) : Int) 1) > 1 then (subI .i64 ((List.length a6 : Nat) : Int) 1) else 1) ((List.length a6 : Nat) : Int) x0.2.1 x0.2.2) fun x2 =>
        some ((Trust.mk x2.1 ([] : List (Int)) a6), x2.2.1, x2.2.2)
  ) (mk_group_l1 a1 a3 a6 a8 a10 a12 a14 a16 a18) :=
  goC_loopAt (T := tn) (o := ⟨[.ag .Trust], [[.lf (.l .i64), .lf (.i .i64)]]⟩) sigOk 100000 (b := codeAt Tryd.f44 [1, 1, 0, 1, 0, 0]) (by kernel_rfl) (by kernel_rfl)
theorem ref02_Same_l1_le (a2 : Int) (a4 : Int) (a6 : Int) (a8 : List (Int)) (a10 : List (Trust)) (a12 : Int) (a14 : List (Int)) (a16 : List (Trust)) : Le (
    bif (ltB a4 a2) then
      nth a10 a4 fun y0 =>
      nth a16 a4 fun y1 =>
      Option.bind (ref02_Same y0 y1) fun x2 =>
      bif (!x2) then
        some false
      else
        ref02_Same_l1 a2 (addI .i64 a4 1) a6 a8 a10 a12 a14 a16
    else
      some true
  ) (ref02_Same_l1 a2 a4 a6 a8 a10 a12 a14 a16) :=
  goC_loopAt (T := tn) (o := ⟨[.lf .b], []⟩) sigOk 100000 (b := codeAt Tryd.f21 [1, 1, 0, 1, 0, 0]) (by kernel_rfl) (by kernel_rfl)
theorem ref01_Same_l1_le (a0 : List (Int)) (a2 : List (Int)) (a4 : Int) (a6 : Int) : Le (
    bif (ltB a6 a4) then
      nth a0 a6 fun y0 =>
      nth a2 a6 fun y1 =>
      bif (neB y0 y1) then
        some false
      else
        ref01_Same_l1 a0 a2 a4 (addI .i64 a6 1)
    else
      some true
  ) (ref01_Same_l1 a0 a2 a4 a6) :=
  goC_loopAt (T := tn) (o := ⟨[.lf .b], []⟩) sigOk 100000 (b := codeAt Tryd.f46 [1, 1, 0, 1, 0, 0]) (by kernel_rfl) (by kernel_rfl)
theorem mk_trust_l2_le (a1 : Int) (a3 : Int) (a7 : Int) (a9 : List (Int)) (a11 : Int) (a13 : Int) (a15 : List (Int)) (a17 : List (Trust)) (a19 : Int) (a21 : List (Int)) (a23 : List (Trust)) : Le (
    bif (ltB 0 a7) then
      Option.bind (mk_trust a1 (subI .i64 a3 1) a9 a11) fun x0 =>
      capOk (List.length a23 + List.length ([(Trust.mk x0.1.Threshold x0.1.Nodes x0.1.Inner)] : List (Trust))) <|
      mk_trust_l2 a1 a3 (subI .i64 a7 1) x0.2.1 x0.2.2 a13 a15 a17 a19 a21 (a23 ++ ([(Trust.mk x0.1.Threshold x0.1.Nodes x0.1.Inner)] : List (Trust)))
    else
      bif (ltB 0 ((List.length a23 : Nat) : Int)) then
        Option.bind (mk_Tape_N 3 a9 a11) fun x1 =>
        bif (eqB x1.1 0) then
          Option.bind (mk_Tape_Range 1 (addI .i64 ((List.length ([] : List (Int)) : Nat) : Int) ((List.length a23 : Nat) : Int)) x1.2.1 x1.2.2) fun x2 =>
          some ((Trust.mk x2.1 ([] : List (Int)) a23), x2.2.1, x2.2.2)
        else
          Option.bind (mk_Tape_Range 1 (addI .i64 ((List.length a21 : Nat) : Int) ((List.length a23 : Nat) : Int)) x1.2.1 x1.2.2) fun x3 =>
          some ((Trust.mk x3.1 a21 a23), x3.2.1, x3.2.2)
      else
        Option.bind (mk_Tape_Range 1 (addI .i64 ((List.length a21 : Nat) : Int) ((List.length a23 : Nat) : Int)) a9 a11) fun x4 =>
        some ((Trust.mk x4.1 a21 a23), x4.2.1, x4.2.2)
  ) (mk_trust_l2 a1 a3 a7 a9 a11 a13 a15 a17 a19 a21 a23) :=
  goC_loopAt (T := tn) (o := ⟨[.ag .Trust], [[.lf (.l .i64), .lf (.i .i64)]]⟩) sigOk 100000 (b := codeAt Tryd.f31 [1, 1, 1, 1, 0, 1, 0, 0, 1, 0, 0]) (by kernel_rfl) (by kernel_rfl)
theorem mk_Tape_Order_l2_le (a1 : List (Int)) (a3 : Int) (a5 : List (Int)) (a7 : Int) : Le (
    bif (ltB 0 a3) then
      Option.bind (mk_Tape_N (addI .i64 a3 1) a5 a7) fun x0 =>
      nth a1 x0.1 fun _ =>
      nth a1 a3 fun _ =>
      nthN a1 (Int.toNat x0.1) fun y1 =>
      nthN a1 (Int.toNat a3) fun y2 =>
      nth a1 a3 fun _ =>
      nthN a1 (Int.toNat a3) fun y3 =>
      nth (List.set a1 (Int.toNat a3) y1) x0.1 fun _ =>
      nthN (List.set a1 (Int.toNat a3) y1) (Int.toNat x0.1) fun y4 =>
      mk_Tape_Order_l2 (List.set (List.set a1 (Int.toNat a3) y1) (Int.toNat x0.1) y2) (subI .i64 a3 1) x0.2.1 x0.2.2
    else
      some (a1, a5, a7)
  ) (mk_Tape_Order_l2 a1 a3 a5 a7) :=
  goC_loopAt (T := tn) (o := ⟨[.lf (.l .i64)], [[.lf (.l .i64), .lf (.i .i64)]]⟩) sigOk 100000 (b := codeAt Tryd.f51 [1, 1, 1, 0, 1, 0, 0]) (by kernel_rfl) (by kernel_rfl)
theorem ref02_check_l2_le (a0 : List (Trust)) (a2 : Int) (a4 : Int) (a6 : Int) (a8 : List (Int)) (a10 : List (Trust)) : Le (
    bif (ltB a4 a2) then
      nth a0 a4 fun y0 =>
      Option.bind (ref02_check y0) fun x1 =>
      bif (neB x1 0) then
        some x1
      else
        ref02_check_l2 a0 a2 (addI .i64 a4 1) a6 a8 a10
    else
      some 0
  ) (ref02_check_l2 a0 a2 a4 a6 a8 a10) :=
  goC_loopAt (T := tn) (o := ⟨[.lf (.i .i64)], []⟩) sigOk 100000 (b := codeAt Tryd.f39 [1, 1, 1, 1, 0, 1, 0, 0]) (by kernel_rfl) (by kernel_rfl)
theorem ref01_Of_l1_le (a0 : Int) (a2 : List (Int)) (a4 : Int) (a6 : Int) : Le (
    bif (ltB a6 a4) then
      nth a2 a6 fun y0 =>
      bif (ltB y0 0) then
        some (0, 5)
      else
        bif (leB 10 y0) then
          some (0, 5)
        else
          Option.bind (ref01_Has a0 y0) fun x1 =>
          bif x1 then
            some (0, 6)
          else
            chk (0 ≤ y0) <|
            ref01_Of_l1 (orI .i64 a0 (shlI .i64 1 y0)) a2 a4 (addI .i64 a6 1)
    else
      some (a0, 0)
  ) (ref01_Of_l1 a0 a2 a4 a6) :=
  goC_loopAt (T := tn) (o := ⟨[.lf (.i .i64), .lf (.i .i64)], []⟩) sigOk 100000 (b := codeAt Tryd.f54 [1, 1, 0, 1, 0, 0]) (by kernel_rfl) (by kernel_rfl)
theorem ref03_reader_number_l2_le (a1 : Int) (a3 : List UInt8) (a5 : Int) (a7 : Int) (a9 : List UInt8) (a11 : Int) : Le (
    bif (ltB a7 ((List.length a3 : Nat) : Int)) then
      nth a3 a7 fun y0 =>
      ref03_reader_number_l2 a1 a3 (addI .i64 (mulI .i64 10 a5) (IntKind.wrap .i64 (subI .u8 ((y0.toNat : Nat) : Int) 48))) (addI .i64 a7 1) a9 a11
    else
      some (a5, true, a9, a1)
  ) (ref03_reader_number_l2 a1 a3 a5 a7 a9 a11) :=
  goC_loopAt (T := tn) (o := ⟨[.lf (.i .i64), .lf .b], [[.lf .s, .lf (.i .i64)]]⟩) sigOk 100000 (b := codeAt Tryd.f55 [1, 1, 1, 1, 1, 1, 1, 0, 1, 0, 0]) (by kernel_rfl) (by kernel_rfl)
theorem ref03_reader_rest_l2_le (a3 : Bool) (a5 : List UInt8) (a7 : Int) (a9 : Int) (a11 : List (Int)) (a13 : List (Trust)) (a15 : Int) (a17 : List (Int)) (a19 : List (Trust)) : Le (
    Option.bind (ref03_reader_number a5 a7) fun x0 =>
    bif (!x0.2.1) then
      some ((Trust.mk a15 a17 a19), false, x0.2.2.1, x0.2.2.2)
    else
      Option.bind (ref03_reader_skip x0.2.2.1 x0.2.2.2) fun x1 =>
      bif (ltB x1.2 ((List.length x1.1 : Nat) : Int)) then
        nth x1.1 x1.2 fun y2 =>
        bif (eqB ((y2.toNat : Nat) : Int) 111) then
          Option.bind (ref03_reader_rest x0.1 x1.1 x1.2) fun x3 =>
          bif (!x3.2.1) then
            some ((Trust.mk a15 a17 a19), false, x3.2.2.1, x3.2.2.2)
          else
            capOk (List.length a19 + List.length ([(Trust.mk x3.1.Threshold x3.1.Nodes x3.1.Inner)] : List (Trust))) <|
            Option.bind (ref03_reader_sign ([41] : List UInt8) x3.2.2.1 x3.2.2.2) fun x4 =>
            bif x4.1 then
              some ((Trust.mk a15 a17 (a19 ++ ([(Trust.mk x3.1.Threshold x3.1.Nodes x3.1.Inner)] : List (Trust)))), true, x4.2.1, x4.2.2)
            else
              Option.bind (ref03_reader_sign ([44] : List UInt8) x4.2.1 x4.2.2) fun x5 =>
              bif (!x5.1) then
                some ((Trust.mk a15 a17 (a19 ++ ([(Trust.mk x3.1.Threshold x3.1.Nodes x3.1.Inner)] : List (Trust)))), false, x5.2.1, x5.2.2)
              else
                ref03_reader_rest_l2 false x5.2.1 x5.2.2 a9 a11 a13 a15 a17 (a19 ++ ([(Trust.mk x3.1.Threshold x3.1.Nodes x3.1.Inner)] : List (Trust)))
        else
          capOk (List.length a17 + List.length ([x0.1] : List (Int))) <|
          Option.bind (ref03_reader_sign ([41] : List UInt8) x1.1 x1.2) fun x6 =>
          bif x6.1 then
            some ((Trust.mk a15 (a17 ++ ([x0.1] : List (Int))) a19), true, x6.2.1, x6.2.2)
          else
            Option.bind (ref03_reader_sign ([44] : List UInt8) x6.2.1 x6.2.2) fun x7 =>
            bif (!x7.1) then
              some ((Trust.mk a15 (a17 ++ ([x0.1] : List (Int))) a19), false, x7.2.1, x7.2.2)
            else
              ref03_reader_rest_l2 false x7.2.1 x7.2.2 a9 a11 a13 a15 (a17 ++ ([x0.1] : List (Int))) a19
      else
        capOk (List.length a17 + List.length ([x0.1] : List (Int))) <|
        Option.bind (ref03_reader_sign ([41] : List UInt8) x1.1 x1.2) fun x8 =>
        bif x8.1 then
          some ((Trust.mk a15 (a17 ++ ([x0.1] : List (Int))) a19), true, x8.2.1, x8.2.2)
        else
          Option.bind (ref03_reader_sign ([44] : List UInt8) x8.2.1 x8.2.2) fun x9 =>
          bif (!x9.1) then
            some ((Trust.mk a15 (a17 ++ ([x0.1] : List (Int))) a19), false, x9.2.1, x9.2.2)
          else
            ref03_reader_rest_l2 false x9.2.1 x9.2.2 a9 a11 a13 a15 (a17 ++ ([x0.1] : List (Int))) a19
  ) (ref03_reader_rest_l2 a3 a5 a7 a9 a11 a13 a15 a17 a19) :=
  goC_loopAt (T := tn) (o := ⟨[.ag .Trust, .lf .b], [[.lf .s, .lf (.i .i64)]]⟩) sigOk 100000 (b := codeAt Tryd.f56 [1, 1, 1, 0, 0]) (by kernel_rfl) (by kernel_rfl)
theorem deletion_level_l2_le (a0 : Int) (a4 : List (Trust)) (a6 : Int) (a8 : Int) (a10 : Int) (a12 : List (Int)) (a14 : List (Trust)) (a16 : Int) (a18 : List (Int)) (a20 : List (Trust)) (a22 : Int) (a24 : List (Int)) (a26 : List (Trust)) : Le (
    bif (ltB a8 a6) then
      nth a4 a8 fun y0 =>
      Option.bind (deletion_level y0 a0) fun x1 =>
      bif (eqB x1.Threshold 0) then
        Option.bind (deletion_lowered a22 1) fun x2 =>
        deletion_level_l2 a0 a4 a6 (addI .i64 a8 1) a10 a12 a14 a16 a18 a20 x2 a24 a26
      else
        capOk (List.length a26 + List.length ([(Trust.mk x1.Threshold x1.Nodes x1.Inner)] : List (Trust))) <|
        deletion_level_l2 a0 a4 a6 (addI .i64 a8 1) a10 a12 a14 a16 a18 a20 a22 a24 (a26 ++ ([(Trust.mk x1.Threshold x1.Nodes x1.Inner)] : List (Trust)))
    else
      some (Trust.mk a22 a24 a26)
  ) (deletion_level_l2 a0 a4 a6 a8 a10 a12 a14 a16 a18 a20 a22 a24 a26) :=
  goC_loopAt (T := tn) (o := ⟨[.ag .Trust], []⟩) sigOk 100000 (b := codeAt Tryd.f34 [1, 1, 1, 0, 1, 0, 0]) (by kernel_rfl) (by kernel_rfl)
theorem ref03_text_l2_le (a0 : List UInt8) (a2 : List UInt8) (a4 : List (Trust)) (a6 : Int) (a8 : Int) (a10 : Int) (a12 : List (Int)) (a14 : List (Trust)) : Le (
    bif (ltB a8 a6) then
      nth a4 a8 fun y0 =>
      chk (List.length a0 + List.length a2 ≤ 9223372036854775807) <|
      Option.bind (ref03_text y0) fun x1 =>
      chk (List.length (a0 ++ a2) + List.length x1 ≤ 9223372036854775807) <|
      ref03_text_l2 ((a0 ++ a2) ++ x1) ([44, 32] : List UInt8) a4 a6 (addI .i64 a8 1) a10 a12 a14
    else
      chk (List.length a0 + List.length ([41] : List UInt8) ≤ 9223372036854775807) <|
      some (a0 ++ ([41] : List UInt8))
  ) (ref03_text_l2 a0 a2 a4 a6 a8 a10 a12 a14) :=
  goC_loopAt (T := tn) (o := ⟨[.lf .s], []⟩) sigOk 100000 (b := codeAt Tryd.f58 [1, 1, 1, 1, 0, 1, 0, 0]) (by kernel_rfl) (by kernel_rfl)
theorem ref02_Satisfied_l2_le (a0 : Int) (a3 : Int) (a5 : List (Trust)) (a7 : Int) (a9 : Int) (a11 : Int) (a13 : List (Int)) (a15 : List (Trust)) : Le (
    bif (ltB a9 a7) then
      nth a5 a9 fun y0 =>
      Option.bind (ref02_Satisfied y0 a0) fun x1 =>
      bif x1 then
        ref02_Satisfied_l2 a0 (addI .i64 a3 1) a5 a7 (addI .i64 a9 1) a11 a13 a15
      else
        ref02_Satisfied_l2 a0 a3 a5 a7 (addI .i64 a9 1) a11 a13 a15
    else
      some (leB a11 a3)
  ) (ref02_Satisfied_l2 a0 a3 a5 a7 a9 a11 a13 a15) :=
  goC_loopAt (T := tn) (o := ⟨[.lf .b], []⟩) sigOk 100000 (b := codeAt Tryd.f13 [1, 1, 1, 1, 0, 1, 0, 0]) (by kernel_rfl) (by kernel_rfl)
theorem ref02_Uses_l2_le (a0 : Int) (a2 : List (Trust)) (a4 : Int) (a6 : Int) (a8 : Int) (a10 : List (Int)) (a12 : List (Trust)) : Le (
    bif (ltB a6 a4) then
      nth a2 a6 fun y0 =>
      Option.bind (ref02_Uses y0) fun x1 =>
      ref02_Uses_l2 (orI .i64 a0 x1) a2 a4 (addI .i64 a6 1) a8 a10 a12
    else
      some a0
  ) (ref02_Uses_l2 a0 a2 a4 a6 a8 a10 a12) :=
  goC_loopAt (T := tn) (o := ⟨[.lf (.i .i64)], []⟩) sigOk 100000 (b := codeAt Tryd.f15 [1, 1, 1, 0, 1, 0, 0]) (by kernel_rfl) (by kernel_rfl)
theorem ref09_Elimination_l2_le (a1 : Int) (a3 : List (Int)) (a5 : Bool) (a7 : List (Int)) (a9 : Int) (a11 : Int) (a13 : List (Member)) : Le (
    bif (ltB a11 a9) then
      nth a7 a11 fun y0 =>
      nth a13 y0 fun y1 =>
      Option.bind (ref02_Satisfied y1.Trust a1) fun x2 =>
      bif (!x2) then
        chk (0 ≤ y0) <|
        capOk (List.length a3 + List.length ([y0] : List (Int))) <|
        ref09_Elimination_l1 (subI .i64 a1 (shlI .i64 1 y0)) (a3 ++ ([y0] : List (Int))) true a13
      else
        ref09_Elimination_l2 a1 a3 a5 a7 a9 (addI .i64 a11 1) a13
    else
      ref09_Elimination_l3 a1 a3 a5 a7 a9 a11 false a13
  ) (ref09_Elimination_l2 a1 a3 a5 a7 a9 a11 a13) :=
  goC_loopAt (T := tn) (o := ⟨[.lf (.l .i64)], []⟩) sigOk 100000 (b := codeAt Tryd.f49 [1, 1, 1, 1, 0, 1, 0, 0, 1, 0, 1, 1, 0, 0]) (by kernel_rfl) (by kernel_rfl)
theorem law13_DeletionAnswers_l3_le (a0 : Int) (a7 : Int) (a10 : List (Int)) (a12 : Int) (a14 : Int) (a16 : List (Trust)) (a18 : Int) (a20 : Int) (a22 : List (Int)) (a24 : Int) (a26 : Int) (a28 : Int) (a30 : List (Int)) (a32 : List (Trust)) (a34 : List (Member)) (a36 : List (Int)) (a38 : Int) (a40 : List (Member)) (a42 : Int) (a44 : List (Int)) (a46 : List (Trust)) (a48 : Int) (a50 : List (Int)) (a52 : List (Trust)) : Le (
    bif (ltB a26 a24) then
      nth a22 a26 fun y0 =>
      Option.bind (deletion_Trust (Trust.mk a48 a50 a52) y0 a7) fun x1 =>
      Option.bind (ref13_Trust (Trust.mk a48 a50 a52) y0 a7) fun x2 =>
      Option.bind (ref02_Same x1 x2) fun x3 =>
      bif (!x3) then
        some false
      else
        law13_DeletionAnswers_l3 a0 a7 a10 a12 a14 a16 a18 a20 a22 a24 (addI .i64 a26 1) a28 a30 a32 a34 a36 a38 a40 a42 a44 a46 a48 a50 a52
    else
      law13_DeletionAnswers_l2 a0 a7 a10 a12 a14 a16 a18 (addI .i64 a20 1) a28 a30 a32 a34 a36 a38 a40 a42 a44 a46
  ) (law13_DeletionAnswers_l3 a0 a7 a10 a12 a14 a16 a18 a20 a22 a24 a26 a28 a30 a32 a34 a36 a38 a40 a42 a44 a46 a48 a50 a52) :=
  goC_loopAt (T := tn) (o := ⟨[.lf .b], []⟩) sigOk 100000 (b := codeAt Tryd.f5 [1, 1, 1, 1, 1, 0, 1, 0, 0, 1, 1, 0, 0, 1, 0, 1, 0, 0, 1, 1, 0, 0, 1, 1, 0, 0]) (by kernel_rfl) (by kernel_rfl)
theorem ref13_Trust_le (t_0 : Trust) (node_1 : Int) (s_2 : Int) : Le (
    Option.bind (ref01_Valid s_2) fun x0 =>
    bif (!x0) then
      some (Trust.mk t_0.Threshold t_0.Nodes t_0.Inner)
    else
      Option.bind (ref13_less t_0 s_2) fun x1 =>
      bif (leB x1.Threshold 0) then
        some (Trust.mk 1 ([node_1] : List (Int)) ([] : List (Trust)))
      else
        some (Trust.mk x1.Threshold x1.Nodes x1.Inner)
  ) (ref13_Trust t_0 node_1 s_2) :=
  callC_le (T := tn) (c := bodyOf Tryd.f22) (o := ⟨[.ag .Trust], []⟩) sigOk 100000 (by kernel_rfl) Tryd.func22 (by kernel_rfl) (by kernel_rfl) (by kernel_rfl)
theorem ref13_less_le (t_0 : Trust) (s_1 : Int) : Le (
    ref13_less_l1 s_1 t_0.Nodes ((List.length t_0.Nodes : Nat) : Int) 0 t_0.Threshold t_0.Nodes t_0.Inner 0 ([] : List (Int)) ([] : List (Trust)) t_0.Threshold ([] : List (Int)) ([] : List (Trust))
  ) (ref13_less t_0 s_1) :=
  callC_le (T := tn) (c := bodyOf Tryd.f47) (o := ⟨[.ag .Trust], []⟩) sigOk 100000 (by kernel_rfl) Tryd.func47 (by kernel_rfl) (by kernel_rfl) (by kernel_rfl)
theorem law13_DeletionAnswers_l4_le (a0 : Int) (a7 : Int) (a9 : List (Int)) (a11 : Int) (a13 : Int) (a15 : List (Config)) (a17 : Int) (a19 : Int) (a21 : Int) (a23 : List (Int)) (a25 : List (Trust)) (a27 : List (Member)) (a29 : List (Int)) (a31 : Int) (a33 : List (Member)) (a35 : Int) (a37 : List (Int)) (a39 : List (Trust)) : Le (
    bif (ltB a19 a17) then
      nth a15 a19 fun y0 =>
      Option.bind (deletion_Delete y0 a7) fun x1 =>
      Option.bind (ref13_Delete y0 a7) fun x2 =>
      Option.bind (ref06_Same x1 x2) fun x3 =>
      bif (!x3) then
        some false
      else
        law13_DeletionAnswers_l4 a0 a7 a9 a11 a13 a15 a17 (addI .i64 a19 1) a21 a23 a25 a27 a29 a31 a33 a35 a37 a39
    else
      law13_DeletionAnswers_l1 a0 a9 a11 (addI .i64 a13 1) a21 a23 a25 a27 a29 a31 a33 a35 a37 a39
  ) (law13_DeletionAnswers_l4 a0 a7 a9 a11 a13 a15 a17 a19 a21 a23 a25 a27 a29 a31 a33 a35 a37 a39) :=
  goC_loopAt (T := tn) (o := ⟨[.lf .b], []⟩) sigOk 100000 (b := codeAt Tryd.f5 [1, 1, 1, 1, 1, 0, 1, 0, 0, 1, 1, 0, 0, 1, 1, 1, 0, 0]) (by kernel_rfl) (by kernel_rfl)
theorem ref13_Delete_le (c_0 : Config) (s_1 : Int) : Le (
    Option.bind (ref01_Valid s_1) fun x0 =>
    bif (!x0) then
      some (Config.mk c_0.Members)
    else
      ref13_Delete_l1 s_1 c_0.Members ((List.length c_0.Members : Nat) : Int) 0 c_0.Members ([] : List (Member)) ([] : List (Member))
  ) (ref13_Delete c_0 s_1) :=
  callC_le (T := tn) (c := bodyOf Tryd.f26) (o := ⟨[.ag .Config], []⟩) sigOk 100000 (by kernel_rfl) Tryd.func26 (by kernel_rfl) (by kernel_rfl) (by kernel_rfl)
theorem mk_BentConfig_l1_le (a2 : Bool) (a4 : List (Int)) (a6 : Int) (a8 : List (Member)) (a10 : List (Member)) (a12 : List (Member)) : Le (
    bif (leB ((List.length a12 : Nat) : Int) 10) then
      capOk (List.length a12 + List.length ([(Member.mk false (Trust.mk 0 ([] : List (Int)) ([] : List (Trust))))] : List (Member))) <|
      mk_BentConfig_l2 a4 a6 a8 a10 (a12 ++ ([(Member.mk false (Trust.mk 0 ([] : List (Int)) ([] : List (Trust))))] : List (Member)))
    else
      some ((Config.mk a12), a4, a6)
  ) (mk_BentConfig_l1 a2 a4 a6 a8 a10 a12) :=
  goC_loopAt (T := tn) (o := ⟨[.ag .Config], [[.lf (.l .i64), .lf (.i .i64)]]⟩) sigOk 100000 (b := codeAt Tryd.f23 [1, 1, 1, 1, 0, 1, 0, 1, 1, 1, 1, 1, 1, 1, 1, 0, 0]) (by kernel_rfl) (by kernel_rfl)
theorem mk_BentTrust_l3_le (a2 : Int) (a4 : List (Int)) (a6 : Int) (a8 : Int) (a10 : List (Int)) (a12 : List (Trust)) (a14 : Int) (a16 : List (Int)) (a18 : List (Trust)) (a20 : Int) (a22 : List (Int)) (a24 : List (Trust)) : Le (
    bif (ltB 0 a2) then
      mk_BentTrust_l3 (subI .i64 a2 1) a4 a6 a8 a10 a12 a14 a16 a18 1 ([] : List (Int)) ([(Trust.mk a20 a22 a24)] : List (Trust))
    else
      some ((Trust.mk a20 a22 a24), a4, a6)
  ) (mk_BentTrust_l3 a2 a4 a6 a8 a10 a12 a14 a16 a18 a20 a22 a24) :=
  goC_loopAt (T := tn) (o := ⟨[.ag .Trust], [[.lf (.l .i64), .lf (.i .i64)]]⟩) sigOk 100000 (b := codeAt Tryd.f20 [1, 1, 0, 1, 0, 1, 1, 1, 1, 1, 1, 1, 1, 1, 0, 1, 0, 1, 0, 0]) (by kernel_rfl) (by kernel_rfl)
theorem mk_group_l2_le (a1 : Int) (a3 : Int) (a6 : List (Trust)) (a8 : Int) (a11 : Int) (a13 : List (Int)) (a15 : Int) (a17 : Int) (a19 : List (Int)) (a21 : List (Trust)) (a23 : Int) (a25 : List (Int)) (a27 : List (Trust)) : Le (
    bif (ltB a11 a1) then
      capOk (List.length a25 + List.length ([a11] : List (Int))) <|
      mk_group_l2 a1 a3 a6 a8 (addI .i64 a11 3) a13 a15 a17 a19 a21 a23 (a25 ++ ([a11] : List (Int))) a27
    else
      bif (ltB 0 ((List.length a25 : Nat) : Int)) then
        Option.bind (mk_Tape_Range 1 ((List.length a25 : Nat) : Int) a13 a15) fun x0 =>
        capOk (List.length a6 + List.length ([(Trust.mk x0.1 a25 a27)] : List (Trust))) <|
        mk_group_l1 a1 a3 (a6 ++ ([(Trust.mk x0.1 a25 a27)] : List (Trust))) (addI .i64 a8 1) x0.2.1 x0.2.2 a17 a19 a21
      else
        mk_group_l1 a1 a3 a6 (addI .i64 a8 1) a13 a15 a17 a19 a21
  ) (mk_group_l2 a1 a3 a6 a8 a11 a13 a15 a17 a19 a21 a23 a25 a27) :=
  goC_loopAt (T := tn) (o := ⟨[.ag .Trust], [[.lf (.l .i64), .lf (.i .i64)]]⟩) sigOk 100000 (b := codeAt Tryd.f44 [1, 1, 0, 1, 0, 0, 1, 0, 0, 1, 0, 1, 0, 0]) (by kernel_rfl) (by kernel_rfl)
theorem ref09_Elimination_l3_le (a1 : Int) (a3 : List (Int)) (a5 : Bool) (a7 : List (Int)) (a9 : Int) (a11 : Int) (a13 : Bool) (a15 : List (Member)) : Le (
    bif a5 then
      Option.bind (ref01_Nodes a1) fun x0 =>
      ref09_Elimination_l2 a1 a3 false x0 ((List.length x0 : Nat) : Int) 0 a15
    else
      some a3
  ) (ref09_Elimination_l3 a1 a3 a5 a7 a9 a11 a13 a15) :=
  goC_loopAt (T := tn) (o := ⟨[.lf (.l .i64)], []⟩) sigOk 100000 (b := codeAt Tryd.f49 [1, 1, 1, 1, 0, 1, 0, 0]) (by kernel_rfl) (by kernel_rfl)
theorem ref13_less_l1_le (a0 : Int) (a5 : List (Int)) (a7 : Int) (a9 : Int) (a11 : Int) (a13 : List (Int)) (a15 : List (Trust)) (a17 : Int) (a19 : List (Int)) (a21 : List (Trust)) (a23 : Int) (a25 : List (Int)) (a27 : List (Trust)) : Le (
    bif (ltB a9 a7) then
      nth a5 a9 fun y0 =>
      Option.bind (ref01_Has a0 y0) fun x1 =>
      bif x1 then
        Option.bind (ref13_lower a23) fun x2 =>
        ref13_less_l1 a0 a5 a7 (addI .i64 a9 1) a11 a13 a15 a17 a19 a21 x2 a25 a27
      else
        capOk (List.length a25 + List.length ([y0] : List (Int))) <|
        ref13_less_l1 a0 a5 a7 (addI .i64 a9 1) a11 a13 a15 a17 a19 a21 a23 (a25 ++ ([y0] : List (Int))) a27
    else
      ref13_less_l2 a0 a15 ((List.length a15 : Nat) : Int) 0 a11 a13 a15 a17 a19 a21 a23 a25 a27
  ) (ref13_less_l1 a0 a5 a7 a9 a11 a13 a15 a17 a19 a21 a23 a25 a27) :=
  goC_loopAt (T := tn) (o := ⟨[.ag .Trust], []⟩) sigOk 100000 (b := codeAt Tryd.f47 [1, 1, 0, 1, 0, 0]) (by kernel_rfl) (by kernel_rfl)
theorem ref13_lower_le (n_0 : Int) : Le (
    bif (leB n_0 0) then
      some n_0
    else
      some (subI .i64 n_0 1)
  ) (ref13_lower n_0) :=
  callC_le (T := tn) (c := bodyOf Tryd.f59) (o := ⟨[.lf (.i .i64)], []⟩) sigOk 100000 (by kernel_rfl) Tryd.func59 (by kernel_rfl) (by kernel_rfl) (by kernel_rfl)
theorem ref13_Delete_l1_le (a0 : Int) (a4 : List (Member)) (a6 : Int) (a8 : Int) (a10 : List (Member)) (a12 : List (Member)) (a14 : List (Member)) : Le (
    bif (ltB a8 a6) then
      nth a4 a8 fun y0 =>
      Option.bind (ref01_Has a0 a8) fun x1 =>
      bif x1 then
        capOk (List.length a14 + List.length ([(Member.mk false (Trust.mk 0 ([] : List (Int)) ([] : List (Trust))))] : List (Member))) <|
        ref13_Delete_l1 a0 a4 a6 (addI .i64 a8 1) a10 a12 (a14 ++ ([(Member.mk false (Trust.mk 0 ([] : List (Int)) ([] : List (Trust))))] : List (Member)))
      else
        bif y0.Declared then
          Option.bind (ref13_Trust y0.Trust a8 a0) fun x2 =>
          capOk (List.length a14 + List.length ([(Member.mk y0.Declared (Trust.mk x2.Threshold x2.Nodes x2.Inner))] : List (Member))) <|
          ref13_Delete_l1 a0 a4 a6 (addI .i64 a8 1) a10 a12 (a14 ++ ([(Member.mk y0.Declared (Trust.mk x2.Threshold x2.Nodes x2.Inner))] : List (Member)))
        else
          capOk (List.length a14 + List.length ([(Member.mk y0.Declared (Trust.mk y0.Trust.Threshold y0.Trust.Nodes y0.Trust.Inner))] : List (Member))) <|
          ref13_Delete_l1 a0 a4 a6 (addI .i64 a8 1) a10 a12 (a14 ++ ([(Member.mk y0.Declared (Trust.mk y0.Trust.Threshold y0.Trust.Nodes y0.Trust.Inner))] : List (Member)))
    else
      some (Config.mk a14)
  ) (ref13_Delete_l1 a0 a4 a6 a8 a10 a12 a14) :=
  goC_loopAt (T := tn) (o := ⟨[.ag .Config], []⟩) sigOk 100000 (b := codeAt Tryd.f26 [1, 1, 1, 0, 1, 0, 0]) (by kernel_rfl) (by kernel_rfl)
theorem mk_BentConfig_l2_le (a2 : List (Int)) (a4 : Int) (a6 : List (Member)) (a8 : List (Member)) (a10 : List (Member)) : Le (
    bif (leB ((List.length a10 : Nat) : Int) 10) then
      capOk (List.length a10 + List.length ([(Member.mk false (Trust.mk 0 ([] : List (Int)) ([] : List (Trust))))] : List (Member))) <|
      mk_BentConfig_l2 a2 a4 a6 a8 (a10 ++ ([(Member.mk false (Trust.mk 0 ([] : List (Int)) ([] : List (Trust))))] : List (Member)))
    else
      some ((Config.mk a10), a2, a4)
  ) (mk_BentConfig_l2 a2 a4 a6 a8 a10) :=
  goC_loopAt (T := tn) (o := ⟨[.ag .Config], [[.lf (.l .i64), .lf (.i .i64)]]⟩) sigOk 100000 (b := codeAt Tryd.f23 [1, 1, 1, 1, 0, 1, 0, 1, 1, 1, 1, 1, 1, 1, 1, 0, 0]) (by kernel_rfl) (by kernel_rfl)
theorem ref13_less_l2_le (a0 : Int) (a4 : List (Trust)) (a6 : Int) (a8 : Int) (a10 : Int) (a12 : List (Int)) (a14 : List (Trust)) (a16 : Int) (a18 : List (Int)) (a20 : List (Trust)) (a22 : Int) (a24 : List (Int)) (a26 : List (Trust)) : Le (
    bif (ltB a8 a6) then
      nth a4 a8 fun y0 =>
      Option.bind (ref13_less y0 a0) fun x1 =>
      bif (leB x1.Threshold 0) then
        Option.bind (ref13_lower a22) fun x2 =>
        ref13_less_l2 a0 a4 a6 (addI .i64 a8 1) a10 a12 a14 a16 a18 a20 x2 a24 a26
      else
        capOk (List.length a26 + List.length ([(Trust.mk x1.Threshold x1.Nodes x1.Inner)] : List (Trust))) <|
        ref13_less_l2 a0 a4 a6 (addI .i64 a8 1) a10 a12 a14 a16 a18 a20 a22 a24 (a26 ++ ([(Trust.mk x1.Threshold x1.Nodes x1.Inner)] : List (Trust)))
    else
      some (Trust.mk a22 a24 a26)
  ) (ref13_less_l2 a0 a4 a6 a8 a10 a12 a14 a16 a18 a20 a22 a24 a26) :=
  goC_loopAt (T := tn) (o := ⟨[.ag .Trust], []⟩) sigOk 100000 (b := codeAt Tryd.f47 [1, 1, 1, 0, 1, 0, 0]) (by kernel_rfl) (by kernel_rfl)
end Go.Proofs.YtfemjbmfpnpjfaaDoor
