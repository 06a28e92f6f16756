/- What the functions come to, printed by a program and checked by the kernel. -/
import Derived.Test.YtfailfoncbbgjaaP11Df
namespace Go.Proofs.Ytfailfoncbbgjaa
open Go Go.Ab
set_option maxRecDepth 100000
theorem ref02_Satisfied_le (t_0 : Trust) (s_1 : Int) : Le (
    Option.bind (ref01_Valid s_1) fun x0 =>
    bif (!x0) then
      some false
    else
      ref02_Satisfied_l1 s_1 0 t_0.Nodes ((List.length t_0.Nodes : Nat) : Int) 0 t_0.Threshold t_0.Nodes t_0.Inner
  ) (ref02_Satisfied t_0 s_1) :=
  callC_le (T := tn) (c := bodyOf Try.f20) (o := ⟨[.lf .b], []⟩) sigOk 100000 (by kernel_rfl) Try.func20 (by kernel_rfl) (by kernel_rfl) (by kernel_rfl)
theorem ref01_Valid_le (s_0 : Int) : Le (
    bif (leB 0 s_0) then
      some (leB s_0 1023)
    else
      some false
  ) (ref01_Valid s_0) :=
  callC_le (T := tn) (c := bodyOf Try.f48) (o := ⟨[.lf .b], []⟩) sigOk 100000 (by kernel_rfl) Try.func48 (by kernel_rfl) (by kernel_rfl) (by kernel_rfl)
theorem mk_SmallConfig_l1_le (a1 : Int) (a3 : Int) (a5 : List (Member)) : Le (
    bif (ltB a3 ((List.length a5 : Nat) : Int)) then
      bif (leB a1 400) then
        nth a5 a3 fun y0 =>
        Option.bind (mk_entries y0.Trust a1) fun x1 =>
        mk_SmallConfig_l1 x1 (addI .i64 a3 1) a5
      else
        some (leB a1 400)
    else
      some (leB a1 400)
  ) (mk_SmallConfig_l1 a1 a3 a5) :=
  goC_loopAt (T := tn) (o := ⟨[.lf .b], []⟩) sigOk 100000 (b := codeAt Try.f22 [1, 1, 1, 0, 1, 0, 0]) (by kernel_rfl) (by kernel_rfl)
theorem mk_entries_le (x_0 : Trust) (n_1 : Int) : Le (
    mk_entries_l1 (addI .i64 n_1 (addI .i64 1 ((List.length x_0.Nodes : Nat) : Int))) 0 x_0.Threshold x_0.Nodes x_0.Inner
  ) (mk_entries x_0 n_1) :=
  callC_le (T := tn) (c := bodyOf Try.f49) (o := ⟨[.lf (.i .i64)], []⟩) sigOk 100000 (by kernel_rfl) Try.func49 (by kernel_rfl) (by kernel_rfl) (by kernel_rfl)
theorem mk_Config_l1_le (a2 : Int) (a4 : Int) (a7 : Int) (a9 : List (Int)) (a11 : Int) (a13 : List (Member)) (a15 : List (Member)) : Le (
    bif (ltB a7 a2) then
      bif (eqB a4 0) then
        Option.bind (mk_Trust a2 2 a9 a11) fun x0 =>
        Option.bind (mk_Tape_N 12 x0.2.1 x0.2.2) fun x1 =>
        bif (eqB x1.1 11) then
          capOk (List.length a15 + List.length ([(Member.mk false (Trust.mk 0 ([] : List (Int)) ([] : List (Trust))))] : List (Member))) <|
          mk_Config_l1 a2 a4 (addI .i64 a7 1) x1.2.1 x1.2.2 a13 (a15 ++ ([(Member.mk false (Trust.mk 0 ([] : List (Int)) ([] : List (Trust))))] : List (Member)))
        else
          capOk (List.length a15 + List.length ([(Member.mk true (Trust.mk x0.1.Threshold x0.1.Nodes x0.1.Inner))] : List (Member))) <|
          mk_Config_l1 a2 a4 (addI .i64 a7 1) x1.2.1 x1.2.2 a13 (a15 ++ ([(Member.mk true (Trust.mk x0.1.Threshold x0.1.Nodes x0.1.Inner))] : List (Member)))
      else
        bif (eqB a4 1) then
          Option.bind (mk_most a2 a9 a11) fun x2 =>
          Option.bind (mk_Tape_N 12 x2.2.1 x2.2.2) fun x3 =>
          bif (eqB x3.1 11) then
            capOk (List.length a15 + List.length ([(Member.mk false (Trust.mk 0 ([] : List (Int)) ([] : List (Trust))))] : List (Member))) <|
            mk_Config_l1 a2 a4 (addI .i64 a7 1) x3.2.1 x3.2.2 a13 (a15 ++ ([(Member.mk false (Trust.mk 0 ([] : List (Int)) ([] : List (Trust))))] : List (Member)))
          else
            capOk (List.length a15 + List.length ([(Member.mk true (Trust.mk x2.1.Threshold x2.1.Nodes x2.1.Inner))] : List (Member))) <|
            mk_Config_l1 a2 a4 (addI .i64 a7 1) x3.2.1 x3.2.2 a13 (a15 ++ ([(Member.mk true (Trust.mk x2.1.Threshold x2.1.Nodes x2.1.Inner))] : List (Member)))
        else
          Option.bind (mk_group a2 a7 a9 a11) fun x4 =>
          Option.bind (mk_Tape_N 12 x4.2.1 x4.2.2) fun x5 =>
          bif (eqB x5.1 11) then
            capOk (List.length a15 + List.length ([(Member.mk false (Trust.mk 0 ([] : List (Int)) ([] : List (Trust))))] : List (Member))) <|
            mk_Config_l1 a2 a4 (addI .i64 a7 1) x5.2.1 x5.2.2 a13 (a15 ++ ([(Member.mk false (Trust.mk 0 ([] : List (Int)) ([] : List (Trust))))] : List (Member)))
          else
            capOk (List.length a15 + List.length ([(Member.mk true (Trust.mk x4.1.Threshold x4.1.Nodes x4.1.Inner))] : List (Member))) <|
            mk_Config_l1 a2 a4 (addI .i64 a7 1) x5.2.1 x5.2.2 a13 (a15 ++ ([(Member.mk true (Trust.mk x4.1.Threshold x4.1.Nodes x4.1.Inner))] : List (Member)))
    else
      some ((Config.mk a15), a9, a11)
  ) (mk_Config_l1 a2 a4 a7 a9 a11 a13 a15) :=
  goC_loopAt (T := tn) (o := ⟨[.ag .Config], [[.lf (.l .i64), .lf (.i .i64)]]⟩) sigOk 100000 (b := codeAt Try.f9 [1, 1, 1, 1, 0, 1, 0, 0]) (by kernel_rfl) (by kernel_rfl)
theorem mk_Trust_le (n_1 : Int) (deep_2 : Int) (h0 : List (Int)) (h1 : Int) : Le (
    Option.bind (mk_trust n_1 deep_2 h0 h1) fun x0 =>
    Option.bind (ref02_Valid x0.1) fun x1 =>
    bif (neB x1 0) then
      Option.bind (mk_Tape_N n_1 x0.2.1 x0.2.2) fun x2 =>
      some ((Trust.mk 1 ([x2.1] : List (Int)) ([] : List (Trust))), x2.2.1, x2.2.2)
    else
      some ((Trust.mk x0.1.Threshold x0.1.Nodes x0.1.Inner), x0.2.1, x0.2.2)
  ) (mk_Trust n_1 deep_2 h0 h1) :=
  callC_le (T := tn) (c := bodyOf Try.f31) (o := ⟨[.ag .Trust], [[.lf (.l .i64), .lf (.i .i64)]]⟩) sigOk 100000 (by kernel_rfl) Try.func31 (by kernel_rfl) (by kernel_rfl) (by kernel_rfl)
theorem mk_most_le (m_1 : Int) (h0 : List (Int)) (h1 : Int) : Le (
    mk_most_l1 m_1 0 h0 h1 0 ([] : List (Int)) ([] : List (Trust)) 0 ([] : List (Int)) ([] : List (Trust))
  ) (mk_most m_1 h0 h1) :=
  callC_le (T := tn) (c := bodyOf Try.f32) (o := ⟨[.ag .Trust], [[.lf (.l .i64), .lf (.i .i64)]]⟩) sigOk 100000 (by kernel_rfl) Try.func32 (by kernel_rfl) (by kernel_rfl) (by kernel_rfl)
theorem mk_group_le (m_1 : Int) (k_2 : Int) (h0 : List (Int)) (h1 : Int) : Le (
    mk_group_l1 m_1 k_2 ([] : List (Trust)) 0 h0 h1 0 ([] : List (Int)) ([] : List (Trust))
  ) (mk_group m_1 k_2 h0 h1) :=
  callC_le (T := tn) (c := bodyOf Try.f33) (o := ⟨[.ag .Trust], [[.lf (.l .i64), .lf (.i .i64)]]⟩) sigOk 100000 (by kernel_rfl) Try.func33 (by kernel_rfl) (by kernel_rfl) (by kernel_rfl)
theorem mk_trust_le (n_1 : Int) (deep_2 : Int) (h0 : List (Int)) (h1 : Int) : Le (
    Option.bind (mk_Tape_Order n_1 h0 h1) fun x0 =>
    Option.bind (mk_Tape_Range 1 (if 5 < n_1 then 5 else n_1) x0.2.1 x0.2.2) fun x1 =>
    hiK (List.length x0.1) x1.1 fun b2 =>
    mk_trust_l1 n_1 deep_2 (List.drop 0 (List.take b2 x0.1)) ((List.length (List.drop 0 (List.take b2 x0.1)) : Nat) : Int) 0 x1.2.1 x1.2.2 0 ([] : List (Int)) ([] : List (Trust)) 0 ([] : List (Int)) ([] : List (Trust))
  ) (mk_trust n_1 deep_2 h0 h1) :=
  callC_le (T := tn) (c := bodyOf Try.f54) (o := ⟨[.ag .Trust], [[.lf (.l .i64), .lf (.i .i64)]]⟩) sigOk 100000 (by kernel_rfl) Try.func54 (by kernel_rfl) (by kernel_rfl) (by kernel_rfl)
theorem mk_Tape_Order_le (n_1 : Int) (h0 : List (Int)) (h1 : Int) : Le (
    mk_Tape_Order_l1 n_1 ([] : List (Int)) 0 h0 h1
  ) (mk_Tape_Order n_1 h0 h1) :=
  callC_le (T := tn) (c := bodyOf Try.f27) (o := ⟨[.lf (.l .i64)], [[.lf (.l .i64), .lf (.i .i64)]]⟩) sigOk 100000 (by kernel_rfl) Try.func27 (by kernel_rfl) (by kernel_rfl) (by kernel_rfl)
theorem mk_BentConfig_l1_le (a2 : Bool) (a4 : List (Int)) (a6 : Int) (a8 : List (Member)) (a10 : List (Member)) (a12 : List (Member)) : Le (
    bif (leB ((List.length a12 : Nat) : Int) 10) then
      capOk (List.length a12 + List.length ([(Member.mk false (Trust.mk 0 ([] : List (Int)) ([] : List (Trust))))] : List (Member))) <|
      mk_BentConfig_l2 a4 a6 a8 a10 (a12 ++ ([(Member.mk false (Trust.mk 0 ([] : List (Int)) ([] : List (Trust))))] : List (Member)))
    else
      some ((Config.mk a12), a4, a6)
  ) (mk_BentConfig_l1 a2 a4 a6 a8 a10 a12) :=
  goC_loopAt (T := tn) (o := ⟨[.ag .Config], [[.lf (.l .i64), .lf (.i .i64)]]⟩) sigOk 100000 (b := codeAt Try.f23 [1, 1, 1, 1, 0, 1, 0, 1, 1, 1, 1, 1, 1, 1, 1, 0, 0]) (by kernel_rfl) (by kernel_rfl)
theorem blocking_Cascade_l1_le (a0 : Int) (a3 : List (Int)) (a5 : Int) (a7 : Bool) (a9 : List (Member)) : Le (
    bif a7 then
      capOk (List.length a3 + List.length ([a5] : List (Int))) <|
      chk (0 ≤ a5) <|
      Option.bind (blocking_next (Config.mk a9) (orI .i64 a0 (shlI .i64 1 a5))) fun x0 =>
      blocking_Cascade_l1 (orI .i64 a0 (shlI .i64 1 a5)) (a3 ++ ([a5] : List (Int))) x0.1 x0.2 a9
    else
      some (a3, a0)
  ) (blocking_Cascade_l1 a0 a3 a5 a7 a9) :=
  goC_loopAt (T := tn) (o := ⟨[.lf (.l .i64), .lf (.i .i64)], []⟩) sigOk 100000 (b := codeAt Try.f17 [1, 1, 1, 0, 1, 0, 0]) (by kernel_rfl) (by kernel_rfl)
theorem ref01_Least_le (l_0 : List (Int)) : Le (
    ref01_Least_l1 l_0 ([] : List (Int)) l_0 ((List.length l_0 : Nat) : Int) 0
  ) (ref01_Least l_0) :=
  callC_le (T := tn) (c := bodyOf Try.f37) (o := ⟨[.lf (.l .i64)], []⟩) sigOk 100000 (by kernel_rfl) Try.func37 (by kernel_rfl) (by kernel_rfl) (by kernel_rfl)
theorem ref06_Declared_l1_le (a0 : Int) (a2 : List (Member)) (a4 : Int) (a6 : Int) (a8 : List (Member)) : Le (
    bif (ltB a6 a4) then
      nth a2 a6 fun y0 =>
      bif (ltB a6 10) then
        bif y0.Declared then
          chk (0 ≤ a6) <|
          ref06_Declared_l1 (orI .i64 a0 (shlI .i64 1 a6)) a2 a4 (addI .i64 a6 1) a8
        else
          ref06_Declared_l1 a0 a2 a4 (addI .i64 a6 1) a8
      else
        ref06_Declared_l1 a0 a2 a4 (addI .i64 a6 1) a8
    else
      some a0
  ) (ref06_Declared_l1 a0 a2 a4 a6 a8) :=
  goC_loopAt (T := tn) (o := ⟨[.lf (.i .i64)], []⟩) sigOk 100000 (b := codeAt Try.f18 [1, 1, 0, 1, 0, 0]) (by kernel_rfl) (by kernel_rfl)
theorem ref01_Nodes_l1_le (a0 : Int) (a2 : List (Int)) (a4 : Int) : Le (
    bif (ltB a4 10) then
      Option.bind (ref01_Has a0 a4) fun x0 =>
      bif x0 then
        capOk (List.length a2 + List.length ([a4] : List (Int))) <|
        ref01_Nodes_l1 a0 (a2 ++ ([a4] : List (Int))) (addI .i64 a4 1)
      else
        ref01_Nodes_l1 a0 a2 (addI .i64 a4 1)
    else
      some a2
  ) (ref01_Nodes_l1 a0 a2 a4) :=
  goC_loopAt (T := tn) (o := ⟨[.lf (.l .i64)], []⟩) sigOk 100000 (b := codeAt Try.f19 [1, 1, 0, 1, 0, 0]) (by kernel_rfl) (by kernel_rfl)
theorem ref01_Has_le (s_0 : Int) (node_1 : Int) : Le (
    Option.bind (ref01_Valid s_0) fun x0 =>
    bif x0 then
      bif (leB 0 node_1) then
        bif (ltB node_1 10) then
          chk (0 ≤ node_1) <|
          some (eqB (andI .i64 (shrI .i64 s_0 node_1) 1) 1)
        else
          some false
      else
        some false
    else
      some false
  ) (ref01_Has s_0 node_1) :=
  callC_le (T := tn) (c := bodyOf Try.f47) (o := ⟨[.lf .b], []⟩) sigOk 100000 (by kernel_rfl) Try.func47 (by kernel_rfl) (by kernel_rfl) (by kernel_rfl)
theorem blocking_Least_l1_le (a0 : Int) (a3 : List (Int)) (a5 : List (Int)) (a7 : Int) (a9 : Int) (a11 : List (Member)) : Le (
    bif (ltB a9 a7) then
      nth a5 a9 fun y0 =>
      Option.bind (blocking_Blocks (Config.mk a11) a0 y0) fun x1 =>
      bif x1 then
        capOk (List.length a3 + List.length ([y0] : List (Int))) <|
        blocking_Least_l1 a0 (a3 ++ ([y0] : List (Int))) a5 a7 (addI .i64 a9 1) a11
      else
        blocking_Least_l1 a0 a3 a5 a7 (addI .i64 a9 1) a11
    else
      Option.bind (nodeset_Least a3) fun x2 =>
      some (x2, 0)
  ) (blocking_Least_l1 a0 a3 a5 a7 a9 a11) :=
  goC_loopAt (T := tn) (o := ⟨[.lf (.l .i64), .lf (.i .i64)], []⟩) sigOk 100000 (b := codeAt Try.f15 [1, 1, 1, 1, 1, 0, 1, 0, 0]) (by kernel_rfl) (by kernel_rfl)
theorem nodeset_Least_le (l_0 : List (Int)) : Le (
    Option.bind (slices_Clone___int_int_ l_0) fun x0 =>
    Option.bind (slices_DeleteFunc___int_int__r__nodeset_Least_1 x0.2) fun x1 =>
    Option.bind (slices_SortFunc___int_int__r__nodeset_Compare x1.2) fun x2 =>
    nodeset_Least_l1 ([] : List (Int)) x2 ((List.length x2 : Nat) : Int) 0
  ) (nodeset_Least l_0) :=
  callC_le (T := tn) (c := bodyOf Try.f45) (o := ⟨[.lf (.l .i64)], []⟩) sigOk 100000 (by kernel_rfl) Try.func45 (by kernel_rfl) (by kernel_rfl) (by kernel_rfl)
theorem slices_Clone___int_int__le (s_0 : List (Int)) : Le (
    capOk (List.length ([] : List (Int)) + List.length s_0) <|
    some ((), (([] : List (Int)) ++ s_0))
  ) (slices_Clone___int_int_ s_0) :=
  callC_nil (T := tn) (c := bodyOf Try.f66) (rest := codeAt Try.f66 [1, 1]) (o := ⟨[.ref 0], [[.own .i64 false]]⟩) sigOk 100000 (by kernel_rfl) Try.func66 (by kernel_rfl) (by kernel_rfl) (by kernel_rfl) (by kernel_rfl) (fun hx r hr => by subst hx; cases hr; exact ⟨rfl, rfl⟩)
theorem slices_DeleteFunc___int_int__r__nodeset_Least_1_le (h0 : List (Int)) : Le (
    Option.bind (slices_IndexFunc___int_int__r__nodeset_Least_1 h0) fun x0 =>
    bif (eqB x0.1 (-1)) then
      some ((), x0.2)
    else
      slices_DeleteFunc___int_int__r__nodeset_Least_1_l1 x0.1 (addI .i64 x0.1 1) x0.2
  ) (slices_DeleteFunc___int_int__r__nodeset_Least_1 h0) :=
  callC_le (T := tn) (c := bodyOf Try.f65) (o := ⟨[.ref 0], [[.own .i64 false]]⟩) sigOk 100000 (by kernel_rfl) Try.func65 (by kernel_rfl) (by kernel_rfl) (by kernel_rfl)
theorem slices_SortFunc___int_int__r__nodeset_Compare_le (h0 : List (Int)) : Le (
    Option.bind (bits_Len (IntKind.wrap .u64 ((List.length h0 : Nat) : Int))) fun x0 =>
    Option.bind (slices_pdqsortCmpFunc_int__r__nodeset_Compare 0 ((List.length h0 : Nat) : Int) x0 h0) fun x1 =>
    some x1
  ) (slices_SortFunc___int_int__r__nodeset_Compare h0) :=
  callC_le (T := tn) (c := bodyOf Try.f62) (o := ⟨[], [[.own .i64 false]]⟩) sigOk 100000 (by kernel_rfl) Try.func62 (by kernel_rfl) (by kernel_rfl) (by kernel_rfl)
theorem slices_IndexFunc___int_int__r__nodeset_Least_1_le (h0 : List (Int)) : Le (
    slices_IndexFunc___int_int__r__nodeset_Least_1_l1 ((List.length h0 : Nat) : Int) 0 h0
  ) (slices_IndexFunc___int_int__r__nodeset_Least_1 h0) :=
  callC_le (T := tn) (c := bodyOf Try.f82) (o := ⟨[.lf (.i .i64)], [[.own .i64 false]]⟩) sigOk 100000 (by kernel_rfl) Try.func82 (by kernel_rfl) (by kernel_rfl) (by kernel_rfl)
theorem bits_Len_le (x_0 : Int) : Le (
    Option.bind (bits_Len64 x_0) fun x0 =>
    some x0
  ) (bits_Len x_0) :=
  callC_le (T := tn) (c := bodyOf Try.f78) (o := ⟨[.lf (.i .i64)], []⟩) sigOk 100000 (by kernel_rfl) Try.func78 (by kernel_rfl) (by kernel_rfl) (by kernel_rfl)
theorem slices_pdqsortCmpFunc_int__r__nodeset_Compare_le (a_1 : Int) (b_2 : Int) (limit_3 : Int) (h0 : List (Int)) : Le (
    slices_pdqsortCmpFunc_int__r__nodeset_Compare_l1 a_1 b_2 limit_3 true true h0
  ) (slices_pdqsortCmpFunc_int__r__nodeset_Compare a_1 b_2 limit_3 h0) :=
  callC_le (T := tn) (c := bodyOf Try.f77) (o := ⟨[], [[.own .i64 false]]⟩) sigOk 100000 (by kernel_rfl) Try.func77 (by kernel_rfl) (by kernel_rfl) (by kernel_rfl)
theorem bits_Len64_le (x_0 : Int) : Le (
    bif (leB 4294967296 x_0) then
      bif (leB 65536 (shrI .u64 x_0 32)) then
        bif (leB 256 (shrI .u64 (shrI .u64 x_0 32) 16)) then
          nth ([0, 1, 2, 2, 3, 3, 3, 3, 4, 4, 4, 4, 4, 4, 4, 4, 5, 5, 5, 5, 5, 5, 5, 5, 5, 5, 5, 5, 5, 5, 5, 5, 6, 6, 6, 6, 6, 6, 6, 6, 6, 6, 6, 6, 6, 6, 6, 6, 6, 6, 6, 6, 6, 6, 6, 6, 6, 6, 6, 6, 6, 6, 6, 6, 7, 7, 7, 7, 7, 7, 7, 7, 7, 7, 7, 7, 7, 7, 7, 7, 7, 7, 7, 7, 7, 7, 7, 7, 7, 7, 7, 7, 7, 7, 7, 7, 7, 7, 7, 7, 7, 7, 7, 7, 7, 7, 7, 7, 7, 7, 7, 7, 7, 7, 7, 7, 7, 7, 7, 7, 7, 7, 7, 7, 7, 7, 7, 7, 8, 8, 8, 8, 8, 8, 8, 8, 8, 8, 8, 8, 8, 8, 8, 8, 8, 8, 8, 8, 8, 8, 8, 8, 8, 8, 8, 8, 8, 8, 8, 8, 8, 8, 8, 8, 8, 8, 8, 8, 8, 8, 8, 8, 8, 8, 8, 8, 8, 8, 8, 8, 8, 8, 8, 8, 8, 8, 8, 8, 8, 8, 8, 8, 8, 8, 8, 8, 8, 8, 8, 8, 8, 8, 8, 8, 8, 8, 8, 8, 8, 8, 8, 8, 8, 8, 8, 8, 8, 8, 8, 8, 8, 8, 8, 8, 8, 8, 8, 8, 8, 8, 8, 8, 8, 8, 8, 8, 8, 8, 8, 8, 8, 8, 8, 8, 8, 8, 8, 8, 8, 8, 8, 8, 8, 8, 8, 8] : List UInt8) (IntKind.wrap .u8 (shrI .u64 (shrI .u64 (shrI .u64 x_0 32) 16) 8)) fun y0 =>
          some (addI .i64 56 (IntKind.wrap .i64 ((y0.toNat : Nat) : Int)))
        else
          nth ([0, 1, 2, 2, 3, 3, 3, 3, 4, 4, 4, 4, 4, 4, 4, 4, 5, 5, 5, 5, 5, 5, 5, 5, 5, 5, 5, 5, 5, 5, 5, 5, 6, 6, 6, 6, 6, 6, 6, 6, 6, 6, 6, 6, 6, 6, 6, 6, 6, 6, 6, 6, 6, 6, 6, 6, 6, 6, 6, 6, 6, 6, 6, 6, 7, 7, 7, 7, 7, 7, 7, 7, 7, 7, 7, 7, 7, 7, 7, 7, 7, 7, 7, 7, 7, 7, 7, 7, 7, 7, 7, 7, 7, 7, 7, 7, 7, 7, 7, 7, 7, 7, 7, 7, 7, 7, 7, 7, 7, 7, 7, 7, 7, 7, 7, 7, 7, 7, 7, 7, 7, 7, 7, 7, 7, 7, 7, 7, 8, 8, 8, 8, 8, 8, 8, 8, 8, 8, 8, 8, 8, 8, 8, 8, 8, 8, 8, 8, 8, 8, 8, 8, 8, 8, 8, 8, 8, 8, 8, 8, 8, 8, 8, 8, 8, 8, 8, 8, 8, 8, 8, 8, 8, 8, 8, 8, 8, 8, 8, 8, 8, 8, 8, 8, 8, 8, 8, 8, 8, 8, 8, 8, 8, 8, 8, 8, 8, 8, 8, 8, 8, 8, 8, 8, 8, 8, 8, 8, 8, 8, 8, 8, 8, 8, 8, 8, 8, 8, 8, 8, 8, 8, 8, 8, 8, 8, 8, 8, 8, 8, 8, 8, 8, 8, 8, 8, 8, 8, 8, 8, 8, 8, 8, 8, 8, 8, 8, 8, 8, 8, 8, 8, 8, 8, 8, 8] : List UInt8) (IntKind.wrap .u8 (shrI .u64 (shrI .u64 x_0 32) 16)) fun y1 =>
          some (addI .i64 48 (IntKind.wrap .i64 ((y1.toNat : Nat) : Int)))
      else
        bif (leB 256 (shrI .u64 x_0 32)) then
          nth ([0, 1, 2, 2, 3, 3, 3, 3, 4, 4, 4, 4, 4, 4, 4, 4, 5, 5, 5, 5, 5, 5, 5, 5, 5, 5, 5, 5, 5, 5, 5, 5, 6, 6, 6, 6, 6, 6, 6, 6, 6, 6, 6, 6, 6, 6, 6, 6, 6, 6, 6, 6, 6, 6, 6, 6, 6, 6, 6, 6, 6, 6, 6, 6, 7, 7, 7, 7, 7, 7, 7, 7, 7, 7, 7, 7, 7, 7, 7, 7, 7, 7, 7, 7, 7, 7, 7, 7, 7, 7, 7, 7, 7, 7, 7, 7, 7, 7, 7, 7, 7, 7, 7, 7, 7, 7, 7, 7, 7, 7, 7, 7, 7, 7, 7, 7, 7, 7, 7, 7, 7, 7, 7, 7, 7, 7, 7, 7, 8, 8, 8, 8, 8, 8, 8, 8, 8, 8, 8, 8, 8, 8, 8, 8, 8, 8, 8, 8, 8, 8, 8, 8, 8, 8, 8, 8, 8, 8, 8, 8, 8, 8, 8, 8, 8, 8, 8, 8, 8, 8, 8, 8, 8, 8, 8, 8, 8, 8, 8, 8, 8, 8, 8, 8, 8, 8, 8, 8, 8, 8, 8, 8, 8, 8, 8, 8, 8, 8, 8, 8, 8, 8, 8, 8, 8, 8, 8, 8, 8, 8, 8, 8, 8, 8, 8, 8, 8, 8, 8, 8, 8, 8, 8, 8, 8, 8, 8, 8, 8, 8, 8, 8, 8, 8, 8, 8, 8, 8, 8, 8, 8, 8, 8, 8, 8, 8, 8, 8, 8, 8, 8, 8, 8, 8, 8, 8] : List UInt8) (IntKind.wrap .u8 (shrI .u64 (shrI .u64 x_0 32) 8)) fun y2 =>
          some (addI .i64 40 (IntKind.wrap .i64 ((y2.toNat : Nat) : Int)))
        else
          nth ([0, 1, 2, 2, 3, 3, 3, 3, 4, 4, 4, 4, 4, 4, 4, 4, 5, 5, 5, 5, 5, 5, 5, 5, 5, 5, 5, 5, 5, 5, 5, 5, 6, 6, 6, 6, 6, 6, 6, 6, 6, 6, 6, 6, 6, 6, 6, 6, 6, 6, 6, 6, 6, 6, 6, 6, 6, 6, 6, 6, 6, 6, 6, 6, 7, 7, 7, 7, 7, 7, 7, 7, 7, 7, 7, 7, 7, 7, 7, 7, 7, 7, 7, 7, 7, 7, 7, 7, 7, 7, 7, 7, 7, 7, 7, 7, 7, 7, 7, 7, 7, 7, 7, 7, 7, 7, 7, 7, 7, 7, 7, 7, 7, 7, 7, 7, 7, 7, 7, 7, 7, 7, 7, 7, 7, 7, 7, 7, 8, 8, 8, 8, 8, 8, 8, 8, 8, 8, 8, 8, 8, 8, 8, 8, 8, 8, 8, 8, 8, 8, 8, 8, 8, 8, 8, 8, 8, 8, 8, 8, 8, 8, 8, 8, 8, 8, 8, 8, 8, 8, 8, 8, 8, 8, 8, 8, 8, 8, 8, 8, 8, 8, 8, 8, 8, 8, 8, 8, 8, 8, 8, 8, 8, 8, 8, 8, 8, 8, 8, 8, 8, 8, 8, 8, 8, 8, 8, 8, 8, 8, 8, 8, 8, 8, 8, 8, 8, 8, 8, 8, 8, 8, 8, 8, 8, 8, 8, 8, 8, 8, 8, 8, 8, 8, 8, 8, 8, 8, 8, 8, 8, 8, 8, 8, 8, 8, 8, 8, 8, 8, 8, 8, 8, 8, 8, 8] : List UInt8) (IntKind.wrap .u8 (shrI .u64 x_0 32)) fun y3 =>
          some (addI .i64 32 (IntKind.wrap .i64 ((y3.toNat : Nat) : Int)))
    else
      bif (leB 65536 x_0) then
        bif (leB 256 (shrI .u64 x_0 16)) then
          nth ([0, 1, 2, 2, 3, 3, 3, 3, 4, 4, 4, 4, 4, 4, 4, 4, 5, 5, 5, 5, 5, 5, 5, 5, 5, 5, 5, 5, 5, 5, 5, 5, 6, 6, 6, 6, 6, 6, 6, 6, 6, 6, 6, 6, 6, 6, 6, 6, 6, 6, 6, 6, 6, 6, 6, 6, 6, 6, 6, 6, 6, 6, 6, 6, 7, 7, 7, 7, 7, 7, 7, 7, 7, 7, 7, 7, 7, 7, 7, 7, 7, 7, 7, 7, 7, 7, 7, 7, 7, 7, 7, 7, 7, 7, 7, 7, 7, 7, 7, 7, 7, 7, 7, 7, 7, 7, 7, 7, 7, 7, 7, 7, 7, 7, 7, 7, 7, 7, 7, 7, 7, 7, 7, 7, 7, 7, 7, 7, 8, 8, 8, 8, 8, 8, 8, 8, 8, 8, 8, 8, 8, 8, 8, 8, 8, 8, 8, 8, 8, 8, 8, 8, 8, 8, 8, 8, 8, 8, 8, 8, 8, 8, 8, 8, 8, 8, 8, 8, 8, 8, 8, 8, 8, 8, 8, 8, 8, 8, 8, 8, 8, 8, 8, 8, 8, 8, 8, 8, 8, 8, 8, 8, 8, 8, 8, 8, 8, 8, 8, 8, 8, 8, 8, 8, 8, 8, 8, 8, 8, 8, 8, 8, 8, 8, 8, 8, 8, 8, 8, 8, 8, 8, 8, 8, 8, 8, 8, 8, 8, 8, 8, 8, 8, 8, 8, 8, 8, 8, 8, 8, 8, 8, 8, 8, 8, 8, 8, 8, 8, 8, 8, 8, 8, 8, 8, 8] : List UInt8) (IntKind.wrap .u8 (shrI .u64 (shrI .u64 x_0 16) 8)) fun y4 =>
          some (addI .i64 24 (IntKind.wrap .i64 ((y4.toNat : Nat) : Int)))
        else
          nth ([0, 1, 2, 2, 3, 3, 3, 3, 4, 4, 4, 4, 4, 4, 4, 4, 5, 5, 5, 5, 5, 5, 5, 5, 5, 5, 5, 5, 5, 5, 5, 5, 6, 6, 6, 6, 6, 6, 6, 6, 6, 6, 6, 6, 6, 6, 6, 6, 6, 6, 6, 6, 6, 6, 6, 6, 6, 6, 6, 6, 6, 6, 6, 6, 7, 7, 7, 7, 7, 7, 7, 7, 7, 7, 7, 7, 7, 7, 7, 7, 7, 7, 7, 7, 7, 7, 7, 7, 7, 7, 7, 7, 7, 7, 7, 7, 7, 7, 7, 7, 7, 7, 7, 7, 7, 7, 7, 7, 7, 7, 7, 7, 7, 7, 7, 7, 7, 7, 7, 7, 7, 7, 7, 7, 7, 7, 7, 7, 8, 8, 8, 8, 8, 8, 8, 8, 8, 8, 8, 8, 8, 8, 8, 8, 8, 8, 8, 8, 8, 8, 8, 8, 8, 8, 8, 8, 8, 8, 8, 8, 8, 8, 8, 8, 8, 8, 8, 8, 8, 8, 8, 8, 8, 8, 8, 8, 8, 8, 8, 8, 8, 8, 8, 8, 8, 8, 8, 8, 8, 8, 8, 8, 8, 8, 8, 8, 8, 8, 8, 8, 8, 8, 8, 8, 8, 8, 8, 8, 8, 8, 8, 8, 8, 8, 8, 8, 8, 8, 8, 8, 8, 8, 8, 8, 8, 8, 8, 8, 8, 8, 8, 8, 8, 8, 8, 8, 8, 8, 8, 8, 8, 8, 8, 8, 8, 8, 8, 8, 8, 8, 8, 8, 8, 8, 8, 8] : List UInt8) (IntKind.wrap .u8 (shrI .u64 x_0 16)) fun y5 =>
          some (addI .i64 16 (IntKind.wrap .i64 ((y5.toNat : Nat) : Int)))
      else
        bif (leB 256 x_0) then
          nth ([0, 1, 2, 2, 3, 3, 3, 3, 4, 4, 4, 4, 4, 4, 4, 4, 5, 5, 5, 5, 5, 5, 5, 5, 5, 5, 5, 5, 5, 5, 5, 5, 6, 6, 6, 6, 6, 6, 6, 6, 6, 6, 6, 6, 6, 6, 6, 6, 6, 6, 6, 6, 6, 6, 6, 6, 6, 6, 6, 6, 6, 6, 6, 6, 7, 7, 7, 7, 7, 7, 7, 7, 7, 7, 7, 7, 7, 7, 7, 7, 7, 7, 7, 7, 7, 7, 7, 7, 7, 7, 7, 7, 7, 7, 7, 7, 7, 7, 7, 7, 7, 7, 7, 7, 7, 7, 7, 7, 7, 7, 7, 7, 7, 7, 7, 7, 7, 7, 7, 7, 7, 7, 7, 7, 7, 7, 7, 7, 8, 8, 8, 8, 8, 8, 8, 8, 8, 8, 8, 8, 8, 8, 8, 8, 8, 8, 8, 8, 8, 8, 8, 8, 8, 8, 8, 8, 8, 8, 8, 8, 8, 8, 8, 8, 8, 8, 8, 8, 8, 8, 8, 8, 8, 8, 8, 8, 8, 8, 8, 8, 8, 8, 8, 8, 8, 8, 8, 8, 8, 8, 8, 8, 8, 8, 8, 8, 8, 8, 8, 8, 8, 8, 8, 8, 8, 8, 8, 8, 8, 8, 8, 8, 8, 8, 8, 8, 8, 8, 8, 8, 8, 8, 8, 8, 8, 8, 8, 8, 8, 8, 8, 8, 8, 8, 8, 8, 8, 8, 8, 8, 8, 8, 8, 8, 8, 8, 8, 8, 8, 8, 8, 8, 8, 8, 8, 8] : List UInt8) (IntKind.wrap .u8 (shrI .u64 x_0 8)) fun y6 =>
          some (addI .i64 8 (IntKind.wrap .i64 ((y6.toNat : Nat) : Int)))
        else
          nth ([0, 1, 2, 2, 3, 3, 3, 3, 4, 4, 4, 4, 4, 4, 4, 4, 5, 5, 5, 5, 5, 5, 5, 5, 5, 5, 5, 5, 5, 5, 5, 5, 6, 6, 6, 6, 6, 6, 6, 6, 6, 6, 6, 6, 6, 6, 6, 6, 6, 6, 6, 6, 6, 6, 6, 6, 6, 6, 6, 6, 6, 6, 6, 6, 7, 7, 7, 7, 7, 7, 7, 7, 7, 7, 7, 7, 7, 7, 7, 7, 7, 7, 7, 7, 7, 7, 7, 7, 7, 7, 7, 7, 7, 7, 7, 7, 7, 7, 7, 7, 7, 7, 7, 7, 7, 7, 7, 7, 7, 7, 7, 7, 7, 7, 7, 7, 7, 7, 7, 7, 7, 7, 7, 7, 7, 7, 7, 7, 8, 8, 8, 8, 8, 8, 8, 8, 8, 8, 8, 8, 8, 8, 8, 8, 8, 8, 8, 8, 8, 8, 8, 8, 8, 8, 8, 8, 8, 8, 8, 8, 8, 8, 8, 8, 8, 8, 8, 8, 8, 8, 8, 8, 8, 8, 8, 8, 8, 8, 8, 8, 8, 8, 8, 8, 8, 8, 8, 8, 8, 8, 8, 8, 8, 8, 8, 8, 8, 8, 8, 8, 8, 8, 8, 8, 8, 8, 8, 8, 8, 8, 8, 8, 8, 8, 8, 8, 8, 8, 8, 8, 8, 8, 8, 8, 8, 8, 8, 8, 8, 8, 8, 8, 8, 8, 8, 8, 8, 8, 8, 8, 8, 8, 8, 8, 8, 8, 8, 8, 8, 8, 8, 8, 8, 8, 8, 8] : List UInt8) (IntKind.wrap .u8 x_0) fun y7 =>
          some (addI .i64 0 (IntKind.wrap .i64 ((y7.toNat : Nat) : Int)))
  ) (bits_Len64 x_0) :=
  callC_le (T := tn) (c := bodyOf Try.f96) (o := ⟨[.lf (.i .i64)], []⟩) sigOk 100000 (by kernel_rfl) Try.func96 (by kernel_rfl) (by kernel_rfl) (by kernel_rfl)
theorem mk_Ints_l1_le (a0 : List (Int)) (a2 : List (Int)) (a4 : Int) (a6 : Int) : Le (
    bif (ltB a6 a4) then
      nth a0 a6 fun y0 =>
      nth a2 a6 fun y1 =>
      bif (neB y0 y1) then
        some false
      else
        mk_Ints_l1 a0 a2 a4 (addI .i64 a6 1)
    else
      some true
  ) (mk_Ints_l1 a0 a2 a4 a6) :=
  goC_loopAt (T := tn) (o := ⟨[.lf .b], []⟩) sigOk 100000 (b := codeAt Try.f16 [1, 1, 0, 1, 0, 0]) (by kernel_rfl) (by kernel_rfl)
theorem mk_BentTrust_l1_le (a2 : Int) (a4 : List (Int)) (a6 : Int) (a8 : Int) (a10 : List (Int)) (a12 : List (Trust)) (a14 : Int) (a16 : List (Int)) (a18 : List (Trust)) (a20 : Int) (a22 : List (Int)) (a24 : List (Trust)) : Le (
    bif (ltB 0 a2) then
      mk_BentTrust_l3 (subI .i64 a2 1) a4 a6 a8 a10 a12 a14 a16 a18 1 ([] : List (Int)) ([(Trust.mk a20 a22 a24)] : List (Trust))
    else
      some ((Trust.mk a20 a22 a24), a4, a6)
  ) (mk_BentTrust_l1 a2 a4 a6 a8 a10 a12 a14 a16 a18 a20 a22 a24) :=
  goC_loopAt (T := tn) (o := ⟨[.ag .Trust], [[.lf (.l .i64), .lf (.i .i64)]]⟩) sigOk 100000 (b := codeAt Try.f51 [1, 1, 0, 1, 0, 1, 1, 1, 1, 1, 1, 1, 1, 1, 0, 1, 0, 1, 0, 0]) (by kernel_rfl) (by kernel_rfl)
theorem mk_BentTrust_l2_le (a2 : List (Trust)) (a4 : Int) (a6 : List (Int)) (a8 : Int) (a10 : Int) (a12 : List (Int)) (a14 : List (Trust)) (a16 : Int) (a18 : List (Int)) (a20 : List (Trust)) : Le (
    bif (ltB 0 a4) then
      capOk (List.length a2 + List.length ([(Trust.mk 1 ([(remI .i64 a4 10)] : List (Int)) ([] : List (Trust)))] : List (Trust))) <|
      mk_BentTrust_l2 (a2 ++ ([(Trust.mk 1 ([(remI .i64 a4 10)] : List (Int)) ([] : List (Trust)))] : List (Trust))) (subI .i64 a4 1) a6 a8 a10 a12 a14 a16 a18 a20
    else
      capOk (List.length a2 + List.length a14) <|
      some ((Trust.mk a10 a12 (a2 ++ a14)), a6, a8)
  ) (mk_BentTrust_l2 a2 a4 a6 a8 a10 a12 a14 a16 a18 a20) :=
  goC_loopAt (T := tn) (o := ⟨[.ag .Trust], [[.lf (.l .i64), .lf (.i .i64)]]⟩) sigOk 100000 (b := codeAt Try.f51 [1, 1, 0, 1, 0, 1, 1, 1, 1, 1, 1, 1, 1, 1, 1, 1, 0, 1, 0, 0]) (by kernel_rfl) (by kernel_rfl)
theorem blocking_next_l1_le (a0 : Int) (a3 : List (Int)) (a5 : Int) (a7 : Int) (a9 : List (Member)) : Le (
    bif (ltB a7 a5) then
      nth a3 a7 fun y0 =>
      Option.bind (blocking_Blocks (Config.mk a9) y0 a0) fun x1 =>
      bif x1 then
        some (y0, true)
      else
        blocking_next_l1 a0 a3 a5 (addI .i64 a7 1) a9
    else
      some (0, false)
  ) (blocking_next_l1 a0 a3 a5 a7 a9) :=
  goC_loopAt (T := tn) (o := ⟨[.lf (.i .i64), .lf .b], []⟩) sigOk 100000 (b := codeAt Try.f46 [1, 0, 1, 0, 0]) (by kernel_rfl) (by kernel_rfl)
theorem configuration_Valid_l1_le (a1 : List (Member)) (a3 : Int) (a5 : Int) (a7 : List (Member)) : Le (
    bif (ltB a5 a3) then
      nth a1 a5 fun y0 =>
      Option.bind (configuration_member y0 ((List.length a7 : Nat) : Int)) fun x1 =>
      bif (neB x1 0) then
        some x1
      else
        configuration_Valid_l1 a1 a3 (addI .i64 a5 1) a7
    else
      some 0
  ) (configuration_Valid_l1 a1 a3 a5 a7) :=
  goC_loopAt (T := tn) (o := ⟨[.lf (.i .i64)], []⟩) sigOk 100000 (b := codeAt Try.f42 [1, 1, 0, 1, 0, 0]) (by kernel_rfl) (by kernel_rfl)
theorem configuration_member_le (m_0 : Member) (members_1 : Int) : Le (
    bif (!m_0.Declared) then
      Option.bind (configuration_blank m_0.Trust) fun x0 =>
      bif (!x0) then
        some 1
      else
        some 0
    else
      Option.bind (threshold_Valid m_0.Trust) fun x1 =>
      bif (neB x1 0) then
        some x1
      else
        chk (0 ≤ members_1) <|
        Option.bind (threshold_Uses m_0.Trust) fun x2 =>
        bif (leB (shlI .i64 1 members_1) x2) then
          some 5
        else
          some 0
  ) (configuration_member m_0 members_1) :=
  callC_le (T := tn) (c := bodyOf Try.f61) (o := ⟨[.lf (.i .i64)], []⟩) sigOk 100000 (by kernel_rfl) Try.func61 (by kernel_rfl) (by kernel_rfl) (by kernel_rfl)
theorem configuration_blank_le (t_0 : Trust) : Le (
    bif (eqB t_0.Threshold 0) then
      bif (eqB ((List.length t_0.Nodes : Nat) : Int) 0) then
        some (eqB ((List.length t_0.Inner : Nat) : Int) 0)
      else
        some false
    else
      some false
  ) (configuration_blank t_0) :=
  callC_le (T := tn) (c := bodyOf Try.f75) (o := ⟨[.lf .b], []⟩) sigOk 100000 (by kernel_rfl) Try.func75 (by kernel_rfl) (by kernel_rfl) (by kernel_rfl)
theorem threshold_Valid_le (t_0 : Trust) : Le (
    Option.bind (threshold_Depth t_0) fun x0 =>
    bif (ltB 4 x0) then
      some 3
    else
      Option.bind (threshold_Size t_0) fun x1 =>
      bif (ltB 200 x1) then
        some 3
      else
        Option.bind (threshold_level t_0) fun x2 =>
        some x2
  ) (threshold_Valid t_0) :=
  callC_le (T := tn) (c := bodyOf Try.f76) (o := ⟨[.lf (.i .i64)], []⟩) sigOk 100000 (by kernel_rfl) Try.func76 (by kernel_rfl) (by kernel_rfl) (by kernel_rfl)
theorem threshold_Depth_le (t_0 : Trust) : Le (
    threshold_Depth_l1 0 t_0.Inner ((List.length t_0.Inner : Nat) : Int) 0 t_0.Threshold t_0.Nodes t_0.Inner
  ) (threshold_Depth t_0) :=
  callC_le (T := tn) (c := bodyOf Try.f84) (o := ⟨[.lf (.i .i64)], []⟩) sigOk 100000 (by kernel_rfl) Try.func84 (by kernel_rfl) (by kernel_rfl) (by kernel_rfl)
theorem threshold_Size_le (t_0 : Trust) : Le (
    threshold_Size_l1 (addI .i64 ((List.length t_0.Nodes : Nat) : Int) ((List.length t_0.Inner : Nat) : Int)) t_0.Inner ((List.length t_0.Inner : Nat) : Int) 0 t_0.Threshold t_0.Nodes t_0.Inner
  ) (threshold_Size t_0) :=
  callC_le (T := tn) (c := bodyOf Try.f85) (o := ⟨[.lf (.i .i64)], []⟩) sigOk 100000 (by kernel_rfl) Try.func85 (by kernel_rfl) (by kernel_rfl) (by kernel_rfl)
theorem threshold_level_le (t_0 : Trust) : Le (
    bif (ltB t_0.Threshold 1) then
      some 4
    else
      bif (ltB (addI .i64 ((List.length t_0.Nodes : Nat) : Int) ((List.length t_0.Inner : Nat) : Int)) t_0.Threshold) then
        some 4
      else
        Option.bind (slices_ContainsFunc___int_int___threshold_level_1 t_0.Nodes) fun x0 =>
        bif x0 then
          some 5
        else
          Option.bind (nodeset_Of t_0.Nodes) fun x1 =>
          bif (neB x1.2 0) then
            some x1.2
          else
            threshold_level_l1 t_0.Inner ((List.length t_0.Inner : Nat) : Int) 0 t_0.Threshold t_0.Nodes t_0.Inner
  ) (threshold_level t_0) :=
  callC_le (T := tn) (c := bodyOf Try.f86) (o := ⟨[.lf (.i .i64)], []⟩) sigOk 100000 (by kernel_rfl) Try.func86 (by kernel_rfl) (by kernel_rfl) (by kernel_rfl)
theorem slices_ContainsFunc___int_int___threshold_level_1_le (s_0 : List (Int)) : Le (
    Option.bind (slices_IndexFunc___int_int___threshold_level_1 s_0) fun x0 =>
    some (leB 0 x0)
  ) (slices_ContainsFunc___int_int___threshold_level_1 s_0) :=
  callC_le (T := tn) (c := bodyOf Try.f68) (o := ⟨[.lf .b], []⟩) sigOk 100000 (by kernel_rfl) Try.func68 (by kernel_rfl) (by kernel_rfl) (by kernel_rfl)
end Go.Proofs.Ytfailfoncbbgjaa
