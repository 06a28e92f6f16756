/- What the functions come to, printed by a program and checked by the kernel. -/
import Derived.Test.YtfjcndlhpfbcgaaP16Df
namespace Go.Proofs.Ytfjcndlhpfbcgaa
open Go Go.Ab
set_option maxRecDepth 100000
theorem law16_DangerLeast_le (t_0 : List (Int)) : Le (
    Option.bind (mk_New t_0) fun x0 =>
    Option.bind (mk_Config 6 x0.2.1 x0.2.2) fun x1 =>
    chk (0 ≤ ((List.length x1.1.Members : Nat) : Int)) <|
    Option.bind (danger_Splitting x1.1) fun x2 =>
    bif (neB x2.2 0) then
      some false
    else
      law16_DangerLeast_l1 (subI .i64 (shlI .i64 1 ((List.length x1.1.Members : Nat) : Int)) 1) x2.1 0 x1.2.1 x1.2.2 x1.1.Members
  ) (law16_DangerLeast t_0) :=
  callC_le (T := tn) (c := bodyOf Try.f4) (o := ⟨[.lf .b], []⟩) sigOk 100000 (by kernel_rfl) Try.func4 (by kernel_rfl) (by kernel_rfl) (by kernel_rfl)
theorem law16_DangerUniform_le (a_0 : Int) (b_1 : Int) : Le (
    chk ((addI .i64 1 (remI .i64 (IntKind.wrap .i64 a_0) 7)) ≠ 0) <|
    Option.bind (law16_same (addI .i64 1 (remI .i64 (IntKind.wrap .i64 a_0) 7)) (addI .i64 1 (remI .i64 (IntKind.wrap .i64 b_1) (addI .i64 1 (remI .i64 (IntKind.wrap .i64 a_0) 7))))) fun x0 =>
    Option.bind (danger_Splitting x0) fun x1 =>
    Option.bind (danger_Halting x0) fun x2 =>
    Option.bind (danger_Tolerates x0) fun x3 =>
    bif (neB x1.2 0) then
      some false
    else
      bif (neB x2.2 0) then
        some false
      else
        bif (neB x3.2.2 0) then
          some false
        else
          bif (neB x3.2.1 (subI .i64 (addI .i64 1 (remI .i64 (IntKind.wrap .i64 a_0) 7)) (addI .i64 1 (remI .i64 (IntKind.wrap .i64 b_1) (addI .i64 1 (remI .i64 (IntKind.wrap .i64 a_0) 7)))))) then
            some false
          else
            law16_DangerUniform_l1 (addI .i64 1 (remI .i64 (IntKind.wrap .i64 a_0) 7)) (addI .i64 1 (remI .i64 (IntKind.wrap .i64 b_1) (addI .i64 1 (remI .i64 (IntKind.wrap .i64 a_0) 7)))) x1.1 x2.1 x3.1 0 0 (if (subI .i64 (mulI .i64 2 (addI .i64 1 (remI .i64 (IntKind.wrap .i64 b_1) (addI .i64 1 (remI .i64 (IntKind.wrap .i64 a_0) 7))))) (addI .i64 1 (remI .i64 (IntKind.wrap .i64 a_0) 7))) > 0 then (subI .i64 (mulI .i64 2 (addI .i64 1 (remI .i64 (IntKind.wrap .i64 b_1) (addI .i64 1 (remI .i64 (IntKind.wrap .i64 a_0) 7))))) (addI .i64 1 (remI .i64 (IntKind.wrap .i64 a_0) 7))) else 0) 0 x0.Members
  ) (law16_DangerUniform a_0 b_1) :=
  callC_le (T := tn) (c := bodyOf Try.f3) (o := ⟨[.lf .b], []⟩) sigOk 100000 (by kernel_rfl) Try.func3 (by kernel_rfl) (by kernel_rfl) (by kernel_rfl)
theorem mk_New_le (l_0 : List (Int)) : Le (
    hiK (List.length l_0) (if 400 < ((List.length l_0 : Nat) : Int) then 400 else ((List.length l_0 : Nat) : Int)) fun b0 =>
    some ((), (List.drop 0 (List.take b0 l_0)), 0)
  ) (mk_New l_0) :=
  callC_le (T := tn) (c := bodyOf Try.f11) (o := ⟨[.ptr 0 0], [[.lf (.l .i64), .lf (.i .i64)]]⟩) sigOk 100000 (by kernel_rfl) Try.func11 (by kernel_rfl) (by kernel_rfl) (by kernel_rfl)
theorem mk_Config_le (n_1 : Int) (h0 : List (Int)) (h1 : Int) : Le (
    Option.bind (mk_Tape_Range 1 n_1 h0 h1) fun x0 =>
    Option.bind (mk_Tape_N 3 x0.2.1 x0.2.2) fun x1 =>
    mk_Config_l1 x0.1 x1.1 0 x1.2.1 x1.2.2 ([] : List (Member)) ([] : List (Member))
  ) (mk_Config n_1 h0 h1) :=
  callC_le (T := tn) (c := bodyOf Try.f12) (o := ⟨[.ag .Config], [[.lf (.l .i64), .lf (.i .i64)]]⟩) sigOk 100000 (by kernel_rfl) Try.func12 (by kernel_rfl) (by kernel_rfl) (by kernel_rfl)
theorem danger_Splitting_le (c_0 : Config) : Le (
    Option.bind (danger_small c_0) fun x0 =>
    bif (neB x0 0) then
      some (([] : List (Int)), x0)
    else
      Option.bind (danger_least__danger_splits c_0) fun x1 =>
      some (x1, 0)
  ) (danger_Splitting c_0) :=
  callC_le (T := tn) (c := bodyOf Try.f6) (o := ⟨[.lf (.l .i64), .lf (.i .i64)], []⟩) sigOk 100000 (by kernel_rfl) Try.func6 (by kernel_rfl) (by kernel_rfl) (by kernel_rfl)
theorem law16_same_le (n_0 : Int) (k_1 : Int) : Le (
    law16_same_l1 n_0 0 ([] : List (Member)) k_1 ([] : List (Int)) ([] : List (Trust))
  ) (law16_same n_0 k_1) :=
  callC_le (T := tn) (c := bodyOf Try.f5) (o := ⟨[.ag .Config], []⟩) sigOk 100000 (by kernel_rfl) Try.func5 (by kernel_rfl) (by kernel_rfl) (by kernel_rfl)
theorem danger_Halting_le (c_0 : Config) : Le (
    Option.bind (configuration_Valid c_0) fun x0 =>
    bif (neB x0 0) then
      some (([] : List (Int)), x0)
    else
      Option.bind (danger_least__danger_halts c_0) fun x1 =>
      some (x1, 0)
  ) (danger_Halting c_0) :=
  callC_le (T := tn) (c := bodyOf Try.f7) (o := ⟨[.lf (.l .i64), .lf (.i .i64)], []⟩) sigOk 100000 (by kernel_rfl) Try.func7 (by kernel_rfl) (by kernel_rfl) (by kernel_rfl)
theorem danger_Tolerates_le (c_0 : Config) : Le (
    Option.bind (danger_small c_0) fun x0 =>
    bif (neB x0 0) then
      some (0, 0, x0)
    else
      Option.bind (danger_least__danger_splits c_0) fun x1 =>
      Option.bind (danger_tolerated c_0 x1) fun x2 =>
      Option.bind (danger_least__danger_halts c_0) fun x3 =>
      Option.bind (danger_tolerated c_0 x3) fun x4 =>
      some (x2, x4, 0)
  ) (danger_Tolerates c_0) :=
  callC_le (T := tn) (c := bodyOf Try.f8) (o := ⟨[.lf (.i .i64), .lf (.i .i64), .lf (.i .i64)], []⟩) sigOk 100000 (by kernel_rfl) Try.func8 (by kernel_rfl) (by kernel_rfl) (by kernel_rfl)
theorem mk_Tape_Range_le (a_1 : Int) (b_2 : Int) (h0 : List (Int)) (h1 : Int) : Le (
    Option.bind (mk_Tape_N (addI .i64 (subI .i64 b_2 a_1) 1) h0 h1) fun x0 =>
    some ((addI .i64 a_1 x0.1), x0.2.1, x0.2.2)
  ) (mk_Tape_Range a_1 b_2 h0 h1) :=
  callC_le (T := tn) (c := bodyOf Try.f23) (o := ⟨[.lf (.i .i64)], [[.lf (.l .i64), .lf (.i .i64)]]⟩) sigOk 100000 (by kernel_rfl) Try.func23 (by kernel_rfl) (by kernel_rfl) (by kernel_rfl)
theorem mk_Tape_N_le (n_1 : Int) (h0 : List (Int)) (h1 : Int) : Le (
    bif (leB ((List.length h0 : Nat) : Int) h1) then
      some (0, h0, h1)
    else
      nth h0 h1 fun y0 =>
      chk (n_1 ≠ 0) <|
      bif (ltB (remI .i64 y0 n_1) 0) then
        some ((addI .i64 (remI .i64 y0 n_1) n_1), h0, (addI .i64 h1 1))
      else
        some ((remI .i64 y0 n_1), h0, (addI .i64 h1 1))
  ) (mk_Tape_N n_1 h0 h1) :=
  callC_le (T := tn) (c := bodyOf Try.f24) (o := ⟨[.lf (.i .i64)], [[.lf (.l .i64), .lf (.i .i64)]]⟩) sigOk 100000 (by kernel_rfl) Try.func24 (by kernel_rfl) (by kernel_rfl) (by kernel_rfl)
theorem danger_small_le (c_0 : Config) : Le (
    Option.bind (configuration_Valid c_0) fun x0 =>
    bif (neB x0 0) then
      some x0
    else
      bif (ltB 7 ((List.length c_0.Members : Nat) : Int)) then
        some 3
      else
        some 0
  ) (danger_small c_0) :=
  callC_le (T := tn) (c := bodyOf Try.f15) (o := ⟨[.lf (.i .i64)], []⟩) sigOk 100000 (by kernel_rfl) Try.func15 (by kernel_rfl) (by kernel_rfl) (by kernel_rfl)
theorem danger_least__danger_splits_le (c_0 : Config) : Le (
    Option.bind (danger_members c_0) fun x0 =>
    Option.bind (nodeset_Subsets x0) fun x1 =>
    danger_least__danger_splits_l1 ([] : List (Int)) x1 ((List.length x1 : Nat) : Int) 0 c_0.Members
  ) (danger_least__danger_splits c_0) :=
  callC_le (T := tn) (c := bodyOf Try.f16) (o := ⟨[.lf (.l .i64)], []⟩) sigOk 100000 (by kernel_rfl) Try.func16 (by kernel_rfl) (by kernel_rfl) (by kernel_rfl)
theorem configuration_Valid_le (c_0 : Config) : Le (
    bif (ltB 10 ((List.length c_0.Members : Nat) : Int)) then
      some 3
    else
      configuration_Valid_l1 c_0.Members ((List.length c_0.Members : Nat) : Int) 0 c_0.Members
  ) (configuration_Valid c_0) :=
  callC_le (T := tn) (c := bodyOf Try.f18) (o := ⟨[.lf (.i .i64)], []⟩) sigOk 100000 (by kernel_rfl) Try.func18 (by kernel_rfl) (by kernel_rfl) (by kernel_rfl)
theorem danger_least__danger_halts_le (c_0 : Config) : Le (
    Option.bind (danger_members c_0) fun x0 =>
    Option.bind (nodeset_Subsets x0) fun x1 =>
    danger_least__danger_halts_l1 ([] : List (Int)) x1 ((List.length x1 : Nat) : Int) 0 c_0.Members
  ) (danger_least__danger_halts c_0) :=
  callC_le (T := tn) (c := bodyOf Try.f16) (o := ⟨[.lf (.l .i64)], []⟩) sigOk 100000 (by kernel_rfl) Try.func16 (by kernel_rfl) (by kernel_rfl) (by kernel_rfl)
theorem danger_tolerated_le (c_0 : Config) (l_1 : List (Int)) : Le (
    bif (eqB ((List.length l_1 : Nat) : Int) 0) then
      some ((List.length c_0.Members : Nat) : Int)
    else
      nth l_1 0 fun y0 =>
      Option.bind (nodeset_Size y0) fun x1 =>
      some (subI .i64 x1 1)
  ) (danger_tolerated c_0 l_1) :=
  callC_le (T := tn) (c := bodyOf Try.f20) (o := ⟨[.lf (.i .i64)], []⟩) sigOk 100000 (by kernel_rfl) Try.func20 (by kernel_rfl) (by kernel_rfl) (by kernel_rfl)
theorem danger_members_le (c_0 : Config) : Le (
    chk (0 ≤ ((List.length c_0.Members : Nat) : Int)) <|
    some (subI .i64 (shlI .i64 1 ((List.length c_0.Members : Nat) : Int)) 1)
  ) (danger_members c_0) :=
  callC_le (T := tn) (c := bodyOf Try.f30) (o := ⟨[.lf (.i .i64)], []⟩) sigOk 100000 (by kernel_rfl) Try.func30 (by kernel_rfl) (by kernel_rfl) (by kernel_rfl)
theorem nodeset_Subsets_le (s_0 : Int) : Le (
    nodeset_Subsets_l1 s_0 ([] : List (Int)) 0
  ) (nodeset_Subsets s_0) :=
  callC_le (T := tn) (c := bodyOf Try.f29) (o := ⟨[.lf (.l .i64)], []⟩) sigOk 100000 (by kernel_rfl) Try.func29 (by kernel_rfl) (by kernel_rfl) (by kernel_rfl)
theorem nodeset_Size_le (s_0 : Int) : Le (
    Option.bind (nodeset_Valid s_0) fun x0 =>
    bif (!x0) then
      some 0
    else
      Option.bind (bits_OnesCount (IntKind.wrap .u64 s_0)) fun x1 =>
      some x1
  ) (nodeset_Size s_0) :=
  callC_le (T := tn) (c := bodyOf Try.f36) (o := ⟨[.lf (.i .i64)], []⟩) sigOk 100000 (by kernel_rfl) Try.func36 (by kernel_rfl) (by kernel_rfl) (by kernel_rfl)
theorem nodeset_Valid_le (s_0 : Int) : Le (
    Option.bind (nodeset_below s_0 10) fun x0 =>
    some x0
  ) (nodeset_Valid s_0) :=
  callC_le (T := tn) (c := bodyOf Try.f40) (o := ⟨[.lf .b], []⟩) sigOk 100000 (by kernel_rfl) Try.func40 (by kernel_rfl) (by kernel_rfl) (by kernel_rfl)
theorem bits_OnesCount_le (x_0 : Int) : Le (
    Option.bind (bits_OnesCount64 x_0) fun x0 =>
    some x0
  ) (bits_OnesCount x_0) :=
  callC_le (T := tn) (c := bodyOf Try.f56) (o := ⟨[.lf (.i .i64)], []⟩) sigOk 100000 (by kernel_rfl) Try.func56 (by kernel_rfl) (by kernel_rfl) (by kernel_rfl)
theorem nodeset_below_le (s_0 : Int) (n_1 : Int) : Le (
    bif (leB 0 s_0) then
      chk (0 ≤ n_1) <|
      some (ltB s_0 (shlI .i64 1 n_1))
    else
      some false
  ) (nodeset_below s_0 n_1) :=
  callC_le (T := tn) (c := bodyOf Try.f61) (o := ⟨[.lf .b], []⟩) sigOk 100000 (by kernel_rfl) Try.func61 (by kernel_rfl) (by kernel_rfl) (by kernel_rfl)
theorem bits_OnesCount64_le (x_0 : Int) : Le (
    some (andI .i64 (IntKind.wrap .i64 (addI .u64 (addI .u64 (addI .u64 (andI .u64 (addI .u64 (shrI .u64 (addI .u64 (andI .u64 (shrI .u64 (addI .u64 (andI .u64 (shrI .u64 x_0 1) 6148914691236517205) (andI .u64 x_0 6148914691236517205)) 2) 3689348814741910323) (andI .u64 (addI .u64 (andI .u64 (shrI .u64 x_0 1) 6148914691236517205) (andI .u64 x_0 6148914691236517205)) 3689348814741910323)) 4) (addI .u64 (andI .u64 (shrI .u64 (addI .u64 (andI .u64 (shrI .u64 x_0 1) 6148914691236517205) (andI .u64 x_0 6148914691236517205)) 2) 3689348814741910323) (andI .u64 (addI .u64 (andI .u64 (shrI .u64 x_0 1) 6148914691236517205) (andI .u64 x_0 6148914691236517205)) 3689348814741910323))) 1085102592571150095) (shrI .u64 (andI .u64 (addI .u64 (shrI .u64 (addI .u64 (andI .u64 (shrI .u64 (addI .u64 (andI .u64 (shrI .u64 x_0 1) 6148914691236517205) (andI .u64 x_0 6148914691236517205)) 2) 3689348814741910323) (andI .u64 (addI .u64 (andI .u64 (shrI .u64 x_0 1) 6148914691236517205) (andI .u64 x_0 6148914691236517205)) 3689348814741910323)) 4) (addI .u64 (andI .u64 (shrI .u64 (addI .u64 (andI .u64 (shrI .u64 x_0 1) 6148914691236517205) (andI .u64 x_0 6148914691236517205)) 2) 3689348814741910323) (andI .u64 (addI .u64 (andI .u64 (shrI .u64 x_0 1) 6148914691236517205) (andI .u64 x_0 6148914691236517205)) 3689348814741910323))) 1085102592571150095) 8)) (shrI .u64 (addI .u64 (andI .u64 (addI .u64 (shrI .u64 (addI .u64 (andI .u64 (shrI .u64 (addI .u64 (andI .u64 (shrI .u64 x_0 1) 6148914691236517205) (andI .u64 x_0 6148914691236517205)) 2) 3689348814741910323) (andI .u64 (addI .u64 (andI .u64 (shrI .u64 x_0 1) 6148914691236517205) (andI .u64 x_0 6148914691236517205)) 3689348814741910323)) 4) (addI .u64 (andI .u64 (shrI .u64 (addI .u64 (andI .u64 (shrI .u64 x_0 1) 6148914691236517205) (andI .u64 x_0 6148914691236517205)) 2) 3689348814741910323) (andI .u64 (addI .u64 (andI .u64 (shrI .u64 x_0 1) 6148914691236517205) (andI .u64 x_0 6148914691236517205)) 3689348814741910323))) 1085102592571150095) (shrI .u64 (andI .u64 (addI .u64 (shrI .u64 (addI .u64 (andI .u64 (shrI .u64 (addI .u64 (andI .u64 (shrI .u64 x_0 1) 6148914691236517205) (andI .u64 x_0 6148914691236517205)) 2) 3689348814741910323) (andI .u64 (addI .u64 (andI .u64 (shrI .u64 x_0 1) 6148914691236517205) (andI .u64 x_0 6148914691236517205)) 3689348814741910323)) 4) (addI .u64 (andI .u64 (shrI .u64 (addI .u64 (andI .u64 (shrI .u64 x_0 1) 6148914691236517205) (andI .u64 x_0 6148914691236517205)) 2) 3689348814741910323) (andI .u64 (addI .u64 (andI .u64 (shrI .u64 x_0 1) 6148914691236517205) (andI .u64 x_0 6148914691236517205)) 3689348814741910323))) 1085102592571150095) 8)) 16)) (shrI .u64 (addI .u64 (addI .u64 (andI .u64 (addI .u64 (shrI .u64 (addI .u64 (andI .u64 (shrI .u64 (addI .u64 (andI .u64 (shrI .u64 x_0 1) 6148914691236517205) (andI .u64 x_0 6148914691236517205)) 2) 3689348814741910323) (andI .u64 (addI .u64 (andI .u64 (shrI .u64 x_0 1) 6148914691236517205) (andI .u64 x_0 6148914691236517205)) 3689348814741910323)) 4) (addI .u64 (andI .u64 (shrI .u64 (addI .u64 (andI .u64 (shrI .u64 x_0 1) 6148914691236517205) (andI .u64 x_0 6148914691236517205)) 2) 3689348814741910323) (andI .u64 (addI .u64 (andI .u64 (shrI .u64 x_0 1) 6148914691236517205) (andI .u64 x_0 6148914691236517205)) 3689348814741910323))) 1085102592571150095) (shrI .u64 (andI .u64 (addI .u64 (shrI .u64 (addI .u64 (andI .u64 (shrI .u64 (addI .u64 (andI .u64 (shrI .u64 x_0 1) 6148914691236517205) (andI .u64 x_0 6148914691236517205)) 2) 3689348814741910323) (andI .u64 (addI .u64 (andI .u64 (shrI .u64 x_0 1) 6148914691236517205) (andI .u64 x_0 6148914691236517205)) 3689348814741910323)) 4) (addI .u64 (andI .u64 (shrI .u64 (addI .u64 (andI .u64 (shrI .u64 x_0 1) 6148914691236517205) (andI .u64 x_0 6148914691236517205)) 2) 3689348814741910323) (andI .u64 (addI .u64 (andI .u64 (shrI .u64 x_0 1) 6148914691236517205) (andI .u64 x_0 6148914691236517205)) 3689348814741910323))) 1085102592571150095) 8)) (shrI .u64 (addI .u64 (andI .u64 (addI .u64 (shrI .u64 (addI .u64 (andI .u64 (shrI .u64 (addI .u64 (andI .u64 (shrI .u64 x_0 1) 6148914691236517205) (andI .u64 x_0 6148914691236517205)) 2) 3689348814741910323) (andI .u64 (addI .u64 (andI .u64 (shrI .u64 x_0 1) 6148914691236517205) (andI .u64 x_0 6148914691236517205)) 3689348814741910323)) 4) (addI .u64 (andI .u64 (shrI .u64 (addI .u64 (andI .u64 (shrI .u64 x_0 1) 6148914691236517205) (andI .u64 x_0 6148914691236517205)) 2) 3689348814741910323) (andI .u64 (addI .u64 (andI .u64 (shrI .u64 x_0 1) 6148914691236517205) (andI .u64 x_0 6148914691236517205)) 3689348814741910323))) 1085102592571150095) (shrI .u64 (andI .u64 (addI .u64 (shrI .u64 (addI .u64 (andI .u64 (shrI .u64 (addI .u64 (andI .u64 (shrI .u64 x_0 1) 6148914691236517205) (andI .u64 x_0 6148914691236517205)) 2) 3689348814741910323) (andI .u64 (addI .u64 (andI .u64 (shrI .u64 x_0 1) 6148914691236517205) (andI .u64 x_0 6148914691236517205)) 3689348814741910323)) 4) (addI .u64 (andI .u64 (shrI .u64 (addI .u64 (andI .u64 (shrI .u64 x_0 1) 6148914691236517205) (andI .u64 x_0 6148914691236517205)) 2) 3689348814741910323) (andI .u64 (addI .u64 (andI .u64 (shrI .u64 x_0 1) 6148914691236517205) (andI .u64 x_0 6148914691236517205)) 3689348814741910323))) 1085102592571150095) 8)) 16)) 32))) 127)
  ) (bits_OnesCount64 x_0) :=
  callC_le (T := tn) (c := bodyOf Try.f79) (o := ⟨[.lf (.i .i64)], []⟩) sigOk 100000 (by kernel_rfl) Try.func79 (by kernel_rfl) (by kernel_rfl) (by kernel_rfl)
theorem law16_DangerLeast_l1_le (a1 : Int) (a3 : List (Int)) (a5 : Int) (a7 : List (Int)) (a9 : Int) (a11 : List (Member)) : Le (
    bif (leB a5 a1) then
      Option.bind (danger_Splits (Config.mk a11) a5) fun x0 =>
      law16_DangerLeast_l2 a1 a3 a5 x0.1 x0.2 false a3 ((List.length a3 : Nat) : Int) 0 a7 a9 a11
    else
      Option.bind (law16_awake) fun x1 =>
      some x1
  ) (law16_DangerLeast_l1 a1 a3 a5 a7 a9 a11) :=
  goC_loopAt (T := tn) (o := ⟨[.lf .b], []⟩) sigOk 100000 (b := codeAt Try.f4 [1, 1, 1, 1, 1, 1, 0, 1, 0, 0]) (by kernel_rfl) (by kernel_rfl)
theorem danger_Splits_le (c_0 : Config) (s_1 : Int) : Le (
    Option.bind (danger_asked c_0 s_1) fun x0 =>
    bif (neB x0 0) then
      some (false, x0)
    else
      Option.bind (danger_splits c_0 s_1) fun x1 =>
      some (x1, 0)
  ) (danger_Splits c_0 s_1) :=
  callC_le (T := tn) (c := bodyOf Try.f13) (o := ⟨[.lf .b, .lf (.i .i64)], []⟩) sigOk 100000 (by kernel_rfl) Try.func13 (by kernel_rfl) (by kernel_rfl) (by kernel_rfl)
theorem law16_awake_le  : Le (
    Option.bind (law16_same 4 3) fun x0 =>
    Option.bind (danger_Splitting x0) fun x1 =>
    Option.bind (law16_same 4 3) fun x2 =>
    Option.bind (danger_Halting x2) fun x3 =>
    Option.bind (law16_same 4 3) fun x4 =>
    Option.bind (danger_Tolerates x4) fun x5 =>
    bif (eqB x1.2 0) then
      bif (eqB x3.2 0) then
        bif (eqB x5.2.2 0) then
          Option.bind (mk_Ints x1.1 ([3, 5, 6, 9, 10, 12] : List (Int))) fun x6 =>
          bif x6 then
            Option.bind (mk_Ints x3.1 x1.1) fun x7 =>
            bif x7 then
              bif (eqB x5.1 1) then
                some (eqB x5.2.1 1)
              else
                some false
            else
              some false
          else
            some false
        else
          some false
      else
        some false
    else
      some false
  ) (law16_awake) :=
  callC_le (T := tn) (c := bodyOf Try.f10) (o := ⟨[.lf .b], []⟩) sigOk 100000 (by kernel_rfl) Try.func10 (by kernel_rfl) (by kernel_rfl) (by kernel_rfl)
theorem danger_asked_le (c_0 : Config) (s_1 : Int) : Le (
    Option.bind (configuration_Valid c_0) fun x0 =>
    bif (neB x0 0) then
      some x0
    else
      bif (ltB s_1 0) then
        some 1
      else
        Option.bind (danger_members c_0) fun x1 =>
        bif (ltB x1 s_1) then
          some 1
        else
          some 0
  ) (danger_asked c_0 s_1) :=
  callC_le (T := tn) (c := bodyOf Try.f28) (o := ⟨[.lf (.i .i64)], []⟩) sigOk 100000 (by kernel_rfl) Try.func28 (by kernel_rfl) (by kernel_rfl) (by kernel_rfl)
theorem danger_splits_le (c_0 : Config) (s_1 : Int) : Le (
    Option.bind (deletion_Delete c_0 s_1) fun x0 =>
    Option.bind (intersection_Holds x0) fun x1 =>
    some (!x1.1)
  ) (danger_splits c_0 s_1) :=
  callC_le (T := tn) (c := bodyOf Try.f17) (o := ⟨[.lf .b], []⟩) sigOk 100000 (by kernel_rfl) Try.func17 (by kernel_rfl) (by kernel_rfl) (by kernel_rfl)
theorem mk_Ints_le (a_0 : List (Int)) (b_1 : List (Int)) : Le (
    bif (neB ((List.length a_0 : Nat) : Int) ((List.length b_1 : Nat) : Int)) then
      some false
    else
      mk_Ints_l1 a_0 b_1 ((List.length a_0 : Nat) : Int) 0
  ) (mk_Ints a_0 b_1) :=
  callC_le (T := tn) (c := bodyOf Try.f22) (o := ⟨[.lf .b], []⟩) sigOk 100000 (by kernel_rfl) Try.func22 (by kernel_rfl) (by kernel_rfl) (by kernel_rfl)
theorem deletion_Delete_le (c_0 : Config) (s_1 : Int) : Le (
    deletion_Delete_l1 s_1 c_0.Members ((List.length c_0.Members : Nat) : Int) 0 c_0.Members ([] : List (Member)) ([] : List (Member))
  ) (deletion_Delete c_0 s_1) :=
  callC_le (T := tn) (c := bodyOf Try.f33) (o := ⟨[.ag .Config], []⟩) sigOk 100000 (by kernel_rfl) Try.func33 (by kernel_rfl) (by kernel_rfl) (by kernel_rfl)
theorem intersection_Holds_le (c_0 : Config) : Le (
    Option.bind (configuration_Valid c_0) fun x0 =>
    bif (neB x0 0) then
      some (false, x0)
    else
      Option.bind (intersection_find c_0) fun x1 =>
      some ((eqB x1.1 0), 0)
  ) (intersection_Holds c_0) :=
  callC_le (T := tn) (c := bodyOf Try.f32) (o := ⟨[.lf .b, .lf (.i .i64)], []⟩) sigOk 100000 (by kernel_rfl) Try.func32 (by kernel_rfl) (by kernel_rfl) (by kernel_rfl)
theorem intersection_find_le (c_0 : Config) : Le (
    intersection_find_l1 ((List.length c_0.Members : Nat) : Int) 0 true c_0.Members
  ) (intersection_find c_0) :=
  callC_le (T := tn) (c := bodyOf Try.f48) (o := ⟨[.lf (.i .i64), .lf (.i .i64)], []⟩) sigOk 100000 (by kernel_rfl) Try.func48 (by kernel_rfl) (by kernel_rfl) (by kernel_rfl)
theorem law16_DangerUniform_l1_le (a0 : Int) (a2 : Int) (a4 : List (Int)) (a6 : List (Int)) (a8 : Int) (a10 : Int) (a12 : Int) (a14 : Int) (a16 : Int) (a18 : List (Member)) : Le (
    chk (0 ≤ a0) <|
    bif (ltB a16 (shlI .i64 1 a0)) then
      Option.bind (ref01_Size a16) fun x0 =>
      bif (eqB x0 a14) then
        bif (ltB a2 a0) then
          Option.bind (ref01_Size a16) fun x1 =>
          bif (eqB x1 (addI .i64 (subI .i64 a0 a2) 1)) then
            law16_DangerUniform_l1 a0 a2 a4 a6 a8 (addI .i64 a10 1) (addI .i64 a12 1) a14 (addI .i64 a16 1) a18
          else
            law16_DangerUniform_l1 a0 a2 a4 a6 a8 (addI .i64 a10 1) a12 a14 (addI .i64 a16 1) a18
        else
          Option.bind (ref01_Size a16) fun x2 =>
          bif (eqB x2 (addI .i64 (subI .i64 a0 a2) 1)) then
            law16_DangerUniform_l1 a0 a2 a4 a6 a8 a10 (addI .i64 a12 1) a14 (addI .i64 a16 1) a18
          else
            law16_DangerUniform_l1 a0 a2 a4 a6 a8 a10 a12 a14 (addI .i64 a16 1) a18
      else
        Option.bind (ref01_Size a16) fun x3 =>
        bif (eqB x3 (addI .i64 (subI .i64 a0 a2) 1)) then
          law16_DangerUniform_l1 a0 a2 a4 a6 a8 a10 (addI .i64 a12 1) a14 (addI .i64 a16 1) a18
        else
          law16_DangerUniform_l1 a0 a2 a4 a6 a8 a10 a12 a14 (addI .i64 a16 1) a18
    else
      law16_DangerUniform_l2 a0 a2 a4 a6 a8 a10 a12 a14 a4 ((List.length a4 : Nat) : Int) 0 a18
  ) (law16_DangerUniform_l1 a0 a2 a4 a6 a8 a10 a12 a14 a16 a18) :=
  goC_loopAt (T := tn) (o := ⟨[.lf .b], []⟩) sigOk 100000 (b := codeAt Try.f3 [1, 1, 1, 1, 1, 1, 1, 1, 1, 1, 0, 1, 0, 0]) (by kernel_rfl) (by kernel_rfl)
theorem ref01_Size_le (s_0 : Int) : Le (
    ref01_Size_l1 s_0 0 0
  ) (ref01_Size s_0) :=
  callC_le (T := tn) (c := bodyOf Try.f9) (o := ⟨[.lf (.i .i64)], []⟩) sigOk 100000 (by kernel_rfl) Try.func9 (by kernel_rfl) (by kernel_rfl) (by kernel_rfl)
theorem mk_Config_l1_le (a2 : Int) (a4 : Int) (a7 : Int) (a9 : List (Int)) (a11 : Int) (a13 : List (Member)) (a15 : List (Member)) : Le (
    bif (ltB a7 a2) then
      bif (eqB a4 0) then
        Option.bind (mk_Trust a2 2 a9 a11) fun x0 =>
        Option.bind (mk_Tape_N 12 x0.2.1 x0.2.2) fun x1 =>
        bif (eqB x1.1 11) then
          capOk (List.length a15 + List.length ([(Member.mk false (Trust.mk 0 ([] : List (Int)) ([] : List (Trust))))] : List (Member))) <|
          mk_Config_l1 a2 a4 (addI .i64 a7 1) x1.2.1 x1.2.2 a13 (a15 ++ ([(Member.mk false (Trust.mk 0 ([] : List (Int)) ([] : List (Trust))))] : List (Member)))
        else
          capOk (List.length a15 + List.length ([(Member.mk true (Trust.mk x0.1.Threshold x0.1.Nodes x0.1.Inner))] : List (Member))) <|
          mk_Config_l1 a2 a4 (addI .i64 a7 1) x1.2.1 x1.2.2 a13 (a15 ++ ([(Member.mk true (Trust.mk x0.1.Threshold x0.1.Nodes x0.1.Inner))] : List (Member)))
      else
        bif (eqB a4 1) then
          Option.bind (mk_most a2 a9 a11) fun x2 =>
          Option.bind (mk_Tape_N 12 x2.2.1 x2.2.2) fun x3 =>
          bif (eqB x3.1 11) then
            capOk (List.length a15 + List.length ([(Member.mk false (Trust.mk 0 ([] : List (Int)) ([] : List (Trust))))] : List (Member))) <|
            mk_Config_l1 a2 a4 (addI .i64 a7 1) x3.2.1 x3.2.2 a13 (a15 ++ ([(Member.mk false (Trust.mk 0 ([] : List (Int)) ([] : List (Trust))))] : List (Member)))
          else
            capOk (List.length a15 + List.length ([(Member.mk true (Trust.mk x2.1.Threshold x2.1.Nodes x2.1.Inner))] : List (Member))) <|
            mk_Config_l1 a2 a4 (addI .i64 a7 1) x3.2.1 x3.2.2 a13 (a15 ++ ([(Member.mk true (Trust.mk x2.1.Threshold x2.1.Nodes x2.1.Inner))] : List (Member)))
        else
          Option.bind (mk_group a2 a7 a9 a11) fun x4 =>
          Option.bind (mk_Tape_N 12 x4.2.1 x4.2.2) fun x5 =>
          bif (eqB x5.1 11) then
            capOk (List.length a15 + List.length ([(Member.mk false (Trust.mk 0 ([] : List (Int)) ([] : List (Trust))))] : List (Member))) <|
            mk_Config_l1 a2 a4 (addI .i64 a7 1) x5.2.1 x5.2.2 a13 (a15 ++ ([(Member.mk false (Trust.mk 0 ([] : List (Int)) ([] : List (Trust))))] : List (Member)))
          else
            capOk (List.length a15 + List.length ([(Member.mk true (Trust.mk x4.1.Threshold x4.1.Nodes x4.1.Inner))] : List (Member))) <|
            mk_Config_l1 a2 a4 (addI .i64 a7 1) x5.2.1 x5.2.2 a13 (a15 ++ ([(Member.mk true (Trust.mk x4.1.Threshold x4.1.Nodes x4.1.Inner))] : List (Member)))
    else
      some ((Config.mk a15), a9, a11)
  ) (mk_Config_l1 a2 a4 a7 a9 a11 a13 a15) :=
  goC_loopAt (T := tn) (o := ⟨[.ag .Config], [[.lf (.l .i64), .lf (.i .i64)]]⟩) sigOk 100000 (b := codeAt Try.f12 [1, 1, 1, 1, 0, 1, 0, 0]) (by kernel_rfl) (by kernel_rfl)
theorem mk_Trust_le (n_1 : Int) (deep_2 : Int) (h0 : List (Int)) (h1 : Int) : Le (
    Option.bind (mk_trust n_1 deep_2 h0 h1) fun x0 =>
    Option.bind (ref02_Valid x0.1) fun x1 =>
    bif (neB x1 0) then
      Option.bind (mk_Tape_N n_1 x0.2.1 x0.2.2) fun x2 =>
      some ((Trust.mk 1 ([x2.1] : List (Int)) ([] : List (Trust))), x2.2.1, x2.2.2)
    else
      some ((Trust.mk x0.1.Threshold x0.1.Nodes x0.1.Inner), x0.2.1, x0.2.2)
  ) (mk_Trust n_1 deep_2 h0 h1) :=
  callC_le (T := tn) (c := bodyOf Try.f25) (o := ⟨[.ag .Trust], [[.lf (.l .i64), .lf (.i .i64)]]⟩) sigOk 100000 (by kernel_rfl) Try.func25 (by kernel_rfl) (by kernel_rfl) (by kernel_rfl)
theorem mk_most_le (m_1 : Int) (h0 : List (Int)) (h1 : Int) : Le (
    mk_most_l1 m_1 0 h0 h1 0 ([] : List (Int)) ([] : List (Trust)) 0 ([] : List (Int)) ([] : List (Trust))
  ) (mk_most m_1 h0 h1) :=
  callC_le (T := tn) (c := bodyOf Try.f26) (o := ⟨[.ag .Trust], [[.lf (.l .i64), .lf (.i .i64)]]⟩) sigOk 100000 (by kernel_rfl) Try.func26 (by kernel_rfl) (by kernel_rfl) (by kernel_rfl)
theorem mk_group_le (m_1 : Int) (k_2 : Int) (h0 : List (Int)) (h1 : Int) : Le (
    mk_group_l1 m_1 k_2 ([] : List (Trust)) 0 h0 h1 0 ([] : List (Int)) ([] : List (Trust))
  ) (mk_group m_1 k_2 h0 h1) :=
  callC_le (T := tn) (c := bodyOf Try.f27) (o := ⟨[.ag .Trust], [[.lf (.l .i64), .lf (.i .i64)]]⟩) sigOk 100000 (by kernel_rfl) Try.func27 (by kernel_rfl) (by kernel_rfl) (by kernel_rfl)
theorem mk_trust_le (n_1 : Int) (deep_2 : Int) (h0 : List (Int)) (h1 : Int) : Le (
    Option.bind (mk_Tape_Order n_1 h0 h1) fun x0 =>
    Option.bind (mk_Tape_Range 1 (if 5 < n_1 then 5 else n_1) x0.2.1 x0.2.2) fun x1 =>
    hiK (List.length x0.1) x1.1 fun b2 =>
    mk_trust_l1 n_1 deep_2 (List.drop 0 (List.take b2 x0.1)) ((List.length (List.drop 0 (List.take b2 x0.1)) : Nat) : Int) 0 x1.2.1 x1.2.2 0 ([] : List (Int)) ([] : List (Trust)) 0 ([] : List (Int)) ([] : List (Trust))
  ) (mk_trust n_1 deep_2 h0 h1) :=
  callC_le (T := tn) (c := bodyOf Try.f37) (o := ⟨[.ag .Trust], [[.lf (.l .i64), .lf (.i .i64)]]⟩) sigOk 100000 (by kernel_rfl) Try.func37 (by kernel_rfl) (by kernel_rfl) (by kernel_rfl)
theorem ref02_Valid_le (t_0 : Trust) : Le (
    Option.bind (ref02_Depth t_0) fun x0 =>
    bif (ltB 4 x0) then
      some 3
    else
      Option.bind (ref02_Size t_0) fun x1 =>
      bif (ltB 200 x1) then
        some 3
      else
        Option.bind (ref02_check t_0) fun x2 =>
        some x2
  ) (ref02_Valid t_0) :=
  callC_le (T := tn) (c := bodyOf Try.f38) (o := ⟨[.lf (.i .i64)], []⟩) sigOk 100000 (by kernel_rfl) Try.func38 (by kernel_rfl) (by kernel_rfl) (by kernel_rfl)
theorem mk_Tape_Order_le (n_1 : Int) (h0 : List (Int)) (h1 : Int) : Le (
    mk_Tape_Order_l1 n_1 ([] : List (Int)) 0 h0 h1
  ) (mk_Tape_Order n_1 h0 h1) :=
  callC_le (T := tn) (c := bodyOf Try.f57) (o := ⟨[.lf (.l .i64)], [[.lf (.l .i64), .lf (.i .i64)]]⟩) sigOk 100000 (by kernel_rfl) Try.func57 (by kernel_rfl) (by kernel_rfl) (by kernel_rfl)
end Go.Proofs.Ytfjcndlhpfbcgaa
