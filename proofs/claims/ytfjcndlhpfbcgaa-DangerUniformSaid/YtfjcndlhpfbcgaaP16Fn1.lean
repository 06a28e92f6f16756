/- What the functions come to, printed by a program and checked by the kernel. -/
import Derived.Test.YtfjcndlhpfbcgaaP16Df
namespace Go.Proofs.Ytfjcndlhpfbcgaa
open Go Go.Ab
set_option maxRecDepth 100000
theorem z2z_le (a0 a4 : Int) (a6 : List Member) (a8 : Int) (a10 : List Int) (a12 : List Trust) : Le (
 bif (ltB a4 a0) then
 capOk (List.length a10 + List.length ([a4] : List (Int))) <|
 z2z a0 (addI .i64 a4 1) a6 a8 (a10 ++ ([a4] : List (Int))) a12
 else
 z3u a0 0 a6 a8 a10 a12 ([] : List (Member))
 ) (z2z a0 a4 a6 a8 a10 a12) :=
 goC_loopAt (T := tn) (o := ⟨[.ag .Config],[]⟩) sigOk 100000 (b := codeAt Try.f5 [1,1,0,1,0,0]) (by kernel_rfl) (by kernel_rfl)
theorem z1b_le (a2 a4 : List Int) (a6 a8 : Int) (a10 : List Member) : Le (
 bif (ltB a8 a6) then
 nth a4 a8 fun y0 =>
 Option.bind (z3p (Config.mk a10) y0) fun x1 =>
 bif x1 then
 capOk (List.length a2 + List.length ([y0] : List (Int))) <|
 z1b (a2 ++ ([y0] : List (Int))) a4 a6 (addI .i64 a8 1) a10
 else
 z1b a2 a4 a6 (addI .i64 a8 1) a10
 else
 Option.bind (z2h a2) fun x2 =>
 some x2
 ) (z1b a2 a4 a6 a8 a10) :=
 goC_loopAt (T := tn) (o := ⟨[.lf (.l .i64)],[]⟩) sigOk 100000 (b := codeAt Try.f16 [1,1,0,1,0,0]) (by kernel_rfl) (by kernel_rfl)
theorem z2h_le (l_0 : List Int) : Le (
 Option.bind (z27 l_0) fun x0 =>
 Option.bind (z18 x0.2) fun x1 =>
 Option.bind (z0e x1.2) fun x2 =>
 z3d ([] : List (Int)) x2 ((List.length x2 : Nat) : Int) 0
 ) (z2h l_0) :=
 callC_le (T := tn) (c := bodyOf Try.f31) (o := ⟨[.lf (.l .i64)],[]⟩) sigOk 100000 (by kernel_rfl) Try.func31 (by kernel_rfl) (by kernel_rfl) (by kernel_rfl)
theorem z27_le (s_0 : List Int) : Le (
 capOk (List.length ([] : List (Int)) + List.length s_0) <|
 some ((), (([] : List (Int)) ++ s_0))
 ) (z27 s_0) :=
 callC_nil (T := tn) (c := bodyOf Try.f44) (rest := codeAt Try.f44 [1,1]) (o := ⟨[.ref 0],[[.own .i64 false]]⟩) sigOk 100000 (by kernel_rfl) Try.func44 (by kernel_rfl) (by kernel_rfl) (by kernel_rfl) (by kernel_rfl) (fun hx r hr => by subst hx; cases hr; exact ⟨rfl, rfl⟩)
theorem z18_le (h0 : List Int) : Le (
 Option.bind (z19 h0) fun x0 =>
 bif (eqB x0.1 (-1)) then
 some ((), x0.2)
 else
 z35 x0.1 (addI .i64 x0.1 1) x0.2
 ) (z18 h0) :=
 callC_le (T := tn) (c := bodyOf Try.f43) (o := ⟨[.ref 0],[[.own .i64 false]]⟩) sigOk 100000 (by kernel_rfl) Try.func43 (by kernel_rfl) (by kernel_rfl) (by kernel_rfl)
theorem z0e_le (h0 : List Int) : Le (
 Option.bind (z3y (IntKind.wrap .u64 ((List.length h0 : Nat) : Int))) fun x0 =>
 Option.bind (z01 0 ((List.length h0 : Nat) : Int) x0 h0) fun x1 =>
 some x1
 ) (z0e h0) :=
 callC_le (T := tn) (c := bodyOf Try.f41) (o := ⟨[],[[.own .i64 false]]⟩) sigOk 100000 (by kernel_rfl) Try.func41 (by kernel_rfl) (by kernel_rfl) (by kernel_rfl)
theorem z19_le (h0 : List Int) : Le (
 z0o ((List.length h0 : Nat) : Int) 0 h0
 ) (z19 h0) :=
 callC_le (T := tn) (c := bodyOf Try.f67) (o := ⟨[.lf (.i .i64)],[[.own .i64 false]]⟩) sigOk 100000 (by kernel_rfl) Try.func67 (by kernel_rfl) (by kernel_rfl) (by kernel_rfl)
theorem z3y_le (x_0 : Int) : Le (
 Option.bind (z3w x_0) fun x0 =>
 some x0
 ) (z3y x_0) :=
 callC_le (T := tn) (c := bodyOf Try.f63) (o := ⟨[.lf (.i .i64)],[]⟩) sigOk 100000 (by kernel_rfl) Try.func63 (by kernel_rfl) (by kernel_rfl) (by kernel_rfl)
theorem z01_le (a_1 b_2 limit_3 : Int) (h0 : List Int) : Le (
 z00 a_1 b_2 limit_3 true true h0
 ) (z01 a_1 b_2 limit_3 h0) :=
 callC_le (T := tn) (c := bodyOf Try.f62) (o := ⟨[],[[.own .i64 false]]⟩) sigOk 100000 (by kernel_rfl) Try.func62 (by kernel_rfl) (by kernel_rfl) (by kernel_rfl)
theorem z3w_le (x_0 : Int) : Le (
 bif (leB 4294967296 x_0) then
 bif (leB 65536 (shrI .u64 x_0 32)) then
 bif (leB 256 (shrI .u64 (shrI .u64 x_0 32) 16)) then
 nth ([0, 1, 2, 2, 3, 3, 3, 3, 4, 4, 4, 4, 4, 4, 4, 4, 5, 5, 5, 5, 5, 5, 5, 5, 5, 5, 5, 5, 5, 5, 5, 5, 6, 6, 6, 6, 6, 6, 6, 6, 6, 6, 6, 6, 6, 6, 6, 6, 6, 6, 6, 6, 6, 6, 6, 6, 6, 6, 6, 6, 6, 6, 6, 6, 7, 7, 7, 7, 7, 7, 7, 7, 7, 7, 7, 7, 7, 7, 7, 7, 7, 7, 7, 7, 7, 7, 7, 7, 7, 7, 7, 7, 7, 7, 7, 7, 7, 7, 7, 7, 7, 7, 7, 7, 7, 7, 7, 7, 7, 7, 7, 7, 7, 7, 7, 7, 7, 7, 7, 7, 7, 7, 7, 7, 7, 7, 7, 7, 8, 8, 8, 8, 8, 8, 8, 8, 8, 8, 8, 8, 8, 8, 8, 8, 8, 8, 8, 8, 8, 8, 8, 8, 8, 8, 8, 8, 8, 8, 8, 8, 8, 8, 8, 8, 8, 8, 8, 8, 8, 8, 8, 8, 8, 8, 8, 8, 8, 8, 8, 8, 8, 8, 8, 8, 8, 8, 8, 8, 8, 8, 8, 8, 8, 8, 8, 8, 8, 8, 8, 8, 8, 8, 8, 8, 8, 8, 8, 8, 8, 8, 8, 8, 8, 8, 8, 8, 8, 8, 8, 8, 8, 8, 8, 8, 8, 8, 8, 8, 8, 8, 8, 8, 8, 8, 8, 8, 8, 8, 8, 8, 8, 8, 8, 8, 8, 8, 8, 8, 8, 8, 8, 8, 8, 8, 8, 8] : List UInt8) (IntKind.wrap .u8 (shrI .u64 (shrI .u64 (shrI .u64 x_0 32) 16) 8)) fun y0 =>
 some (addI .i64 56 (IntKind.wrap .i64 ((y0.toNat : Nat) : Int)))
 else
 nth ([0, 1, 2, 2, 3, 3, 3, 3, 4, 4, 4, 4, 4, 4, 4, 4, 5, 5, 5, 5, 5, 5, 5, 5, 5, 5, 5, 5, 5, 5, 5, 5, 6, 6, 6, 6, 6, 6, 6, 6, 6, 6, 6, 6, 6, 6, 6, 6, 6, 6, 6, 6, 6, 6, 6, 6, 6, 6, 6, 6, 6, 6, 6, 6, 7, 7, 7, 7, 7, 7, 7, 7, 7, 7, 7, 7, 7, 7, 7, 7, 7, 7, 7, 7, 7, 7, 7, 7, 7, 7, 7, 7, 7, 7, 7, 7, 7, 7, 7, 7, 7, 7, 7, 7, 7, 7, 7, 7, 7, 7, 7, 7, 7, 7, 7, 7, 7, 7, 7, 7, 7, 7, 7, 7, 7, 7, 7, 7, 8, 8, 8, 8, 8, 8, 8, 8, 8, 8, 8, 8, 8, 8, 8, 8, 8, 8, 8, 8, 8, 8, 8, 8, 8, 8, 8, 8, 8, 8, 8, 8, 8, 8, 8, 8, 8, 8, 8, 8, 8, 8, 8, 8, 8, 8, 8, 8, 8, 8, 8, 8, 8, 8, 8, 8, 8, 8, 8, 8, 8, 8, 8, 8, 8, 8, 8, 8, 8, 8, 8, 8, 8, 8, 8, 8, 8, 8, 8, 8, 8, 8, 8, 8, 8, 8, 8, 8, 8, 8, 8, 8, 8, 8, 8, 8, 8, 8, 8, 8, 8, 8, 8, 8, 8, 8, 8, 8, 8, 8, 8, 8, 8, 8, 8, 8, 8, 8, 8, 8, 8, 8, 8, 8, 8, 8, 8, 8] : List UInt8) (IntKind.wrap .u8 (shrI .u64 (shrI .u64 x_0 32) 16)) fun y1 =>
 some (addI .i64 48 (IntKind.wrap .i64 ((y1.toNat : Nat) : Int)))
 else
 bif (leB 256 (shrI .u64 x_0 32)) then
 nth ([0, 1, 2, 2, 3, 3, 3, 3, 4, 4, 4, 4, 4, 4, 4, 4, 5, 5, 5, 5, 5, 5, 5, 5, 5, 5, 5, 5, 5, 5, 5, 5, 6, 6, 6, 6, 6, 6, 6, 6, 6, 6, 6, 6, 6, 6, 6, 6, 6, 6, 6, 6, 6, 6, 6, 6, 6, 6, 6, 6, 6, 6, 6, 6, 7, 7, 7, 7, 7, 7, 7, 7, 7, 7, 7, 7, 7, 7, 7, 7, 7, 7, 7, 7, 7, 7, 7, 7, 7, 7, 7, 7, 7, 7, 7, 7, 7, 7, 7, 7, 7, 7, 7, 7, 7, 7, 7, 7, 7, 7, 7, 7, 7, 7, 7, 7, 7, 7, 7, 7, 7, 7, 7, 7, 7, 7, 7, 7, 8, 8, 8, 8, 8, 8, 8, 8, 8, 8, 8, 8, 8, 8, 8, 8, 8, 8, 8, 8, 8, 8, 8, 8, 8, 8, 8, 8, 8, 8, 8, 8, 8, 8, 8, 8, 8, 8, 8, 8, 8, 8, 8, 8, 8, 8, 8, 8, 8, 8, 8, 8, 8, 8, 8, 8, 8, 8, 8, 8, 8, 8, 8, 8, 8, 8, 8, 8, 8, 8, 8, 8, 8, 8, 8, 8, 8, 8, 8, 8, 8, 8, 8, 8, 8, 8, 8, 8, 8, 8, 8, 8, 8, 8, 8, 8, 8, 8, 8, 8, 8, 8, 8, 8, 8, 8, 8, 8, 8, 8, 8, 8, 8, 8, 8, 8, 8, 8, 8, 8, 8, 8, 8, 8, 8, 8, 8, 8] : List UInt8) (IntKind.wrap .u8 (shrI .u64 (shrI .u64 x_0 32) 8)) fun y2 =>
 some (addI .i64 40 (IntKind.wrap .i64 ((y2.toNat : Nat) : Int)))
 else
 nth ([0, 1, 2, 2, 3, 3, 3, 3, 4, 4, 4, 4, 4, 4, 4, 4, 5, 5, 5, 5, 5, 5, 5, 5, 5, 5, 5, 5, 5, 5, 5, 5, 6, 6, 6, 6, 6, 6, 6, 6, 6, 6, 6, 6, 6, 6, 6, 6, 6, 6, 6, 6, 6, 6, 6, 6, 6, 6, 6, 6, 6, 6, 6, 6, 7, 7, 7, 7, 7, 7, 7, 7, 7, 7, 7, 7, 7, 7, 7, 7, 7, 7, 7, 7, 7, 7, 7, 7, 7, 7, 7, 7, 7, 7, 7, 7, 7, 7, 7, 7, 7, 7, 7, 7, 7, 7, 7, 7, 7, 7, 7, 7, 7, 7, 7, 7, 7, 7, 7, 7, 7, 7, 7, 7, 7, 7, 7, 7, 8, 8, 8, 8, 8, 8, 8, 8, 8, 8, 8, 8, 8, 8, 8, 8, 8, 8, 8, 8, 8, 8, 8, 8, 8, 8, 8, 8, 8, 8, 8, 8, 8, 8, 8, 8, 8, 8, 8, 8, 8, 8, 8, 8, 8, 8, 8, 8, 8, 8, 8, 8, 8, 8, 8, 8, 8, 8, 8, 8, 8, 8, 8, 8, 8, 8, 8, 8, 8, 8, 8, 8, 8, 8, 8, 8, 8, 8, 8, 8, 8, 8, 8, 8, 8, 8, 8, 8, 8, 8, 8, 8, 8, 8, 8, 8, 8, 8, 8, 8, 8, 8, 8, 8, 8, 8, 8, 8, 8, 8, 8, 8, 8, 8, 8, 8, 8, 8, 8, 8, 8, 8, 8, 8, 8, 8, 8, 8] : List UInt8) (IntKind.wrap .u8 (shrI .u64 x_0 32)) fun y3 =>
 some (addI .i64 32 (IntKind.wrap .i64 ((y3.toNat : Nat) : Int)))
 else
 bif (leB 65536 x_0) then
 bif (leB 256 (shrI .u64 x_0 16)) then
 nth ([0, 1, 2, 2, 3, 3, 3, 3, 4, 4, 4, 4, 4, 4, 4, 4, 5, 5, 5, 5, 5, 5, 5, 5, 5, 5, 5, 5, 5, 5, 5, 5, 6, 6, 6, 6, 6, 6, 6, 6, 6, 6, 6, 6, 6, 6, 6, 6, 6, 6, 6, 6, 6, 6, 6, 6, 6, 6, 6, 6, 6, 6, 6, 6, 7, 7, 7, 7, 7, 7, 7, 7, 7, 7, 7, 7, 7, 7, 7, 7, 7, 7, 7, 7, 7, 7, 7, 7, 7, 7, 7, 7, 7, 7, 7, 7, 7, 7, 7, 7, 7, 7, 7, 7, 7, 7, 7, 7, 7, 7, 7, 7, 7, 7, 7, 7, 7, 7, 7, 7, 7, 7, 7, 7, 7, 7, 7, 7, 8, 8, 8, 8, 8, 8, 8, 8, 8, 8, 8, 8, 8, 8, 8, 8, 8, 8, 8, 8, 8, 8, 8, 8, 8, 8, 8, 8, 8, 8, 8, 8, 8, 8, 8, 8, 8, 8, 8, 8, 8, 8, 8, 8, 8, 8, 8, 8, 8, 8, 8, 8, 8, 8, 8, 8, 8, 8, 8, 8, 8, 8, 8, 8, 8, 8, 8, 8, 8, 8, 8, 8, 8, 8, 8, 8, 8, 8, 8, 8, 8, 8, 8, 8, 8, 8, 8, 8, 8, 8, 8, 8, 8, 8, 8, 8, 8, 8, 8, 8, 8, 8, 8, 8, 8, 8, 8, 8, 8, 8, 8, 8, 8, 8, 8, 8, 8, 8, 8, 8, 8, 8, 8, 8, 8, 8, 8, 8] : List UInt8) (IntKind.wrap .u8 (shrI .u64 (shrI .u64 x_0 16) 8)) fun y4 =>
 some (addI .i64 24 (IntKind.wrap .i64 ((y4.toNat : Nat) : Int)))
 else
 nth ([0, 1, 2, 2, 3, 3, 3, 3, 4, 4, 4, 4, 4, 4, 4, 4, 5, 5, 5, 5, 5, 5, 5, 5, 5, 5, 5, 5, 5, 5, 5, 5, 6, 6, 6, 6, 6, 6, 6, 6, 6, 6, 6, 6, 6, 6, 6, 6, 6, 6, 6, 6, 6, 6, 6, 6, 6, 6, 6, 6, 6, 6, 6, 6, 7, 7, 7, 7, 7, 7, 7, 7, 7, 7, 7, 7, 7, 7, 7, 7, 7, 7, 7, 7, 7, 7, 7, 7, 7, 7, 7, 7, 7, 7, 7, 7, 7, 7, 7, 7, 7, 7, 7, 7, 7, 7, 7, 7, 7, 7, 7, 7, 7, 7, 7, 7, 7, 7, 7, 7, 7, 7, 7, 7, 7, 7, 7, 7, 8, 8, 8, 8, 8, 8, 8, 8, 8, 8, 8, 8, 8, 8, 8, 8, 8, 8, 8, 8, 8, 8, 8, 8, 8, 8, 8, 8, 8, 8, 8, 8, 8, 8, 8, 8, 8, 8, 8, 8, 8, 8, 8, 8, 8, 8, 8, 8, 8, 8, 8, 8, 8, 8, 8, 8, 8, 8, 8, 8, 8, 8, 8, 8, 8, 8, 8, 8, 8, 8, 8, 8, 8, 8, 8, 8, 8, 8, 8, 8, 8, 8, 8, 8, 8, 8, 8, 8, 8, 8, 8, 8, 8, 8, 8, 8, 8, 8, 8, 8, 8, 8, 8, 8, 8, 8, 8, 8, 8, 8, 8, 8, 8, 8, 8, 8, 8, 8, 8, 8, 8, 8, 8, 8, 8, 8, 8, 8] : List UInt8) (IntKind.wrap .u8 (shrI .u64 x_0 16)) fun y5 =>
 some (addI .i64 16 (IntKind.wrap .i64 ((y5.toNat : Nat) : Int)))
 else
 bif (leB 256 x_0) then
 nth ([0, 1, 2, 2, 3, 3, 3, 3, 4, 4, 4, 4, 4, 4, 4, 4, 5, 5, 5, 5, 5, 5, 5, 5, 5, 5, 5, 5, 5, 5, 5, 5, 6, 6, 6, 6, 6, 6, 6, 6, 6, 6, 6, 6, 6, 6, 6, 6, 6, 6, 6, 6, 6, 6, 6, 6, 6, 6, 6, 6, 6, 6, 6, 6, 7, 7, 7, 7, 7, 7, 7, 7, 7, 7, 7, 7, 7, 7, 7, 7, 7, 7, 7, 7, 7, 7, 7, 7, 7, 7, 7, 7, 7, 7, 7, 7, 7, 7, 7, 7, 7, 7, 7, 7, 7, 7, 7, 7, 7, 7, 7, 7, 7, 7, 7, 7, 7, 7, 7, 7, 7, 7, 7, 7, 7, 7, 7, 7, 8, 8, 8, 8, 8, 8, 8, 8, 8, 8, 8, 8, 8, 8, 8, 8, 8, 8, 8, 8, 8, 8, 8, 8, 8, 8, 8, 8, 8, 8, 8, 8, 8, 8, 8, 8, 8, 8, 8, 8, 8, 8, 8, 8, 8, 8, 8, 8, 8, 8, 8, 8, 8, 8, 8, 8, 8, 8, 8, 8, 8, 8, 8, 8, 8, 8, 8, 8, 8, 8, 8, 8, 8, 8, 8, 8, 8, 8, 8, 8, 8, 8, 8, 8, 8, 8, 8, 8, 8, 8, 8, 8, 8, 8, 8, 8, 8, 8, 8, 8, 8, 8, 8, 8, 8, 8, 8, 8, 8, 8, 8, 8, 8, 8, 8, 8, 8, 8, 8, 8, 8, 8, 8, 8, 8, 8, 8, 8] : List UInt8) (IntKind.wrap .u8 (shrI .u64 x_0 8)) fun y6 =>
 some (addI .i64 8 (IntKind.wrap .i64 ((y6.toNat : Nat) : Int)))
 else
 nth ([0, 1, 2, 2, 3, 3, 3, 3, 4, 4, 4, 4, 4, 4, 4, 4, 5, 5, 5, 5, 5, 5, 5, 5, 5, 5, 5, 5, 5, 5, 5, 5, 6, 6, 6, 6, 6, 6, 6, 6, 6, 6, 6, 6, 6, 6, 6, 6, 6, 6, 6, 6, 6, 6, 6, 6, 6, 6, 6, 6, 6, 6, 6, 6, 7, 7, 7, 7, 7, 7, 7, 7, 7, 7, 7, 7, 7, 7, 7, 7, 7, 7, 7, 7, 7, 7, 7, 7, 7, 7, 7, 7, 7, 7, 7, 7, 7, 7, 7, 7, 7, 7, 7, 7, 7, 7, 7, 7, 7, 7, 7, 7, 7, 7, 7, 7, 7, 7, 7, 7, 7, 7, 7, 7, 7, 7, 7, 7, 8, 8, 8, 8, 8, 8, 8, 8, 8, 8, 8, 8, 8, 8, 8, 8, 8, 8, 8, 8, 8, 8, 8, 8, 8, 8, 8, 8, 8, 8, 8, 8, 8, 8, 8, 8, 8, 8, 8, 8, 8, 8, 8, 8, 8, 8, 8, 8, 8, 8, 8, 8, 8, 8, 8, 8, 8, 8, 8, 8, 8, 8, 8, 8, 8, 8, 8, 8, 8, 8, 8, 8, 8, 8, 8, 8, 8, 8, 8, 8, 8, 8, 8, 8, 8, 8, 8, 8, 8, 8, 8, 8, 8, 8, 8, 8, 8, 8, 8, 8, 8, 8, 8, 8, 8, 8, 8, 8, 8, 8, 8, 8, 8, 8, 8, 8, 8, 8, 8, 8, 8, 8, 8, 8, 8, 8, 8, 8] : List UInt8) (IntKind.wrap .u8 x_0) fun y7 =>
 some (addI .i64 0 (IntKind.wrap .i64 ((y7.toNat : Nat) : Int)))
 ) (z3w x_0) :=
 callC_le (T := tn) (c := bodyOf Try.f90) (o := ⟨[.lf (.i .i64)],[]⟩) sigOk 100000 (by kernel_rfl) Try.func90 (by kernel_rfl) (by kernel_rfl) (by kernel_rfl)
theorem z1o_le (a1 : List Member) (a3 a5 : Int) (a7 : List Member) : Le (
 bif (ltB a5 a3) then
 nth a1 a5 fun y0 =>
 Option.bind (z2d y0 ((List.length a7 : Nat) : Int)) fun x1 =>
 bif (neB x1 0) then
 some x1
 else
 z1o a1 a3 (addI .i64 a5 1) a7
 else
 some 0
 ) (z1o a1 a3 a5 a7) :=
 goC_loopAt (T := tn) (o := ⟨[.lf (.i .i64)],[]⟩) sigOk 100000 (b := codeAt Try.f18 [1,1,0,1,0,0]) (by kernel_rfl) (by kernel_rfl)
theorem z2d_le (m_0 : Member) (members_1 : Int) : Le (
 bif (!m_0.Declared) then
 Option.bind (z2i m_0.Trust) fun x0 =>
 bif (!x0) then
 some 1
 else
 some 0
 else
 Option.bind (z3f m_0.Trust) fun x1 =>
 bif (neB x1 0) then
 some x1
 else
 chk (0 ≤ members_1) <|
 Option.bind (z37 m_0.Trust) fun x2 =>
 bif (leB (shlI .i64 1 members_1) x2) then
 some 5
 else
 some 0
 ) (z2d m_0 members_1) :=
 callC_le (T := tn) (c := bodyOf Try.f34) (o := ⟨[.lf (.i .i64)],[]⟩) sigOk 100000 (by kernel_rfl) Try.func34 (by kernel_rfl) (by kernel_rfl) (by kernel_rfl)
theorem z2i_le (t_0 : Trust) : Le (
 bif (eqB t_0.Threshold 0) then
 bif (eqB ((List.length t_0.Nodes : Nat) : Int) 0) then
 some (eqB ((List.length t_0.Inner : Nat) : Int) 0)
 else
 some false
 else
 some false
 ) (z2i t_0) :=
 callC_le (T := tn) (c := bodyOf Try.f52) (o := ⟨[.lf .b],[]⟩) sigOk 100000 (by kernel_rfl) Try.func52 (by kernel_rfl) (by kernel_rfl) (by kernel_rfl)
theorem z3f_le (t_0 : Trust) : Le (
 Option.bind (z2x t_0) fun x0 =>
 bif (ltB 4 x0) then
 some 3
 else
 Option.bind (z38 t_0) fun x1 =>
 bif (ltB 200 x1) then
 some 3
 else
 Option.bind (z2y t_0) fun x2 =>
 some x2
 ) (z3f t_0) :=
 callC_le (T := tn) (c := bodyOf Try.f53) (o := ⟨[.lf (.i .i64)],[]⟩) sigOk 100000 (by kernel_rfl) Try.func53 (by kernel_rfl) (by kernel_rfl) (by kernel_rfl)
theorem z37_le (t_0 : Trust) : Le (
 z1y 0 t_0.Nodes ((List.length t_0.Nodes : Nat) : Int) 0 t_0.Threshold t_0.Nodes t_0.Inner
 ) (z37 t_0) :=
 callC_le (T := tn) (c := bodyOf Try.f54) (o := ⟨[.lf (.i .i64)],[]⟩) sigOk 100000 (by kernel_rfl) Try.func54 (by kernel_rfl) (by kernel_rfl) (by kernel_rfl)
theorem z2x_le (t_0 : Trust) : Le (
 z23 0 t_0.Inner ((List.length t_0.Inner : Nat) : Int) 0 t_0.Threshold t_0.Nodes t_0.Inner
 ) (z2x t_0) :=
 callC_le (T := tn) (c := bodyOf Try.f72) (o := ⟨[.lf (.i .i64)],[]⟩) sigOk 100000 (by kernel_rfl) Try.func72 (by kernel_rfl) (by kernel_rfl) (by kernel_rfl)
theorem z38_le (t_0 : Trust) : Le (
 z28 (addI .i64 ((List.length t_0.Nodes : Nat) : Int) ((List.length t_0.Inner : Nat) : Int)) t_0.Inner ((List.length t_0.Inner : Nat) : Int) 0 t_0.Threshold t_0.Nodes t_0.Inner
 ) (z38 t_0) :=
 callC_le (T := tn) (c := bodyOf Try.f73) (o := ⟨[.lf (.i .i64)],[]⟩) sigOk 100000 (by kernel_rfl) Try.func73 (by kernel_rfl) (by kernel_rfl) (by kernel_rfl)
theorem z2y_le (t_0 : Trust) : Le (
 bif (ltB t_0.Threshold 1) then
 some 4
 else
 bif (ltB (addI .i64 ((List.length t_0.Nodes : Nat) : Int) ((List.length t_0.Inner : Nat) : Int)) t_0.Threshold) then
 some 4
 else
 Option.bind (z16 t_0.Nodes) fun x0 =>
 bif x0 then
 some 5
 else
 Option.bind (z3x t_0.Nodes) fun x1 =>
 bif (neB x1.2 0) then
 some x1.2
 else
 z24 t_0.Inner ((List.length t_0.Inner : Nat) : Int) 0 t_0.Threshold t_0.Nodes t_0.Inner
 ) (z2y t_0) :=
 callC_le (T := tn) (c := bodyOf Try.f74) (o := ⟨[.lf (.i .i64)],[]⟩) sigOk 100000 (by kernel_rfl) Try.func74 (by kernel_rfl) (by kernel_rfl) (by kernel_rfl)
theorem z16_le (s_0 : List Int) : Le (
 Option.bind (z1f s_0) fun x0 =>
 some (leB 0 x0)
 ) (z16 s_0) :=
 callC_le (T := tn) (c := bodyOf Try.f46) (o := ⟨[.lf .b],[]⟩) sigOk 100000 (by kernel_rfl) Try.func46 (by kernel_rfl) (by kernel_rfl) (by kernel_rfl)
theorem z3x_le (nodes_0 : List Int) : Le (
 z2b 0 nodes_0 ((List.length nodes_0 : Nat) : Int) 0
 ) (z3x nodes_0) :=
 callC_le (T := tn) (c := bodyOf Try.f95) (o := ⟨[.lf (.i .i64), .lf (.i .i64)],[]⟩) sigOk 100000 (by kernel_rfl) Try.func95 (by kernel_rfl) (by kernel_rfl) (by kernel_rfl)
theorem z1f_le (s_0 : List Int) : Le (
 z0f s_0 ((List.length s_0 : Nat) : Int) 0
 ) (z1f s_0) :=
 callC_le (T := tn) (c := bodyOf Try.f67) (o := ⟨[.lf (.i .i64)],[]⟩) sigOk 100000 (by kernel_rfl) Try.func67 (by kernel_rfl) (by kernel_rfl) (by kernel_rfl)
theorem z1d_le (a2 a4 : List Int) (a6 a8 : Int) (a10 : List Member) : Le (
 bif (ltB a8 a6) then
 nth a4 a8 fun y0 =>
 Option.bind (z3r (Config.mk a10) y0) fun x1 =>
 bif x1 then
 capOk (List.length a2 + List.length ([y0] : List (Int))) <|
 z1d (a2 ++ ([y0] : List (Int))) a4 a6 (addI .i64 a8 1) a10
 else
 z1d a2 a4 a6 (addI .i64 a8 1) a10
 else
 Option.bind (z2h a2) fun x2 =>
 some x2
 ) (z1d a2 a4 a6 a8 a10) :=
 goC_loopAt (T := tn) (o := ⟨[.lf (.l .i64)],[]⟩) sigOk 100000 (b := codeAt Try.f16 [1,1,0,1,0,0]) (by kernel_rfl) (by kernel_rfl)
theorem z3r_le (c_0 : Config) (s_1 : Int) : Le (
 Option.bind (z2m c_0) fun x0 =>
 Option.bind (z2n c_0 (andNotI .i64 x0 s_1)) fun x1 =>
 some (eqB x1 0)
 ) (z3r c_0 s_1) :=
 callC_le (T := tn) (c := bodyOf Try.f19) (o := ⟨[.lf .b],[]⟩) sigOk 100000 (by kernel_rfl) Try.func19 (by kernel_rfl) (by kernel_rfl) (by kernel_rfl)
theorem z2n_le (c_0 : Config) (s_1 : Int) : Le (
 Option.bind (z33 c_0 s_1) fun x0 =>
 some x0.1
 ) (z2n c_0 s_1) :=
 callC_le (T := tn) (c := bodyOf Try.f35) (o := ⟨[.lf (.i .i64)],[]⟩) sigOk 100000 (by kernel_rfl) Try.func35 (by kernel_rfl) (by kernel_rfl) (by kernel_rfl)
theorem z33_le (c_0 : Config) (s_1 : Int) : Le (
 Option.bind (z1j s_1) fun x0 =>
 bif (!x0) then
 some (0, ([] : List (Int)))
 else
 Option.bind (z1x c_0) fun x1 =>
 z1u (andI .i64 s_1 x1) ([] : List (Int)) c_0.Members
 ) (z33 c_0 s_1) :=
 callC_le (T := tn) (c := bodyOf Try.f55) (o := ⟨[.lf (.i .i64), .lf (.l .i64)],[]⟩) sigOk 100000 (by kernel_rfl) Try.func55 (by kernel_rfl) (by kernel_rfl) (by kernel_rfl)
theorem z1x_le (c_0 : Config) : Le (
 z1e 0 c_0.Members ((List.length c_0.Members : Nat) : Int) 0 c_0.Members
 ) (z1x c_0) :=
 callC_le (T := tn) (c := bodyOf Try.f76) (o := ⟨[.lf (.i .i64)],[]⟩) sigOk 100000 (by kernel_rfl) Try.func76 (by kernel_rfl) (by kernel_rfl) (by kernel_rfl)
theorem z1s_le (a0 : Int) (a2 : List Int) (a4 : Int) : Le (
 Option.bind (z1j a0) fun x0 =>
 bif x0 then
 bif (leB a4 a0) then
 bif (eqB (andNotI .i64 a4 a0) 0) then
 capOk (List.length a2 + List.length ([a4] : List (Int))) <|
 z1s a0 (a2 ++ ([a4] : List (Int))) (addI .i64 a4 1)
 else
 z1s a0 a2 (addI .i64 a4 1)
 else
 Option.bind (z0e a2) fun x1 =>
 some x1
 else
 Option.bind (z0e a2) fun x2 =>
 some x2
 ) (z1s a0 a2 a4) :=
 goC_loopAt (T := tn) (o := ⟨[.lf (.l .i64)],[]⟩) sigOk 100000 (b := codeAt Try.f29 [1,1,0,1,0,0]) (by kernel_rfl) (by kernel_rfl)
theorem z3g_le (a0 a2 : List Int) (a4 a6 : Int) : Le (
 bif (ltB a6 a4) then
 nth a0 a6 fun y0 =>
 nth a2 a6 fun y1 =>
 bif (neB y0 y1) then
 some false
 else
 z3g a0 a2 a4 (addI .i64 a6 1)
 else
 some true
 ) (z3g a0 a2 a4 a6) :=
 goC_loopAt (T := tn) (o := ⟨[.lf .b],[]⟩) sigOk 100000 (b := codeAt Try.f22 [1,1,0,1,0,0]) (by kernel_rfl) (by kernel_rfl)
theorem z1k_le (a0 : Int) (a4 : List Member) (a6 a8 : Int) (a10 a12 a14 : List Member) : Le (
 bif (ltB a8 a6) then
 nth a4 a8 fun y0 =>
 Option.bind (z2s a0 a8) fun x1 =>
 bif x1 then
 capOk (List.length a14 + List.length ([(Member.mk false (Trust.mk 0 ([] : List (Int)) ([] : List (Trust))))] : List (Member))) <|
 z1k a0 a4 a6 (addI .i64 a8 1) a10 a12 (a14 ++ ([(Member.mk false (Trust.mk 0 ([] : List (Int)) ([] : List (Trust))))] : List (Member)))
 else
 bif y0.Declared then
 Option.bind (z3k y0.Trust a8 a0) fun x2 =>
 capOk (List.length a14 + List.length ([(Member.mk y0.Declared (Trust.mk x2.Threshold x2.Nodes x2.Inner))] : List (Member))) <|
 z1k a0 a4 a6 (addI .i64 a8 1) a10 a12 (a14 ++ ([(Member.mk y0.Declared (Trust.mk x2.Threshold x2.Nodes x2.Inner))] : List (Member)))
 else
 Option.bind (z2e y0.Trust) fun x3 =>
 capOk (List.length a14 + List.length ([(Member.mk y0.Declared (Trust.mk x3.Threshold x3.Nodes x3.Inner))] : List (Member))) <|
 z1k a0 a4 a6 (addI .i64 a8 1) a10 a12 (a14 ++ ([(Member.mk y0.Declared (Trust.mk x3.Threshold x3.Nodes x3.Inner))] : List (Member)))
 else
 some (Config.mk a14)
 ) (z1k a0 a4 a6 a8 a10 a12 a14) :=
 goC_loopAt (T := tn) (o := ⟨[.ag .Config],[]⟩) sigOk 100000 (b := codeAt Try.f33 [1,1,0,1,0,0]) (by kernel_rfl) (by kernel_rfl)
theorem z2s_le (s_0 node_1 : Int) : Le (
 Option.bind (z1j s_0) fun x0 =>
 bif x0 then
 bif (leB 0 node_1) then
 bif (ltB node_1 10) then
 chk (0 ≤ node_1) <|
 some (neB (andI .i64 s_0 (shlI .i64 1 node_1)) 0)
 else
 some false
 else
 some false
 else
 some false
 ) (z2s s_0 node_1) :=
 callC_le (T := tn) (c := bodyOf Try.f49) (o := ⟨[.lf .b],[]⟩) sigOk 100000 (by kernel_rfl) Try.func49 (by kernel_rfl) (by kernel_rfl) (by kernel_rfl)
theorem z3k_le (t_0 : Trust) (node_1 s_2 : Int) : Le (
 Option.bind (z1j s_2) fun x0 =>
 bif (!x0) then
 Option.bind (z2e t_0) fun x1 =>
 some (Trust.mk x1.Threshold x1.Nodes x1.Inner)
 else
 Option.bind (z39 t_0 s_2) fun x2 =>
 bif (eqB x2.Threshold 0) then
 some (Trust.mk 1 ([node_1] : List (Int)) ([] : List (Trust)))
 else
 some (Trust.mk x2.Threshold x2.Nodes x2.Inner)
 ) (z3k t_0 node_1 s_2) :=
 callC_le (T := tn) (c := bodyOf Try.f50) (o := ⟨[.ag .Trust],[]⟩) sigOk 100000 (by kernel_rfl) Try.func50 (by kernel_rfl) (by kernel_rfl) (by kernel_rfl)
theorem z2e_le (t_0 : Trust) : Le (
 capOk (List.length ([] : List (Int)) + List.length t_0.Nodes) <|
 z25 t_0.Inner ((List.length t_0.Inner : Nat) : Int) 0 t_0.Threshold t_0.Nodes t_0.Inner 0 ([] : List (Int)) ([] : List (Trust)) t_0.Threshold (([] : List (Int)) ++ t_0.Nodes) ([] : List (Trust))
 ) (z2e t_0) :=
 callC_le (T := tn) (c := bodyOf Try.f51) (o := ⟨[.ag .Trust],[]⟩) sigOk 100000 (by kernel_rfl) Try.func51 (by kernel_rfl) (by kernel_rfl) (by kernel_rfl)
theorem z39_le (t_0 : Trust) (s_1 : Int) : Le (
 z1z s_1 t_0.Nodes ((List.length t_0.Nodes : Nat) : Int) 0 t_0.Threshold t_0.Nodes t_0.Inner 0 ([] : List (Int)) ([] : List (Trust)) (if 0 > t_0.Threshold then 0 else t_0.Threshold) ([] : List (Int)) ([] : List (Trust))
 ) (z39 t_0 s_1) :=
 callC_le (T := tn) (c := bodyOf Try.f71) (o := ⟨[.ag .Trust],[]⟩) sigOk 100000 (by kernel_rfl) Try.func71 (by kernel_rfl) (by kernel_rfl) (by kernel_rfl)
theorem z1g_le (a1 a3 : Int) (a5 : Bool) (a7 : List Member) : Le (
 bif a5 then
 Option.bind (z3l (Config.mk a7) a3) fun x0 =>
 bif (!x0) then
 Option.bind (z3m a3 a1) fun x1 =>
 z1g a1 x1.1 x1.2 a7
 else
 Option.bind (z1t (Config.mk a7)) fun x2 =>
 Option.bind (z2n (Config.mk a7) (andNotI .i64 x2 a3)) fun x3 =>
 bif (neB x3 0) then
 some (a3, x3)
 else
 Option.bind (z3m a3 a1) fun x4 =>
 z1g a1 x4.1 x4.2 a7
 else
 some (0, 0)
 ) (z1g a1 a3 a5 a7) :=
 goC_loopAt (T := tn) (o := ⟨[.lf (.i .i64), .lf (.i .i64)],[]⟩) sigOk 100000 (b := codeAt Try.f48 [1,1,0,1,0,0]) (by kernel_rfl) (by kernel_rfl)
theorem z3l_le (c_0 : Config) (s_1 : Int) : Le (
 Option.bind (z1j s_1) fun x0 =>
 bif (!x0) then
 some false
 else
 bif (eqB s_1 0) then
 some false
 else
 Option.bind (z3n c_0 s_1) fun x1 =>
 bif (!x1) then
 some false
 else
 Option.bind (z29 c_0 s_1) fun x2 =>
 some (!x2.2)
 ) (z3l c_0 s_1) :=
 callC_le (T := tn) (c := bodyOf Try.f69) (o := ⟨[.lf .b],[]⟩) sigOk 100000 (by kernel_rfl) Try.func69 (by kernel_rfl) (by kernel_rfl) (by kernel_rfl)
end Go.Proofs.Ytfjcndlhpfbcgaa
