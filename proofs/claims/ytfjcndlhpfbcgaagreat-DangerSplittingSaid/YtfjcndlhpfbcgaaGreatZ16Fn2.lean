/- What the functions come to, printed by a program and checked by the kernel. -/
import Derived.Test.YtfjcndlhpfbcgaaGreatZ16Df
namespace Go.Proofs.YtfjcndlhpfbcgaaGreat
open Go Go.Ab
set_option maxRecDepth 100000
theorem y4o (t_0 : Trust) : Le (
 z2s 0 t_0.Nodes ((List.length t_0.Nodes : Nat) : Int) 0 t_0.Threshold t_0.Nodes t_0.Inner
 ) (z5d t_0) :=
 q01 (T := tn) (c := q06 Tryz.f88) (o := ⟨[.lf (.i .i64)],[]⟩) sigOk 100000 (by kernel_rfl) Tryz.func88 (by kernel_rfl) (by kernel_rfl) (by kernel_rfl)
theorem y34 (t_0 : Trust) : Le (
 z2z 0 t_0.Inner ((List.length t_0.Inner : Nat) : Int) 0 t_0.Threshold t_0.Nodes t_0.Inner
 ) (z4w t_0) :=
 q01 (T := tn) (c := q06 Tryz.f108) (o := ⟨[.lf (.i .i64)],[]⟩) sigOk 100000 (by kernel_rfl) Tryz.func108 (by kernel_rfl) (by kernel_rfl) (by kernel_rfl)
theorem y5k (t_0 : Trust) : Le (
 z39 (addI .i64 ((List.length t_0.Nodes : Nat) : Int) ((List.length t_0.Inner : Nat) : Int)) t_0.Inner ((List.length t_0.Inner : Nat) : Int) 0 t_0.Threshold t_0.Nodes t_0.Inner
 ) (z5e t_0) :=
 q01 (T := tn) (c := q06 Tryz.f109) (o := ⟨[.lf (.i .i64)],[]⟩) sigOk 100000 (by kernel_rfl) Tryz.func109 (by kernel_rfl) (by kernel_rfl) (by kernel_rfl)
theorem y46 (t_0 : Trust) : Le (
 bif (ltB t_0.Threshold 1) then
 some 4
 else
 bif (ltB (addI .i64 ((List.length t_0.Nodes : Nat) : Int) ((List.length t_0.Inner : Nat) : Int)) t_0.Threshold) then
 some 4
 else
 Option.bind (z16 t_0.Nodes) fun x0 =>
 bif x0 then
 some 5
 else
 Option.bind (z6u t_0.Nodes) fun x1 =>
 bif (neB x1.2 0) then
 some x1.2
 else
 z30 t_0.Inner ((List.length t_0.Inner : Nat) : Int) 0 t_0.Threshold t_0.Nodes t_0.Inner
 ) (z4x t_0) :=
 q01 (T := tn) (c := q06 Tryz.f110) (o := ⟨[.lf (.i .i64)],[]⟩) sigOk 100000 (by kernel_rfl) Tryz.func110 (by kernel_rfl) (by kernel_rfl) (by kernel_rfl)
theorem y4j (s_0 : List Int) : Le (
 Option.bind (z1i s_0) fun x0 =>
 some (leB 0 x0)
 ) (z16 s_0) :=
 q01 (T := tn) (c := q06 Tryz.f95) (o := ⟨[.lf .b],[]⟩) sigOk 100000 (by kernel_rfl) Tryz.func95 (by kernel_rfl) (by kernel_rfl) (by kernel_rfl)
theorem y3w (nodes_0 : List Int) : Le (
 z3f 0 nodes_0 ((List.length nodes_0 : Nat) : Int) 0
 ) (z6u nodes_0) :=
 q01 (T := tn) (c := q06 Tryz.f126) (o := ⟨[.lf (.i .i64), .lf (.i .i64)],[]⟩) sigOk 100000 (by kernel_rfl) Tryz.func126 (by kernel_rfl) (by kernel_rfl) (by kernel_rfl)
theorem y3o (s_0 : List Int) : Le (
 z0f s_0 ((List.length s_0 : Nat) : Int) 0
 ) (z1i s_0) :=
 q01 (T := tn) (c := q06 Tryz.f118) (o := ⟨[.lf (.i .i64)],[]⟩) sigOk 100000 (by kernel_rfl) Tryz.func118 (by kernel_rfl) (by kernel_rfl) (by kernel_rfl)
theorem qyo (a2 a4 : List Int) (a6 a8 : Int) (a10 : List Member) : Le (
 bif (ltB a8 a6) then
 nth a4 a8 fun y0 =>
 Option.bind (z5y (Config.mk a10) y0) fun x1 =>
 bif x1 then
 capOk (List.length a2 + List.length ([y0] : List (Int))) <|
 z1d (a2 ++ ([y0] : List (Int))) a4 a6 (addI .i64 a8 1) a10
 else
 z1d a2 a4 a6 (addI .i64 a8 1) a10
 else
 Option.bind (z47 a2) fun x2 =>
 some x2
 ) (z1d a2 a4 a6 a8 a10) :=
 q00 (T := tn) (o := ⟨[.lf (.l .i64)],[]⟩) sigOk 100000 (b := q03 Tryz.f36 [1,1,0,1,0,0]) (by kernel_rfl) (by kernel_rfl)
theorem y28 (c_0 : Config) (s_1 : Int) : Le (
 Option.bind (z3o c_0) fun x0 =>
 Option.bind (z4h c_0 (q7i .i64 x0 s_1)) fun x1 =>
 some (eqB x1 0)
 ) (z5y c_0 s_1) :=
 q01 (T := tn) (c := q06 Tryz.f37) (o := ⟨[.lf .b],[]⟩) sigOk 100000 (by kernel_rfl) Tryz.func37 (by kernel_rfl) (by kernel_rfl) (by kernel_rfl)
theorem y4c (l_0 : List Int) : Le (
 Option.bind (z38 l_0) fun x0 =>
 Option.bind (z17 x0.2) fun x1 =>
 Option.bind (z0e x1.2) fun x2 =>
 z5l ([] : List (Int)) x2 ((List.length x2 : Nat) : Int) 0
 ) (z47 l_0) :=
 q01 (T := tn) (c := q06 Tryz.f68) (o := ⟨[.lf (.l .i64)],[]⟩) sigOk 100000 (by kernel_rfl) Tryz.func68 (by kernel_rfl) (by kernel_rfl) (by kernel_rfl)
theorem y3a (c_0 : Config) (s_1 : Int) : Le (
 Option.bind (z56 c_0 s_1) fun x0 =>
 some x0.1
 ) (z4h c_0 s_1) :=
 q01 (T := tn) (c := q06 Tryz.f69) (o := ⟨[.lf (.i .i64)],[]⟩) sigOk 100000 (by kernel_rfl) Tryz.func69 (by kernel_rfl) (by kernel_rfl) (by kernel_rfl)
theorem y3t (s_0 : List Int) : Le (
 capOk (List.length ([] : List (Int)) + List.length s_0) <|
 some ((), (([] : List (Int)) ++ s_0))
 ) (z38 s_0) :=
 qsx (T := tn) (c := q06 Tryz.f93) (rest := q03 Tryz.f93 [1,1]) (o := ⟨[.ref 0],[[.own .i64 false]]⟩) sigOk 100000 (by kernel_rfl) Tryz.func93 (by kernel_rfl) (by kernel_rfl) (by kernel_rfl) (by kernel_rfl) (fun hx r hr => by subst hx; cases hr; exact ⟨rfl, rfl⟩)
theorem y2v (h0 : List Int) : Le (
 Option.bind (z18 h0) fun x0 =>
 bif (eqB x0.1 (-1)) then
 some ((), x0.2)
 else
 z59 x0.1 (addI .i64 x0.1 1) x0.2
 ) (z17 h0) :=
 q01 (T := tn) (c := q06 Tryz.f92) (o := ⟨[.ref 0],[[.own .i64 false]]⟩) sigOk 100000 (by kernel_rfl) Tryz.func92 (by kernel_rfl) (by kernel_rfl) (by kernel_rfl)
theorem y5a (h0 : List Int) : Le (
 Option.bind (z6y (IntKind.wrap .u64 ((List.length h0 : Nat) : Int))) fun x0 =>
 Option.bind (z01 0 ((List.length h0 : Nat) : Int) x0 h0) fun x1 =>
 some x1
 ) (z0e h0) :=
 q01 (T := tn) (c := q06 Tryz.f90) (o := ⟨[],[[.own .i64 false]]⟩) sigOk 100000 (by kernel_rfl) Tryz.func90 (by kernel_rfl) (by kernel_rfl) (by kernel_rfl)
theorem y60 (c_0 : Config) (s_1 : Int) : Le (
 Option.bind (z1o s_1) fun x0 =>
 bif (!x0) then
 some (0, ([] : List (Int)))
 else
 Option.bind (z2p c_0) fun x1 =>
 z2k (andI .i64 s_1 x1) ([] : List (Int)) c_0.Members
 ) (z56 c_0 s_1) :=
 q01 (T := tn) (c := q06 Tryz.f97) (o := ⟨[.lf (.i .i64), .lf (.l .i64)],[]⟩) sigOk 100000 (by kernel_rfl) Tryz.func97 (by kernel_rfl) (by kernel_rfl) (by kernel_rfl)
theorem y3i (h0 : List Int) : Le (
 z0o ((List.length h0 : Nat) : Int) 0 h0
 ) (z18 h0) :=
 q01 (T := tn) (c := q06 Tryz.f118) (o := ⟨[.lf (.i .i64)],[[.own .i64 false]]⟩) sigOk 100000 (by kernel_rfl) Tryz.func118 (by kernel_rfl) (by kernel_rfl) (by kernel_rfl)
theorem y5e (x_0 : Int) : Le (
 Option.bind (z6v x_0) fun x0 =>
 some x0
 ) (z6y x_0) :=
 q01 (T := tn) (c := q06 Tryz.f114) (o := ⟨[.lf (.i .i64)],[]⟩) sigOk 100000 (by kernel_rfl) Tryz.func114 (by kernel_rfl) (by kernel_rfl) (by kernel_rfl)
theorem qzm (a_1 b_2 limit_3 : Int) (h0 : List Int) : Le (
 z00 a_1 b_2 limit_3 true true h0
 ) (z01 a_1 b_2 limit_3 h0) :=
 q01 (T := tn) (c := q06 Tryz.f113) (o := ⟨[],[[.own .i64 false]]⟩) sigOk 100000 (by kernel_rfl) Tryz.func113 (by kernel_rfl) (by kernel_rfl) (by kernel_rfl)
theorem y42 (c_0 : Config) : Le (
 z1e 0 c_0.Members ((List.length c_0.Members : Nat) : Int) 0 c_0.Members
 ) (z2p c_0) :=
 q01 (T := tn) (c := q06 Tryz.f119) (o := ⟨[.lf (.i .i64)],[]⟩) sigOk 100000 (by kernel_rfl) Tryz.func119 (by kernel_rfl) (by kernel_rfl) (by kernel_rfl)
theorem y2g (x_0 : Int) : Le (
 bif (leB 4294967296 x_0) then
 bif (leB 65536 (shrI .u64 x_0 32)) then
 bif (leB 256 (shrI .u64 (shrI .u64 x_0 32) 16)) then
 nth ([0, 1, 2, 2, 3, 3, 3, 3, 4, 4, 4, 4, 4, 4, 4, 4, 5, 5, 5, 5, 5, 5, 5, 5, 5, 5, 5, 5, 5, 5, 5, 5, 6, 6, 6, 6, 6, 6, 6, 6, 6, 6, 6, 6, 6, 6, 6, 6, 6, 6, 6, 6, 6, 6, 6, 6, 6, 6, 6, 6, 6, 6, 6, 6, 7, 7, 7, 7, 7, 7, 7, 7, 7, 7, 7, 7, 7, 7, 7, 7, 7, 7, 7, 7, 7, 7, 7, 7, 7, 7, 7, 7, 7, 7, 7, 7, 7, 7, 7, 7, 7, 7, 7, 7, 7, 7, 7, 7, 7, 7, 7, 7, 7, 7, 7, 7, 7, 7, 7, 7, 7, 7, 7, 7, 7, 7, 7, 7, 8, 8, 8, 8, 8, 8, 8, 8, 8, 8, 8, 8, 8, 8, 8, 8, 8, 8, 8, 8, 8, 8, 8, 8, 8, 8, 8, 8, 8, 8, 8, 8, 8, 8, 8, 8, 8, 8, 8, 8, 8, 8, 8, 8, 8, 8, 8, 8, 8, 8, 8, 8, 8, 8, 8, 8, 8, 8, 8, 8, 8, 8, 8, 8, 8, 8, 8, 8, 8, 8, 8, 8, 8, 8, 8, 8, 8, 8, 8, 8, 8, 8, 8, 8, 8, 8, 8, 8, 8, 8, 8, 8, 8, 8, 8, 8, 8, 8, 8, 8, 8, 8, 8, 8, 8, 8, 8, 8, 8, 8, 8, 8, 8, 8, 8, 8, 8, 8, 8, 8, 8, 8, 8, 8, 8, 8, 8, 8] : List UInt8) (IntKind.wrap .u8 (shrI .u64 (shrI .u64 (shrI .u64 x_0 32) 16) 8)) fun y0 =>
 some (addI .i64 56 (IntKind.wrap .i64 ((y0.toNat : Nat) : Int)))
 else
 nth ([0, 1, 2, 2, 3, 3, 3, 3, 4, 4, 4, 4, 4, 4, 4, 4, 5, 5, 5, 5, 5, 5, 5, 5, 5, 5, 5, 5, 5, 5, 5, 5, 6, 6, 6, 6, 6, 6, 6, 6, 6, 6, 6, 6, 6, 6, 6, 6, 6, 6, 6, 6, 6, 6, 6, 6, 6, 6, 6, 6, 6, 6, 6, 6, 7, 7, 7, 7, 7, 7, 7, 7, 7, 7, 7, 7, 7, 7, 7, 7, 7, 7, 7, 7, 7, 7, 7, 7, 7, 7, 7, 7, 7, 7, 7, 7, 7, 7, 7, 7, 7, 7, 7, 7, 7, 7, 7, 7, 7, 7, 7, 7, 7, 7, 7, 7, 7, 7, 7, 7, 7, 7, 7, 7, 7, 7, 7, 7, 8, 8, 8, 8, 8, 8, 8, 8, 8, 8, 8, 8, 8, 8, 8, 8, 8, 8, 8, 8, 8, 8, 8, 8, 8, 8, 8, 8, 8, 8, 8, 8, 8, 8, 8, 8, 8, 8, 8, 8, 8, 8, 8, 8, 8, 8, 8, 8, 8, 8, 8, 8, 8, 8, 8, 8, 8, 8, 8, 8, 8, 8, 8, 8, 8, 8, 8, 8, 8, 8, 8, 8, 8, 8, 8, 8, 8, 8, 8, 8, 8, 8, 8, 8, 8, 8, 8, 8, 8, 8, 8, 8, 8, 8, 8, 8, 8, 8, 8, 8, 8, 8, 8, 8, 8, 8, 8, 8, 8, 8, 8, 8, 8, 8, 8, 8, 8, 8, 8, 8, 8, 8, 8, 8, 8, 8, 8, 8] : List UInt8) (IntKind.wrap .u8 (shrI .u64 (shrI .u64 x_0 32) 16)) fun y1 =>
 some (addI .i64 48 (IntKind.wrap .i64 ((y1.toNat : Nat) : Int)))
 else
 bif (leB 256 (shrI .u64 x_0 32)) then
 nth ([0, 1, 2, 2, 3, 3, 3, 3, 4, 4, 4, 4, 4, 4, 4, 4, 5, 5, 5, 5, 5, 5, 5, 5, 5, 5, 5, 5, 5, 5, 5, 5, 6, 6, 6, 6, 6, 6, 6, 6, 6, 6, 6, 6, 6, 6, 6, 6, 6, 6, 6, 6, 6, 6, 6, 6, 6, 6, 6, 6, 6, 6, 6, 6, 7, 7, 7, 7, 7, 7, 7, 7, 7, 7, 7, 7, 7, 7, 7, 7, 7, 7, 7, 7, 7, 7, 7, 7, 7, 7, 7, 7, 7, 7, 7, 7, 7, 7, 7, 7, 7, 7, 7, 7, 7, 7, 7, 7, 7, 7, 7, 7, 7, 7, 7, 7, 7, 7, 7, 7, 7, 7, 7, 7, 7, 7, 7, 7, 8, 8, 8, 8, 8, 8, 8, 8, 8, 8, 8, 8, 8, 8, 8, 8, 8, 8, 8, 8, 8, 8, 8, 8, 8, 8, 8, 8, 8, 8, 8, 8, 8, 8, 8, 8, 8, 8, 8, 8, 8, 8, 8, 8, 8, 8, 8, 8, 8, 8, 8, 8, 8, 8, 8, 8, 8, 8, 8, 8, 8, 8, 8, 8, 8, 8, 8, 8, 8, 8, 8, 8, 8, 8, 8, 8, 8, 8, 8, 8, 8, 8, 8, 8, 8, 8, 8, 8, 8, 8, 8, 8, 8, 8, 8, 8, 8, 8, 8, 8, 8, 8, 8, 8, 8, 8, 8, 8, 8, 8, 8, 8, 8, 8, 8, 8, 8, 8, 8, 8, 8, 8, 8, 8, 8, 8, 8, 8] : List UInt8) (IntKind.wrap .u8 (shrI .u64 (shrI .u64 x_0 32) 8)) fun y2 =>
 some (addI .i64 40 (IntKind.wrap .i64 ((y2.toNat : Nat) : Int)))
 else
 nth ([0, 1, 2, 2, 3, 3, 3, 3, 4, 4, 4, 4, 4, 4, 4, 4, 5, 5, 5, 5, 5, 5, 5, 5, 5, 5, 5, 5, 5, 5, 5, 5, 6, 6, 6, 6, 6, 6, 6, 6, 6, 6, 6, 6, 6, 6, 6, 6, 6, 6, 6, 6, 6, 6, 6, 6, 6, 6, 6, 6, 6, 6, 6, 6, 7, 7, 7, 7, 7, 7, 7, 7, 7, 7, 7, 7, 7, 7, 7, 7, 7, 7, 7, 7, 7, 7, 7, 7, 7, 7, 7, 7, 7, 7, 7, 7, 7, 7, 7, 7, 7, 7, 7, 7, 7, 7, 7, 7, 7, 7, 7, 7, 7, 7, 7, 7, 7, 7, 7, 7, 7, 7, 7, 7, 7, 7, 7, 7, 8, 8, 8, 8, 8, 8, 8, 8, 8, 8, 8, 8, 8, 8, 8, 8, 8, 8, 8, 8, 8, 8, 8, 8, 8, 8, 8, 8, 8, 8, 8, 8, 8, 8, 8, 8, 8, 8, 8, 8, 8, 8, 8, 8, 8, 8, 8, 8, 8, 8, 8, 8, 8, 8, 8, 8, 8, 8, 8, 8, 8, 8, 8, 8, 8, 8, 8, 8, 8, 8, 8, 8, 8, 8, 8, 8, 8, 8, 8, 8, 8, 8, 8, 8, 8, 8, 8, 8, 8, 8, 8, 8, 8, 8, 8, 8, 8, 8, 8, 8, 8, 8, 8, 8, 8, 8, 8, 8, 8, 8, 8, 8, 8, 8, 8, 8, 8, 8, 8, 8, 8, 8, 8, 8, 8, 8, 8, 8] : List UInt8) (IntKind.wrap .u8 (shrI .u64 x_0 32)) fun y3 =>
 some (addI .i64 32 (IntKind.wrap .i64 ((y3.toNat : Nat) : Int)))
 else
 bif (leB 65536 x_0) then
 bif (leB 256 (shrI .u64 x_0 16)) then
 nth ([0, 1, 2, 2, 3, 3, 3, 3, 4, 4, 4, 4, 4, 4, 4, 4, 5, 5, 5, 5, 5, 5, 5, 5, 5, 5, 5, 5, 5, 5, 5, 5, 6, 6, 6, 6, 6, 6, 6, 6, 6, 6, 6, 6, 6, 6, 6, 6, 6, 6, 6, 6, 6, 6, 6, 6, 6, 6, 6, 6, 6, 6, 6, 6, 7, 7, 7, 7, 7, 7, 7, 7, 7, 7, 7, 7, 7, 7, 7, 7, 7, 7, 7, 7, 7, 7, 7, 7, 7, 7, 7, 7, 7, 7, 7, 7, 7, 7, 7, 7, 7, 7, 7, 7, 7, 7, 7, 7, 7, 7, 7, 7, 7, 7, 7, 7, 7, 7, 7, 7, 7, 7, 7, 7, 7, 7, 7, 7, 8, 8, 8, 8, 8, 8, 8, 8, 8, 8, 8, 8, 8, 8, 8, 8, 8, 8, 8, 8, 8, 8, 8, 8, 8, 8, 8, 8, 8, 8, 8, 8, 8, 8, 8, 8, 8, 8, 8, 8, 8, 8, 8, 8, 8, 8, 8, 8, 8, 8, 8, 8, 8, 8, 8, 8, 8, 8, 8, 8, 8, 8, 8, 8, 8, 8, 8, 8, 8, 8, 8, 8, 8, 8, 8, 8, 8, 8, 8, 8, 8, 8, 8, 8, 8, 8, 8, 8, 8, 8, 8, 8, 8, 8, 8, 8, 8, 8, 8, 8, 8, 8, 8, 8, 8, 8, 8, 8, 8, 8, 8, 8, 8, 8, 8, 8, 8, 8, 8, 8, 8, 8, 8, 8, 8, 8, 8, 8] : List UInt8) (IntKind.wrap .u8 (shrI .u64 (shrI .u64 x_0 16) 8)) fun y4 =>
 some (addI .i64 24 (IntKind.wrap .i64 ((y4.toNat : Nat) : Int)))
 else
 nth ([0, 1, 2, 2, 3, 3, 3, 3, 4, 4, 4, 4, 4, 4, 4, 4, 5, 5, 5, 5, 5, 5, 5, 5, 5, 5, 5, 5, 5, 5, 5, 5, 6, 6, 6, 6, 6, 6, 6, 6, 6, 6, 6, 6, 6, 6, 6, 6, 6, 6, 6, 6, 6, 6, 6, 6, 6, 6, 6, 6, 6, 6, 6, 6, 7, 7, 7, 7, 7, 7, 7, 7, 7, 7, 7, 7, 7, 7, 7, 7, 7, 7, 7, 7, 7, 7, 7, 7, 7, 7, 7, 7, 7, 7, 7, 7, 7, 7, 7, 7, 7, 7, 7, 7, 7, 7, 7, 7, 7, 7, 7, 7, 7, 7, 7, 7, 7, 7, 7, 7, 7, 7, 7, 7, 7, 7, 7, 7, 8, 8, 8, 8, 8, 8, 8, 8, 8, 8, 8, 8, 8, 8, 8, 8, 8, 8, 8, 8, 8, 8, 8, 8, 8, 8, 8, 8, 8, 8, 8, 8, 8, 8, 8, 8, 8, 8, 8, 8, 8, 8, 8, 8, 8, 8, 8, 8, 8, 8, 8, 8, 8, 8, 8, 8, 8, 8, 8, 8, 8, 8, 8, 8, 8, 8, 8, 8, 8, 8, 8, 8, 8, 8, 8, 8, 8, 8, 8, 8, 8, 8, 8, 8, 8, 8, 8, 8, 8, 8, 8, 8, 8, 8, 8, 8, 8, 8, 8, 8, 8, 8, 8, 8, 8, 8, 8, 8, 8, 8, 8, 8, 8, 8, 8, 8, 8, 8, 8, 8, 8, 8, 8, 8, 8, 8, 8, 8] : List UInt8) (IntKind.wrap .u8 (shrI .u64 x_0 16)) fun y5 =>
 some (addI .i64 16 (IntKind.wrap .i64 ((y5.toNat : Nat) : Int)))
 else
 bif (leB 256 x_0) then
 nth ([0, 1, 2, 2, 3, 3, 3, 3, 4, 4, 4, 4, 4, 4, 4, 4, 5, 5, 5, 5, 5, 5, 5, 5, 5, 5, 5, 5, 5, 5, 5, 5, 6, 6, 6, 6, 6, 6, 6, 6, 6, 6, 6, 6, 6, 6, 6, 6, 6, 6, 6, 6, 6, 6, 6, 6, 6, 6, 6, 6, 6, 6, 6, 6, 7, 7, 7, 7, 7, 7, 7, 7, 7, 7, 7, 7, 7, 7, 7, 7, 7, 7, 7, 7, 7, 7, 7, 7, 7, 7, 7, 7, 7, 7, 7, 7, 7, 7, 7, 7, 7, 7, 7, 7, 7, 7, 7, 7, 7, 7, 7, 7, 7, 7, 7, 7, 7, 7, 7, 7, 7, 7, 7, 7, 7, 7, 7, 7, 8, 8, 8, 8, 8, 8, 8, 8, 8, 8, 8, 8, 8, 8, 8, 8, 8, 8, 8, 8, 8, 8, 8, 8, 8, 8, 8, 8, 8, 8, 8, 8, 8, 8, 8, 8, 8, 8, 8, 8, 8, 8, 8, 8, 8, 8, 8, 8, 8, 8, 8, 8, 8, 8, 8, 8, 8, 8, 8, 8, 8, 8, 8, 8, 8, 8, 8, 8, 8, 8, 8, 8, 8, 8, 8, 8, 8, 8, 8, 8, 8, 8, 8, 8, 8, 8, 8, 8, 8, 8, 8, 8, 8, 8, 8, 8, 8, 8, 8, 8, 8, 8, 8, 8, 8, 8, 8, 8, 8, 8, 8, 8, 8, 8, 8, 8, 8, 8, 8, 8, 8, 8, 8, 8, 8, 8, 8, 8] : List UInt8) (IntKind.wrap .u8 (shrI .u64 x_0 8)) fun y6 =>
 some (addI .i64 8 (IntKind.wrap .i64 ((y6.toNat : Nat) : Int)))
 else
 nth ([0, 1, 2, 2, 3, 3, 3, 3, 4, 4, 4, 4, 4, 4, 4, 4, 5, 5, 5, 5, 5, 5, 5, 5, 5, 5, 5, 5, 5, 5, 5, 5, 6, 6, 6, 6, 6, 6, 6, 6, 6, 6, 6, 6, 6, 6, 6, 6, 6, 6, 6, 6, 6, 6, 6, 6, 6, 6, 6, 6, 6, 6, 6, 6, 7, 7, 7, 7, 7, 7, 7, 7, 7, 7, 7, 7, 7, 7, 7, 7, 7, 7, 7, 7, 7, 7, 7, 7, 7, 7, 7, 7, 7, 7, 7, 7, 7, 7, 7, 7, 7, 7, 7, 7, 7, 7, 7, 7, 7, 7, 7, 7, 7, 7, 7, 7, 7, 7, 7, 7, 7, 7, 7, 7, 7, 7, 7, 7, 8, 8, 8, 8, 8, 8, 8, 8, 8, 8, 8, 8, 8, 8, 8, 8, 8, 8, 8, 8, 8, 8, 8, 8, 8, 8, 8, 8, 8, 8, 8, 8, 8, 8, 8, 8, 8, 8, 8, 8, 8, 8, 8, 8, 8, 8, 8, 8, 8, 8, 8, 8, 8, 8, 8, 8, 8, 8, 8, 8, 8, 8, 8, 8, 8, 8, 8, 8, 8, 8, 8, 8, 8, 8, 8, 8, 8, 8, 8, 8, 8, 8, 8, 8, 8, 8, 8, 8, 8, 8, 8, 8, 8, 8, 8, 8, 8, 8, 8, 8, 8, 8, 8, 8, 8, 8, 8, 8, 8, 8, 8, 8, 8, 8, 8, 8, 8, 8, 8, 8, 8, 8, 8, 8, 8, 8, 8, 8] : List UInt8) (IntKind.wrap .u8 x_0) fun y7 =>
 some (addI .i64 0 (IntKind.wrap .i64 ((y7.toNat : Nat) : Int)))
 ) (z6v x_0) :=
 q01 (T := tn) (c := q06 Tryz.f136) (o := ⟨[.lf (.i .i64)],[]⟩) sigOk 100000 (by kernel_rfl) Tryz.func136 (by kernel_rfl) (by kernel_rfl) (by kernel_rfl)
theorem qzh (a1 : List Member) (a3 a5 : Int) (a7 : List Member) : Le (
 bif (ltB a5 a3) then
 nth a1 a5 fun y0 =>
 bif (!y0.Declared) then
 Option.bind (z58 y0.Trust (Trust.mk 0 ([] : List (Int)) ([] : List (Trust)))) fun x1 =>
 bif (!x1) then
 some 1
 else
 z3q a1 a3 (addI .i64 a5 1) a7
 else
 Option.bind (z3v y0.Trust) fun x2 =>
 bif (neB x2 0) then
 some x2
 else
 chk (0 ≤ ((List.length a7 : Nat) : Int)) <|
 Option.bind (z6n y0.Trust) fun x3 =>
 bif (leB (shlI .i64 1 ((List.length a7 : Nat) : Int)) x3) then
 some 5
 else
 z3q a1 a3 (addI .i64 a5 1) a7
 else
 some 0
 ) (z3q a1 a3 a5 a7) :=
 q00 (T := tn) (o := ⟨[.lf (.i .i64)],[]⟩) sigOk 100000 (b := q03 Tryz.f38 [1,1,0,1,0,0]) (by kernel_rfl) (by kernel_rfl)
theorem qoa (a_0 b_1 : Trust) : Le (
 bif (neB a_0.Threshold b_1.Threshold) then
 some false
 else
 Option.bind (z6o a_0.Nodes b_1.Nodes) fun x0 =>
 bif (!x0) then
 some false
 else
 bif (neB ((List.length a_0.Inner : Nat) : Int) ((List.length b_1.Inner : Nat) : Int)) then
 some false
 else
 z3g ((List.length a_0.Inner : Nat) : Int) 0 a_0.Threshold a_0.Nodes a_0.Inner b_1.Threshold b_1.Nodes b_1.Inner
 ) (z58 a_0 b_1) :=
 q01 (T := tn) (c := q06 Tryz.f70) (o := ⟨[.lf .b],[]⟩) sigOk 100000 (by kernel_rfl) Tryz.func70 (by kernel_rfl) (by kernel_rfl) (by kernel_rfl)
theorem y31 (t_0 : Trust) : Le (
 z36 0 t_0.Nodes ((List.length t_0.Nodes : Nat) : Int) 0 t_0.Threshold t_0.Nodes t_0.Inner
 ) (z6n t_0) :=
 q01 (T := tn) (c := q06 Tryz.f71) (o := ⟨[.lf (.i .i64)],[]⟩) sigOk 100000 (by kernel_rfl) Tryz.func71 (by kernel_rfl) (by kernel_rfl) (by kernel_rfl)
theorem qy4 (a_0 b_1 : List Int) : Le (
 bif (neB ((List.length a_0 : Nat) : Int) ((List.length b_1 : Nat) : Int)) then
 some false
 else
 z4c a_0 b_1 ((List.length a_0 : Nat) : Int) 0
 ) (z6o a_0 b_1) :=
 q01 (T := tn) (c := q06 Tryz.f98) (o := ⟨[.lf .b],[]⟩) sigOk 100000 (by kernel_rfl) Tryz.func98 (by kernel_rfl) (by kernel_rfl) (by kernel_rfl)
theorem qxj (a1 : List Int) (a3 : Int) (a5 : List Member) : Le (
 chk (0 ≤ ((List.length a5 : Nat) : Int)) <|
 bif (ltB a3 (shlI .i64 1 ((List.length a5 : Nat) : Int))) then
 Option.bind (z23 (Config.mk a5) a3) fun x0 =>
 bif x0 then
 capOk (List.length a1 + List.length ([a3] : List (Int))) <|
 z4t (a1 ++ ([a3] : List (Int))) (addI .i64 a3 1) a5
 else
 z4t a1 (addI .i64 a3 1) a5
 else
 some a1
 ) (z4t a1 a3 a5) :=
 q00 (T := tn) (o := ⟨[.lf (.l .i64)],[]⟩) sigOk 100000 (b := q03 Tryz.f40 [1,1,0,1,0,0]) (by kernel_rfl) (by kernel_rfl)
theorem qwy (a0 a2 a4 : List Int) (a6 a8 : Int) : Le (
 bif (ltB a8 a6) then
 nth a4 a8 fun y0 =>
 Option.bind (z1h y0) fun x1 =>
 z2b a0 a2 y0 x1 a4 a6 a8 a0 ((List.length a0 : Nat) : Int) 0
 else
 some a2
 ) (z1u a0 a2 a4 a6 a8) :=
 q00 (T := tn) (o := ⟨[.lf (.l .i64)],[]⟩) sigOk 100000 (b := q03 Tryz.f39 [1,1,0,1,0,0]) (by kernel_rfl) (by kernel_rfl)
theorem qym (a0 : Int) (a4 : List Member) (a6 a8 : Int) (a10 a12 a14 : List Member) : Le (
 bif (ltB a8 a6) then
 nth a4 a8 fun y0 =>
 Option.bind (z4m a0 a8) fun x1 =>
 bif x1 then
 capOk (List.length a14 + List.length ([(Member.mk false (Trust.mk 0 ([] : List (Int)) ([] : List (Trust))))] : List (Member))) <|
 z1r a0 a4 a6 (addI .i64 a8 1) a10 a12 (a14 ++ ([(Member.mk false (Trust.mk 0 ([] : List (Int)) ([] : List (Trust))))] : List (Member)))
 else
 bif y0.Declared then
 Option.bind (z5z y0.Trust a8 a0) fun x2 =>
 capOk (List.length a14 + List.length ([(Member.mk y0.Declared (Trust.mk x2.Threshold x2.Nodes x2.Inner))] : List (Member))) <|
 z1r a0 a4 a6 (addI .i64 a8 1) a10 a12 (a14 ++ ([(Member.mk y0.Declared (Trust.mk x2.Threshold x2.Nodes x2.Inner))] : List (Member)))
 else
 Option.bind (z3z y0.Trust) fun x3 =>
 capOk (List.length a14 + List.length ([(Member.mk y0.Declared (Trust.mk x3.Threshold x3.Nodes x3.Inner))] : List (Member))) <|
 z1r a0 a4 a6 (addI .i64 a8 1) a10 a12 (a14 ++ ([(Member.mk y0.Declared (Trust.mk x3.Threshold x3.Nodes x3.Inner))] : List (Member)))
 else
 some (Config.mk a14)
 ) (z1r a0 a4 a6 a8 a10 a12 a14) :=
 q00 (T := tn) (o := ⟨[.ag .Config],[]⟩) sigOk 100000 (b := q03 Tryz.f47 [1,1,0,1,0,0]) (by kernel_rfl) (by kernel_rfl)
theorem y5l (s_0 node_1 : Int) : Le (
 Option.bind (z1o s_0) fun x0 =>
 bif x0 then
 bif (leB 0 node_1) then
 bif (ltB node_1 10) then
 chk (0 ≤ node_1) <|
 some (neB (andI .i64 s_0 (shlI .i64 1 node_1)) 0)
 else
 some false
 else
 some false
 else
 some false
 ) (z4m s_0 node_1) :=
 q01 (T := tn) (c := q06 Tryz.f75) (o := ⟨[.lf .b],[]⟩) sigOk 100000 (by kernel_rfl) Tryz.func75 (by kernel_rfl) (by kernel_rfl) (by kernel_rfl)
theorem y4v (t_0 : Trust) (node_1 s_2 : Int) : Le (
 Option.bind (z1o s_2) fun x0 =>
 bif (!x0) then
 Option.bind (z3z t_0) fun x1 =>
 some (Trust.mk x1.Threshold x1.Nodes x1.Inner)
 else
 Option.bind (z5f t_0 s_2) fun x2 =>
 bif (eqB x2.Threshold 0) then
 some (Trust.mk 1 ([node_1] : List (Int)) ([] : List (Trust)))
 else
 some (Trust.mk x2.Threshold x2.Nodes x2.Inner)
 ) (z5z t_0 node_1 s_2) :=
 q01 (T := tn) (c := q06 Tryz.f76) (o := ⟨[.ag .Trust],[]⟩) sigOk 100000 (by kernel_rfl) Tryz.func76 (by kernel_rfl) (by kernel_rfl) (by kernel_rfl)
theorem y59 (t_0 : Trust) : Le (
 capOk (List.length ([] : List (Int)) + List.length t_0.Nodes) <|
 z31 t_0.Inner ((List.length t_0.Inner : Nat) : Int) 0 t_0.Threshold t_0.Nodes t_0.Inner 0 ([] : List (Int)) ([] : List (Trust)) t_0.Threshold (([] : List (Int)) ++ t_0.Nodes) ([] : List (Trust))
 ) (z3z t_0) :=
 q01 (T := tn) (c := q06 Tryz.f77) (o := ⟨[.ag .Trust],[]⟩) sigOk 100000 (by kernel_rfl) Tryz.func77 (by kernel_rfl) (by kernel_rfl) (by kernel_rfl)
theorem y5i (t_0 : Trust) (s_1 : Int) : Le (
 z2t s_1 t_0.Nodes ((List.length t_0.Nodes : Nat) : Int) 0 t_0.Threshold t_0.Nodes t_0.Inner 0 ([] : List (Int)) ([] : List (Trust)) (if 0 > t_0.Threshold then 0 else t_0.Threshold) ([] : List (Int)) ([] : List (Trust))
 ) (z5f t_0 s_1) :=
 q01 (T := tn) (c := q06 Tryz.f102) (o := ⟨[.ag .Trust],[]⟩) sigOk 100000 (by kernel_rfl) Tryz.func102 (by kernel_rfl) (by kernel_rfl) (by kernel_rfl)
theorem qz5 (a2 a4 : List Int) (a6 a8 : Int) (a10 : List Member) : Le (
 bif (ltB a8 a6) then
 nth a4 a8 fun y0 =>
 Option.bind (z5n (Config.mk a10) y0) fun x1 =>
 bif x1 then
 capOk (List.length a2 + List.length ([y0] : List (Int))) <|
 z1b (a2 ++ ([y0] : List (Int))) a4 a6 (addI .i64 a8 1) a10
 else
 z1b a2 a4 a6 (addI .i64 a8 1) a10
 else
 Option.bind (z47 a2) fun x2 =>
 some x2
 ) (z1b a2 a4 a6 a8 a10) :=
 q00 (T := tn) (o := ⟨[.lf (.l .i64)],[]⟩) sigOk 100000 (b := q03 Tryz.f36 [1,1,0,1,0,0]) (by kernel_rfl) (by kernel_rfl)
theorem qxm (a0 : Int) (a2 : List Int) (a4 : Int) : Le (
 Option.bind (z1o a0) fun x0 =>
 bif x0 then
 bif (leB a4 a0) then
 bif (eqB (q7i .i64 a4 a0) 0) then
 capOk (List.length a2 + List.length ([a4] : List (Int))) <|
 z2f a0 (a2 ++ ([a4] : List (Int))) (addI .i64 a4 1)
 else
 z2f a0 a2 (addI .i64 a4 1)
 else
 Option.bind (z0e a2) fun x1 =>
 some x1
 else
 Option.bind (z0e a2) fun x2 =>
 some x2
 ) (z2f a0 a2 a4) :=
 q00 (T := tn) (o := ⟨[.lf (.l .i64)],[]⟩) sigOk 100000 (b := q03 Tryz.f66 [1,1,0,1,0,0]) (by kernel_rfl) (by kernel_rfl)
theorem qrs (a1 a3 : Int) (a5 : Bool) (a7 : List Member) : Le (
 bif a5 then
 Option.bind (z60 (Config.mk a7) a3) fun x0 =>
 bif (!x0) then
 Option.bind (z61 a3 a1) fun x1 =>
 z1k a1 x1.1 x1.2 a7
 else
 Option.bind (z2i (Config.mk a7)) fun x2 =>
 Option.bind (z4h (Config.mk a7) (q7i .i64 x2 a3)) fun x3 =>
 bif (neB x3 0) then
 some (a3, x3)
 else
 Option.bind (z61 a3 a1) fun x4 =>
 z1k a1 x4.1 x4.2 a7
 else
 some (0, 0)
 ) (z1k a1 a3 a5 a7) :=
 q00 (T := tn) (o := ⟨[.lf (.i .i64), .lf (.i .i64)],[]⟩) sigOk 100000 (b := q03 Tryz.f74 [1,1,0,1,0,0]) (by kernel_rfl) (by kernel_rfl)
theorem y4h (c_0 : Config) (s_1 : Int) : Le (
 Option.bind (z1o s_1) fun x0 =>
 bif (!x0) then
 some false
 else
 bif (eqB s_1 0) then
 some false
 else
 Option.bind (z62 c_0 s_1) fun x1 =>
 bif (!x1) then
 some false
 else
 Option.bind (z3b c_0 s_1) fun x2 =>
 some (!x2.2)
 ) (z60 c_0 s_1) :=
 q01 (T := tn) (c := q06 Tryz.f100) (o := ⟨[.lf .b],[]⟩) sigOk 100000 (by kernel_rfl) Tryz.func100 (by kernel_rfl) (by kernel_rfl) (by kernel_rfl)
theorem y52 (s_0 n_1 : Int) : Le (
 bif (ltB n_1 0) then
 some (0, false)
 else
 bif (ltB 10 n_1) then
 some (0, false)
 else
 Option.bind (z2n s_0 n_1) fun x0 =>
 bif (!x0) then
 some (0, false)
 else
 Option.bind (z4s s_0) fun x1 =>
 z2x n_1 x1 (addI .i64 s_0 1)
 ) (z61 s_0 n_1) :=
 q01 (T := tn) (c := q06 Tryz.f99) (o := ⟨[.lf (.i .i64), .lf .b],[]⟩) sigOk 100000 (by kernel_rfl) Tryz.func99 (by kernel_rfl) (by kernel_rfl) (by kernel_rfl)
theorem qxt (c_0 : Config) : Le (
 chk (0 ≤ ((List.length c_0.Members : Nat) : Int)) <|
 some (subI .i64 (shlI .i64 1 ((List.length c_0.Members : Nat) : Int)) 1)
 ) (z2i c_0) :=
 q01 (T := tn) (c := q06 Tryz.f101) (o := ⟨[.lf (.i .i64)],[]⟩) sigOk 100000 (by kernel_rfl) Tryz.func101 (by kernel_rfl) (by kernel_rfl) (by kernel_rfl)
theorem y4k (c_0 : Config) (s_1 : Int) : Le (
 Option.bind (z2p c_0) fun x0 =>
 some (eqB (q7i .i64 s_1 x0) 0)
 ) (z62 c_0 s_1) :=
 q01 (T := tn) (c := q06 Tryz.f121) (o := ⟨[.lf .b],[]⟩) sigOk 100000 (by kernel_rfl) Tryz.func121 (by kernel_rfl) (by kernel_rfl) (by kernel_rfl)
theorem qzd (c_0 : Config) (s_1 : Int) : Le (
 Option.bind (z6b s_1) fun x0 =>
 z1n s_1 x0 ((List.length x0 : Nat) : Int) 0 c_0.Members
 ) (z3b c_0 s_1) :=
 q01 (T := tn) (c := q06 Tryz.f120) (o := ⟨[.lf (.i .i64), .lf .b],[]⟩) sigOk 100000 (by kernel_rfl) Tryz.func120 (by kernel_rfl) (by kernel_rfl) (by kernel_rfl)
theorem y2x (s_0 : Int) : Le (
 z32 s_0 ([] : List (Int)) 0
 ) (z6b s_0) :=
 q01 (T := tn) (c := q06 Tryz.f138) (o := ⟨[.lf (.l .i64)],[]⟩) sigOk 100000 (by kernel_rfl) Tryz.func138 (by kernel_rfl) (by kernel_rfl) (by kernel_rfl)
end Go.Proofs.YtfjcndlhpfbcgaaGreat
