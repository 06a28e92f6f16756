/- What the functions come to, printed by a program and checked by the kernel. -/
import Derived.Test.YthbpagedblodfaaGreatP19Df
namespace Go.Proofs.YthbpagedblodfaaGreat
open Go Go.Ab
set_option maxRecDepth 100000
theorem y49 (x_0 : Int) : Le (
 Option.bind (z6n x_0) fun x0 =>
 some x0
 ) (z6p x_0) :=
 cL o1' Tryz.func151
theorem y0e (a_1 b_2 limit_3 : Int) (h0 : List Claim) : Le (
 z00 a_1 b_2 limit_3 true true h0
 ) (z01 a_1 b_2 limit_3 h0) :=
 cL o2' Tryz.func150
theorem y3r (x_0 : Int) : Le (
 bif leB 4294967296 x_0 then
 bif leB 65536 (shrI .u64 x_0 32) then
 bif (leB 256 (shrI .u64 (shrI .u64 x_0 32) 16)) then
 nth ([0, 1, 2, 2, 3, 3, 3, 3, 4, 4, 4, 4, 4, 4, 4, 4, 5, 5, 5, 5, 5, 5, 5, 5, 5, 5, 5, 5, 5, 5, 5, 5, 6, 6, 6, 6, 6, 6, 6, 6, 6, 6, 6, 6, 6, 6, 6, 6, 6, 6, 6, 6, 6, 6, 6, 6, 6, 6, 6, 6, 6, 6, 6, 6, 7, 7, 7, 7, 7, 7, 7, 7, 7, 7, 7, 7, 7, 7, 7, 7, 7, 7, 7, 7, 7, 7, 7, 7, 7, 7, 7, 7, 7, 7, 7, 7, 7, 7, 7, 7, 7, 7, 7, 7, 7, 7, 7, 7, 7, 7, 7, 7, 7, 7, 7, 7, 7, 7, 7, 7, 7, 7, 7, 7, 7, 7, 7, 7, 8, 8, 8, 8, 8, 8, 8, 8, 8, 8, 8, 8, 8, 8, 8, 8, 8, 8, 8, 8, 8, 8, 8, 8, 8, 8, 8, 8, 8, 8, 8, 8, 8, 8, 8, 8, 8, 8, 8, 8, 8, 8, 8, 8, 8, 8, 8, 8, 8, 8, 8, 8, 8, 8, 8, 8, 8, 8, 8, 8, 8, 8, 8, 8, 8, 8, 8, 8, 8, 8, 8, 8, 8, 8, 8, 8, 8, 8, 8, 8, 8, 8, 8, 8, 8, 8, 8, 8, 8, 8, 8, 8, 8, 8, 8, 8, 8, 8, 8, 8, 8, 8, 8, 8, 8, 8, 8, 8, 8, 8, 8, 8, 8, 8, 8, 8, 8, 8, 8, 8, 8, 8, 8, 8, 8, 8, 8, 8] : List UInt8) (IntKind.wrap .u8 (shrI .u64 (shrI .u64 (shrI .u64 x_0 32) 16) 8)) fun y0 =>
 some (addI .i64 56 (IntKind.wrap .i64 ((y0.toNat : Nat) : Int)))
 else
 nth ([0, 1, 2, 2, 3, 3, 3, 3, 4, 4, 4, 4, 4, 4, 4, 4, 5, 5, 5, 5, 5, 5, 5, 5, 5, 5, 5, 5, 5, 5, 5, 5, 6, 6, 6, 6, 6, 6, 6, 6, 6, 6, 6, 6, 6, 6, 6, 6, 6, 6, 6, 6, 6, 6, 6, 6, 6, 6, 6, 6, 6, 6, 6, 6, 7, 7, 7, 7, 7, 7, 7, 7, 7, 7, 7, 7, 7, 7, 7, 7, 7, 7, 7, 7, 7, 7, 7, 7, 7, 7, 7, 7, 7, 7, 7, 7, 7, 7, 7, 7, 7, 7, 7, 7, 7, 7, 7, 7, 7, 7, 7, 7, 7, 7, 7, 7, 7, 7, 7, 7, 7, 7, 7, 7, 7, 7, 7, 7, 8, 8, 8, 8, 8, 8, 8, 8, 8, 8, 8, 8, 8, 8, 8, 8, 8, 8, 8, 8, 8, 8, 8, 8, 8, 8, 8, 8, 8, 8, 8, 8, 8, 8, 8, 8, 8, 8, 8, 8, 8, 8, 8, 8, 8, 8, 8, 8, 8, 8, 8, 8, 8, 8, 8, 8, 8, 8, 8, 8, 8, 8, 8, 8, 8, 8, 8, 8, 8, 8, 8, 8, 8, 8, 8, 8, 8, 8, 8, 8, 8, 8, 8, 8, 8, 8, 8, 8, 8, 8, 8, 8, 8, 8, 8, 8, 8, 8, 8, 8, 8, 8, 8, 8, 8, 8, 8, 8, 8, 8, 8, 8, 8, 8, 8, 8, 8, 8, 8, 8, 8, 8, 8, 8, 8, 8, 8, 8] : List UInt8) (IntKind.wrap .u8 (shrI .u64 (shrI .u64 x_0 32) 16)) fun y1 =>
 some (addI .i64 48 (IntKind.wrap .i64 ((y1.toNat : Nat) : Int)))
 else
 bif leB 256 (shrI .u64 x_0 32) then
 nth ([0, 1, 2, 2, 3, 3, 3, 3, 4, 4, 4, 4, 4, 4, 4, 4, 5, 5, 5, 5, 5, 5, 5, 5, 5, 5, 5, 5, 5, 5, 5, 5, 6, 6, 6, 6, 6, 6, 6, 6, 6, 6, 6, 6, 6, 6, 6, 6, 6, 6, 6, 6, 6, 6, 6, 6, 6, 6, 6, 6, 6, 6, 6, 6, 7, 7, 7, 7, 7, 7, 7, 7, 7, 7, 7, 7, 7, 7, 7, 7, 7, 7, 7, 7, 7, 7, 7, 7, 7, 7, 7, 7, 7, 7, 7, 7, 7, 7, 7, 7, 7, 7, 7, 7, 7, 7, 7, 7, 7, 7, 7, 7, 7, 7, 7, 7, 7, 7, 7, 7, 7, 7, 7, 7, 7, 7, 7, 7, 8, 8, 8, 8, 8, 8, 8, 8, 8, 8, 8, 8, 8, 8, 8, 8, 8, 8, 8, 8, 8, 8, 8, 8, 8, 8, 8, 8, 8, 8, 8, 8, 8, 8, 8, 8, 8, 8, 8, 8, 8, 8, 8, 8, 8, 8, 8, 8, 8, 8, 8, 8, 8, 8, 8, 8, 8, 8, 8, 8, 8, 8, 8, 8, 8, 8, 8, 8, 8, 8, 8, 8, 8, 8, 8, 8, 8, 8, 8, 8, 8, 8, 8, 8, 8, 8, 8, 8, 8, 8, 8, 8, 8, 8, 8, 8, 8, 8, 8, 8, 8, 8, 8, 8, 8, 8, 8, 8, 8, 8, 8, 8, 8, 8, 8, 8, 8, 8, 8, 8, 8, 8, 8, 8, 8, 8, 8, 8] : List UInt8) (IntKind.wrap .u8 (shrI .u64 (shrI .u64 x_0 32) 8)) fun y2 =>
 some (addI .i64 40 (IntKind.wrap .i64 ((y2.toNat : Nat) : Int)))
 else
 nth ([0, 1, 2, 2, 3, 3, 3, 3, 4, 4, 4, 4, 4, 4, 4, 4, 5, 5, 5, 5, 5, 5, 5, 5, 5, 5, 5, 5, 5, 5, 5, 5, 6, 6, 6, 6, 6, 6, 6, 6, 6, 6, 6, 6, 6, 6, 6, 6, 6, 6, 6, 6, 6, 6, 6, 6, 6, 6, 6, 6, 6, 6, 6, 6, 7, 7, 7, 7, 7, 7, 7, 7, 7, 7, 7, 7, 7, 7, 7, 7, 7, 7, 7, 7, 7, 7, 7, 7, 7, 7, 7, 7, 7, 7, 7, 7, 7, 7, 7, 7, 7, 7, 7, 7, 7, 7, 7, 7, 7, 7, 7, 7, 7, 7, 7, 7, 7, 7, 7, 7, 7, 7, 7, 7, 7, 7, 7, 7, 8, 8, 8, 8, 8, 8, 8, 8, 8, 8, 8, 8, 8, 8, 8, 8, 8, 8, 8, 8, 8, 8, 8, 8, 8, 8, 8, 8, 8, 8, 8, 8, 8, 8, 8, 8, 8, 8, 8, 8, 8, 8, 8, 8, 8, 8, 8, 8, 8, 8, 8, 8, 8, 8, 8, 8, 8, 8, 8, 8, 8, 8, 8, 8, 8, 8, 8, 8, 8, 8, 8, 8, 8, 8, 8, 8, 8, 8, 8, 8, 8, 8, 8, 8, 8, 8, 8, 8, 8, 8, 8, 8, 8, 8, 8, 8, 8, 8, 8, 8, 8, 8, 8, 8, 8, 8, 8, 8, 8, 8, 8, 8, 8, 8, 8, 8, 8, 8, 8, 8, 8, 8, 8, 8, 8, 8, 8, 8] : List UInt8) (IntKind.wrap .u8 (shrI .u64 x_0 32)) fun y3 =>
 some (addI .i64 32 (IntKind.wrap .i64 ((y3.toNat : Nat) : Int)))
 else
 bif leB 65536 x_0 then
 bif leB 256 (shrI .u64 x_0 16) then
 nth ([0, 1, 2, 2, 3, 3, 3, 3, 4, 4, 4, 4, 4, 4, 4, 4, 5, 5, 5, 5, 5, 5, 5, 5, 5, 5, 5, 5, 5, 5, 5, 5, 6, 6, 6, 6, 6, 6, 6, 6, 6, 6, 6, 6, 6, 6, 6, 6, 6, 6, 6, 6, 6, 6, 6, 6, 6, 6, 6, 6, 6, 6, 6, 6, 7, 7, 7, 7, 7, 7, 7, 7, 7, 7, 7, 7, 7, 7, 7, 7, 7, 7, 7, 7, 7, 7, 7, 7, 7, 7, 7, 7, 7, 7, 7, 7, 7, 7, 7, 7, 7, 7, 7, 7, 7, 7, 7, 7, 7, 7, 7, 7, 7, 7, 7, 7, 7, 7, 7, 7, 7, 7, 7, 7, 7, 7, 7, 7, 8, 8, 8, 8, 8, 8, 8, 8, 8, 8, 8, 8, 8, 8, 8, 8, 8, 8, 8, 8, 8, 8, 8, 8, 8, 8, 8, 8, 8, 8, 8, 8, 8, 8, 8, 8, 8, 8, 8, 8, 8, 8, 8, 8, 8, 8, 8, 8, 8, 8, 8, 8, 8, 8, 8, 8, 8, 8, 8, 8, 8, 8, 8, 8, 8, 8, 8, 8, 8, 8, 8, 8, 8, 8, 8, 8, 8, 8, 8, 8, 8, 8, 8, 8, 8, 8, 8, 8, 8, 8, 8, 8, 8, 8, 8, 8, 8, 8, 8, 8, 8, 8, 8, 8, 8, 8, 8, 8, 8, 8, 8, 8, 8, 8, 8, 8, 8, 8, 8, 8, 8, 8, 8, 8, 8, 8, 8, 8] : List UInt8) (IntKind.wrap .u8 (shrI .u64 (shrI .u64 x_0 16) 8)) fun y4 =>
 some (addI .i64 24 (IntKind.wrap .i64 ((y4.toNat : Nat) : Int)))
 else
 nth ([0, 1, 2, 2, 3, 3, 3, 3, 4, 4, 4, 4, 4, 4, 4, 4, 5, 5, 5, 5, 5, 5, 5, 5, 5, 5, 5, 5, 5, 5, 5, 5, 6, 6, 6, 6, 6, 6, 6, 6, 6, 6, 6, 6, 6, 6, 6, 6, 6, 6, 6, 6, 6, 6, 6, 6, 6, 6, 6, 6, 6, 6, 6, 6, 7, 7, 7, 7, 7, 7, 7, 7, 7, 7, 7, 7, 7, 7, 7, 7, 7, 7, 7, 7, 7, 7, 7, 7, 7, 7, 7, 7, 7, 7, 7, 7, 7, 7, 7, 7, 7, 7, 7, 7, 7, 7, 7, 7, 7, 7, 7, 7, 7, 7, 7, 7, 7, 7, 7, 7, 7, 7, 7, 7, 7, 7, 7, 7, 8, 8, 8, 8, 8, 8, 8, 8, 8, 8, 8, 8, 8, 8, 8, 8, 8, 8, 8, 8, 8, 8, 8, 8, 8, 8, 8, 8, 8, 8, 8, 8, 8, 8, 8, 8, 8, 8, 8, 8, 8, 8, 8, 8, 8, 8, 8, 8, 8, 8, 8, 8, 8, 8, 8, 8, 8, 8, 8, 8, 8, 8, 8, 8, 8, 8, 8, 8, 8, 8, 8, 8, 8, 8, 8, 8, 8, 8, 8, 8, 8, 8, 8, 8, 8, 8, 8, 8, 8, 8, 8, 8, 8, 8, 8, 8, 8, 8, 8, 8, 8, 8, 8, 8, 8, 8, 8, 8, 8, 8, 8, 8, 8, 8, 8, 8, 8, 8, 8, 8, 8, 8, 8, 8, 8, 8, 8, 8] : List UInt8) (IntKind.wrap .u8 (shrI .u64 x_0 16)) fun y5 =>
 some (addI .i64 16 (IntKind.wrap .i64 ((y5.toNat : Nat) : Int)))
 else
 bif leB 256 x_0 then
 nth ([0, 1, 2, 2, 3, 3, 3, 3, 4, 4, 4, 4, 4, 4, 4, 4, 5, 5, 5, 5, 5, 5, 5, 5, 5, 5, 5, 5, 5, 5, 5, 5, 6, 6, 6, 6, 6, 6, 6, 6, 6, 6, 6, 6, 6, 6, 6, 6, 6, 6, 6, 6, 6, 6, 6, 6, 6, 6, 6, 6, 6, 6, 6, 6, 7, 7, 7, 7, 7, 7, 7, 7, 7, 7, 7, 7, 7, 7, 7, 7, 7, 7, 7, 7, 7, 7, 7, 7, 7, 7, 7, 7, 7, 7, 7, 7, 7, 7, 7, 7, 7, 7, 7, 7, 7, 7, 7, 7, 7, 7, 7, 7, 7, 7, 7, 7, 7, 7, 7, 7, 7, 7, 7, 7, 7, 7, 7, 7, 8, 8, 8, 8, 8, 8, 8, 8, 8, 8, 8, 8, 8, 8, 8, 8, 8, 8, 8, 8, 8, 8, 8, 8, 8, 8, 8, 8, 8, 8, 8, 8, 8, 8, 8, 8, 8, 8, 8, 8, 8, 8, 8, 8, 8, 8, 8, 8, 8, 8, 8, 8, 8, 8, 8, 8, 8, 8, 8, 8, 8, 8, 8, 8, 8, 8, 8, 8, 8, 8, 8, 8, 8, 8, 8, 8, 8, 8, 8, 8, 8, 8, 8, 8, 8, 8, 8, 8, 8, 8, 8, 8, 8, 8, 8, 8, 8, 8, 8, 8, 8, 8, 8, 8, 8, 8, 8, 8, 8, 8, 8, 8, 8, 8, 8, 8, 8, 8, 8, 8, 8, 8, 8, 8, 8, 8, 8, 8] : List UInt8) (IntKind.wrap .u8 (shrI .u64 x_0 8)) fun y6 =>
 some (addI .i64 8 (IntKind.wrap .i64 ((y6.toNat : Nat) : Int)))
 else
 nth ([0, 1, 2, 2, 3, 3, 3, 3, 4, 4, 4, 4, 4, 4, 4, 4, 5, 5, 5, 5, 5, 5, 5, 5, 5, 5, 5, 5, 5, 5, 5, 5, 6, 6, 6, 6, 6, 6, 6, 6, 6, 6, 6, 6, 6, 6, 6, 6, 6, 6, 6, 6, 6, 6, 6, 6, 6, 6, 6, 6, 6, 6, 6, 6, 7, 7, 7, 7, 7, 7, 7, 7, 7, 7, 7, 7, 7, 7, 7, 7, 7, 7, 7, 7, 7, 7, 7, 7, 7, 7, 7, 7, 7, 7, 7, 7, 7, 7, 7, 7, 7, 7, 7, 7, 7, 7, 7, 7, 7, 7, 7, 7, 7, 7, 7, 7, 7, 7, 7, 7, 7, 7, 7, 7, 7, 7, 7, 7, 8, 8, 8, 8, 8, 8, 8, 8, 8, 8, 8, 8, 8, 8, 8, 8, 8, 8, 8, 8, 8, 8, 8, 8, 8, 8, 8, 8, 8, 8, 8, 8, 8, 8, 8, 8, 8, 8, 8, 8, 8, 8, 8, 8, 8, 8, 8, 8, 8, 8, 8, 8, 8, 8, 8, 8, 8, 8, 8, 8, 8, 8, 8, 8, 8, 8, 8, 8, 8, 8, 8, 8, 8, 8, 8, 8, 8, 8, 8, 8, 8, 8, 8, 8, 8, 8, 8, 8, 8, 8, 8, 8, 8, 8, 8, 8, 8, 8, 8, 8, 8, 8, 8, 8, 8, 8, 8, 8, 8, 8, 8, 8, 8, 8, 8, 8, 8, 8, 8, 8, 8, 8, 8, 8, 8, 8, 8, 8] : List UInt8) (IntKind.wrap .u8 x_0) fun y7 =>
 some (addI .i64 0 (IntKind.wrap .i64 ((y7.toNat : Nat) : Int)))
 ) (z6n x_0) :=
 cL o1' Tryz.func165
theorem y4p (v_0 : Voter) : Le (
 bif ltB v_0.Node 0 then
 some false
 else
 bif leB 10 v_0.Node then
 some false
 else
 bif ltB v_0.Seq 1 then
 some false
 else
 bif ltB 1000000 v_0.Seq then
 some false
 else
 Option.bind (z32 v_0.Trust) fun x0 =>
 bif neB x0 0 then
 some false
 else
 Option.bind (z4b v_0.Votes) fun x1 =>
 bif !x1 then
 some false
 else
 Option.bind (z4b v_0.Accepts) fun x2 =>
 bif !x2 then
 some false
 else
 Option.bind (z4b v_0.Confirms) fun x3 =>
 bif !x3 then
 some false
 else
 Option.bind (z26 v_0.Votes) fun x4 =>
 bif !x4 then
 some false
 else
 Option.bind (z26 v_0.Accepts) fun x5 =>
 bif !x5 then
 some false
 else
 z3l v_0.Confirms (v_0.Confirms.length : Int) 0 v_0.Node v_0.Seq v_0.Trust.Threshold v_0.Trust.Nodes v_0.Trust.Inner v_0.Votes v_0.Accepts v_0.Confirms v_0.Heard
 ) (z4z v_0) :=
 cL o0' Tryz.func35
theorem y8i (a_0 b_1 : Message) : Le (
 bif eqB a_0.Node b_1.Node then
 bif eqB a_0.Seq b_1.Seq then
 Option.bind (z3r a_0.Trust b_1.Trust) fun x0 =>
 bif x0 then
 Option.bind (z3b a_0.Votes b_1.Votes) fun x1 =>
 bif x1 then
 Option.bind (z3b a_0.Accepts b_1.Accepts) fun x2 =>
 some x2
 else
 some false
 else
 some false
 else
 some false
 else
 some false
 ) (z6o a_0 b_1) :=
 cL o0' Tryz.func36
theorem y6w (a_0 b_1 : Voter) : Le (
 bif neB a_0.Node b_1.Node then
 some false
 else
 bif neB a_0.Seq b_1.Seq then
 some false
 else
 Option.bind (z3r a_0.Trust b_1.Trust) fun x0 =>
 bif !x0 then
 some false
 else
 Option.bind (z3b a_0.Votes b_1.Votes) fun x1 =>
 bif !x1 then
 some false
 else
 Option.bind (z3b a_0.Accepts b_1.Accepts) fun x2 =>
 bif !x2 then
 some false
 else
 Option.bind (z3b a_0.Confirms b_1.Confirms) fun x3 =>
 bif !x3 then
 some false
 else
 bif (neB (a_0.Heard.length : Int) (b_1.Heard.length : Int)) then
 some false
 else
 z42 (a_0.Heard.length : Int) 0 a_0.Node a_0.Seq a_0.Trust.Threshold a_0.Trust.Nodes a_0.Trust.Inner a_0.Votes a_0.Accepts a_0.Confirms a_0.Heard b_1.Node b_1.Seq b_1.Trust.Threshold b_1.Trust.Nodes b_1.Trust.Inner b_1.Votes b_1.Accepts b_1.Confirms b_1.Heard
 ) (z5h a_0 b_1) :=
 cL o0' Tryz.func28
theorem y0w (h0 : List Int) (h1 : Int) : Le (
 Option.bind (z22 30 h0 h1) fun x0 =>
 bif eqB x0.1 29 then
 Option.bind (z5a ([(-1), 0, 7, 8] : List Int) x0.2.1 x0.2.2) fun x1 =>
 Option.bind (z5a ([(-1), 0, 15, 16] : List Int) x1.2.1 x1.2.2) fun x2 =>
 some ((Claim.mk x1.1 x2.1), x2.2.1, x2.2.2)
 else
 Option.bind (z22 3 x0.2.1 x0.2.2) fun x3 =>
 Option.bind (z22 3 x3.2.1 x3.2.2) fun x4 =>
 some ((Claim.mk x3.1 x4.1), x4.2.1, x4.2.2)
 ) (z6h h0 h1) :=
 cL o30' Tryz.func39
theorem y66 (l_0 : List Claim) : Le (
 z2p l_0 l_0 (l_0.length : Int) 0
 ) (z4b l_0) :=
 cL o0' Tryz.func84
theorem y50 (l_0 : List Claim) : Le (
 z21 l_0 l_0 (l_0.length : Int) 0
 ) (z26 l_0) :=
 cL o0' Tryz.func64
theorem qqf (a_0 b_1 : Trust) : Le (
 bif neB a_0.Threshold b_1.Threshold then
 some false
 else
 Option.bind (z6b a_0.Nodes b_1.Nodes) fun x0 =>
 bif !x0 then
 some false
 else
 bif (neB (a_0.Inner.length : Int) (b_1.Inner.length : Int)) then
 some false
 else
 z3d (a_0.Inner.length : Int) 0 a_0.Threshold a_0.Nodes a_0.Inner b_1.Threshold b_1.Nodes b_1.Inner
 ) (z3r a_0 b_1) :=
 cL o0' Tryz.func76
theorem y8j (a_0 b_1 : List Claim) : Le (
 bif (neB (a_0.length : Int) (b_1.length : Int)) then
 some false
 else
 z4p a_0 b_1 (a_0.length : Int) 0
 ) (z3b a_0 b_1) :=
 cL o0' Tryz.func15
theorem qzf (a_0 b_1 : List Int) : Le (
 bif (neB (a_0.length : Int) (b_1.length : Int)) then
 some false
 else
 z43 a_0 b_1 (a_0.length : Int) 0
 ) (z6b a_0 b_1) :=
 cL o0' Tryz.func115
theorem y1z (a2 : Int) (a4 : List Int) (a6 a8 a10 a12 : Int) (a14 : List Int) (a16 : List Trust) (a18 a20 a22 : List Claim) (a24 : List Message) : Le (
 bif ltB a2 5 then
 Option.bind (z69 4 a4 a6) fun x0 =>
 Option.bind (z4y (Voter.mk a8 a10 (Trust.mk a12 a14 a16) a18 a20 a22 a24) (Message.mk x0.1.Node (addI .i64 x0.1.Seq (mulI .i64 100 a2)) (Trust.mk x0.1.Trust.Threshold x0.1.Trust.Nodes x0.1.Trust.Inner) x0.1.Votes x0.1.Accepts)) fun x1 =>
 bif neB x1.2 0 then
 z1x (addI .i64 a2 1) x0.2.1 x0.2.2 a8 a10 a12 a14 a16 a18 a20 a22 a24
 else
 Option.bind (z3b a20 x1.1.Accepts) fun x2 =>
 bif (!((eqB x1.1.Seq a10) == x2)) then
 some false
 else
 bif ltB (addI .i64 a10 1) x1.1.Seq then
 some false
 else
 Option.bind (z3b a18 x1.1.Votes) fun x3 =>
 bif !x3 then
 some false
 else
 z1x (addI .i64 a2 1) x0.2.1 x0.2.2 x1.1.Node x1.1.Seq x1.1.Trust.Threshold x1.1.Trust.Nodes x1.1.Trust.Inner x1.1.Votes x1.1.Accepts x1.1.Confirms x1.1.Heard
 else
 Option.bind (z55 (Voter.mk a8 a10 (Trust.mk a12 a14 a16) a18 a20 a22 a24) (Trust.mk a12 a14 a16)) fun x4 =>
 bif neB x4.2 0 then
 some false
 else
 Option.bind (z5h x4.1 (Voter.mk a8 a10 (Trust.mk a12 a14 a16) a18 a20 a22 a24)) fun x5 =>
 bif !x5 then
 some false
 else
 z1n a18 (a18.length : Int) 0 a4 a6 a8 a10 a12 a14 a16 a18 a20 a22 a24 x4.1.Node x4.1.Seq x4.1.Trust.Threshold x4.1.Trust.Nodes x4.1.Trust.Inner x4.1.Votes x4.1.Accepts x4.1.Confirms x4.1.Heard
 ) (z1x a2 a4 a6 a8 a10 a12 a14 a16 a18 a20 a22 a24) :=
 gL o0' (q08 Tryz.f6 [1,1,1,1,0,1,0,0])
theorem y4c (v_0 : Voter) (t_1 : Trust) : Le (
 Option.bind (z2w v_0) fun x0 =>
 bif !x0 then
 some ((Voter.mk 0 0 (Trust.mk 0 ([] : List Int) ([] : List Trust)) ([] : List Claim) ([] : List Claim) ([] : List Claim) ([] : List Message)), 1)
 else
 Option.bind (z2t t_1) fun x1 =>
 bif neB x1 0 then
 some ((Voter.mk 0 0 (Trust.mk 0 ([] : List Int) ([] : List Trust)) ([] : List Claim) ([] : List Claim) ([] : List Claim) ([] : List Message)), x1)
 else
 Option.bind (z3i v_0.Trust t_1) fun x2 =>
 bif x2 then
 Option.bind (z2n v_0) fun x3 =>
 some ((Voter.mk x3.Node x3.Seq (Trust.mk x3.Trust.Threshold x3.Trust.Nodes x3.Trust.Inner) x3.Votes x3.Accepts x3.Confirms x3.Heard), 0)
 else
 Option.bind (z33 v_0 (Voter.mk v_0.Node v_0.Seq (Trust.mk t_1.Threshold t_1.Nodes t_1.Inner) v_0.Votes v_0.Accepts v_0.Confirms v_0.Heard)) fun x4 =>
 some ((Voter.mk x4.Node x4.Seq (Trust.mk x4.Trust.Threshold x4.Trust.Nodes x4.Trust.Inner) x4.Votes x4.Accepts x4.Confirms x4.Heard), 0)
 ) (z55 v_0 t_1) :=
 cL o10' Tryz.func27
theorem y0m (a2 : List Claim) (a4 a6 : Int) (a8 : List Int) (a10 a12 a14 a16 : Int) (a18 : List Int) (a20 : List Trust) (a22 a24 a26 : List Claim) (a28 : List Message) (a30 a32 a34 : Int) (a36 : List Int) (a38 : List Trust) (a40 a42 a44 : List Claim) (a46 : List Message) : Le (
 bif ltB a6 a4 then
 nth a2 a6 fun y0 =>
 Option.bind (z6r (Voter.mk a30 a32 (Trust.mk a34 a36 a38) a40 a42 a44 a46) y0) fun x1 =>
 bif x1 then
 some false
 else
 z27 a2 a4 (addI .i64 a6 1) a8 a10 a12 a14 a16 a18 a20 a22 a24 a26 a28 a30 a32 a34 a36 a38 a40 a42 a44 a46
 else
 capOk (List.length ([] : List Message) + List.length a46) <|
 Option.bind (z6k (Voter.mk a30 a32 (Trust.mk a34 a36 a38) a40 a42 a44 a46)) fun x2 =>
 capOk (List.length (([] : List Message) ++ a46) + List.length ([(Message.mk x2.Node x2.Seq (Trust.mk x2.Trust.Threshold x2.Trust.Nodes x2.Trust.Inner) x2.Votes x2.Accepts)] : List Message)) <|
 z1s ((([] : List Message) ++ a46) ++ ([(Message.mk x2.Node x2.Seq (Trust.mk x2.Trust.Threshold x2.Trust.Nodes x2.Trust.Inner) x2.Votes x2.Accepts)] : List Message)) a42 (a42.length : Int) 0 a8 a10 a12 a14 a16 a18 a20 a22 a24 a26 a28 a30 a32 a34 a36 a38 a40 a42 a44 a46
 ) (z27 a2 a4 a6 a8 a10 a12 a14 a16 a18 a20 a22 a24 a26 a28 a30 a32 a34 a36 a38 a40 a42 a44 a46) :=
 gL o0' (q08 Tryz.f5 [1,1,1,1,1,0,1,0,0])
theorem y8f (v_0 : Voter) (x_1 : Claim) : Le (
 Option.bind (z4i v_0.Accepts x_1) fun x0 =>
 bif x0 then
 some false
 else
 z4j v_0.Accepts (v_0.Accepts.length : Int) 0 v_0.Node v_0.Seq v_0.Trust.Threshold v_0.Trust.Nodes v_0.Trust.Inner v_0.Votes v_0.Accepts v_0.Confirms v_0.Heard x_1.Topic x_1.Value
 ) (z6r v_0 x_1) :=
 cL o0' Tryz.func20
theorem y3z (l_0 : List Claim) (x_1 : Claim) : Le (
 z5d l_0 (l_0.length : Int) 0 x_1.Topic x_1.Value
 ) (z4i l_0 x_1) :=
 cL o0' Tryz.func25
theorem y4z (x_0 : Claim) : Le (
 bif leB 0 x_0.Topic then
 bif ltB x_0.Topic 8 then
 bif leB 0 x_0.Value then
 some (leB x_0.Value 15)
 else
 some false
 else
 some false
 else
 some false
 ) (z6e x_0) :=
 cL o0' Tryz.func90
theorem y6y (a_0 b_1 : List Claim) : Le (
 capOk (List.length ([] : List Claim) + List.length a_0) <|
 capOk (List.length (([] : List Claim) ++ a_0) + List.length b_1) <|
 Option.bind (z4f ((([] : List Claim) ++ a_0) ++ b_1)) fun x0 =>
 some x0
 ) (z4c a_0 b_1) :=
 cL o3' Tryz.func66
theorem y3n (m_0 : Message) : Le (
 bif leB 0 m_0.Node then
 bif ltB m_0.Node 10 then
 bif leB 1 m_0.Seq then
 Option.bind (z32 m_0.Trust) fun x0 =>
 bif eqB x0 0 then
 Option.bind (z4b m_0.Votes) fun x1 =>
 bif x1 then
 Option.bind (z4b m_0.Accepts) fun x2 =>
 some x2
 else
 some false
 else
 some false
 else
 some false
 else
 some false
 else
 some false
 ) (z50 m_0) :=
 cL o0' Tryz.func72
theorem qgp (a1 a3 a7 : Int) (a9 : List Int) (a11 a13 a15 a17 : Int) (a19 : List Int) (a21 : List Trust) (a23 a25 a27 : List Claim) (a29 : List Message) (a31 a33 a35 : Int) (a37 : List Int) (a39 : List Trust) (a41 a43 a45 : List Claim) (a47 : List Message) : Le (
 bif leB a7 a3 then
 Option.bind (z22 5 a9 a11) fun x0 =>
 bif eqB x0.1 0 then
 Option.bind (z6h x0.2.1 x0.2.2) fun x1 =>
 Option.bind (z4x (Voter.mk a31 a33 (Trust.mk a35 a37 a39) a41 a43 a45 a47) x1.1) fun x2 =>
 bif neB x2.2 0 then
 z1e a1 a3 (addI .i64 a7 1) x1.2.1 x1.2.2 a13 a15 a17 a19 a21 a23 a25 a27 a29 a31 a33 a35 a37 a39 a41 a43 a45 a47
 else
 Option.bind (z4z x2.1) fun x3 =>
 bif !x3 then
 some ((Voter.mk x2.1.Node x2.1.Seq (Trust.mk x2.1.Trust.Threshold x2.1.Trust.Nodes x2.1.Trust.Inner) x2.1.Votes x2.1.Accepts x2.1.Confirms x2.1.Heard), false, x1.2.1, x1.2.2)
 else
 Option.bind (z2w x2.1) fun x4 =>
 bif !x4 then
 some ((Voter.mk x2.1.Node x2.1.Seq (Trust.mk x2.1.Trust.Threshold x2.1.Trust.Nodes x2.1.Trust.Inner) x2.1.Votes x2.1.Accepts x2.1.Confirms x2.1.Heard), false, x1.2.1, x1.2.2)
 else
 bif ltB x2.1.Seq a33 then
 some ((Voter.mk x2.1.Node x2.1.Seq (Trust.mk x2.1.Trust.Threshold x2.1.Trust.Nodes x2.1.Trust.Inner) x2.1.Votes x2.1.Accepts x2.1.Confirms x2.1.Heard), false, x1.2.1, x1.2.2)
 else
 Option.bind (law19_kept a41 x2.1.Votes) fun x5 =>
 bif !x5 then
 some ((Voter.mk x2.1.Node x2.1.Seq (Trust.mk x2.1.Trust.Threshold x2.1.Trust.Nodes x2.1.Trust.Inner) x2.1.Votes x2.1.Accepts x2.1.Confirms x2.1.Heard), false, x1.2.1, x1.2.2)
 else
 Option.bind (law19_kept a43 x2.1.Accepts) fun x6 =>
 bif !x6 then
 some ((Voter.mk x2.1.Node x2.1.Seq (Trust.mk x2.1.Trust.Threshold x2.1.Trust.Nodes x2.1.Trust.Inner) x2.1.Votes x2.1.Accepts x2.1.Confirms x2.1.Heard), false, x1.2.1, x1.2.2)
 else
 Option.bind (law19_kept a45 x2.1.Confirms) fun x7 =>
 bif !x7 then
 some ((Voter.mk x2.1.Node x2.1.Seq (Trust.mk x2.1.Trust.Threshold x2.1.Trust.Nodes x2.1.Trust.Inner) x2.1.Votes x2.1.Accepts x2.1.Confirms x2.1.Heard), false, x1.2.1, x1.2.2)
 else
 Option.bind (z26 x2.1.Accepts) fun x8 =>
 bif !x8 then
 some ((Voter.mk x2.1.Node x2.1.Seq (Trust.mk x2.1.Trust.Threshold x2.1.Trust.Nodes x2.1.Trust.Inner) x2.1.Votes x2.1.Accepts x2.1.Confirms x2.1.Heard), false, x1.2.1, x1.2.2)
 else
 z1e a1 a3 (addI .i64 a7 1) x1.2.1 x1.2.2 a13 a15 a17 a19 a21 a23 a25 a27 a29 x2.1.Node x2.1.Seq x2.1.Trust.Threshold x2.1.Trust.Nodes x2.1.Trust.Inner x2.1.Votes x2.1.Accepts x2.1.Confirms x2.1.Heard
 else
 bif eqB x0.1 1 then
 Option.bind (z5n a1 2 x0.2.1 x0.2.2) fun x9 =>
 Option.bind (z55 (Voter.mk a31 a33 (Trust.mk a35 a37 a39) a41 a43 a45 a47) x9.1) fun x10 =>
 bif neB x10.2 0 then
 z1e a1 a3 (addI .i64 a7 1) x9.2.1 x9.2.2 a13 a15 a17 a19 a21 a23 a25 a27 a29 a31 a33 a35 a37 a39 a41 a43 a45 a47
 else
 Option.bind (z4z x10.1) fun x11 =>
 bif !x11 then
 some ((Voter.mk x10.1.Node x10.1.Seq (Trust.mk x10.1.Trust.Threshold x10.1.Trust.Nodes x10.1.Trust.Inner) x10.1.Votes x10.1.Accepts x10.1.Confirms x10.1.Heard), false, x9.2.1, x9.2.2)
 else
 Option.bind (z2w x10.1) fun x12 =>
 bif !x12 then
 some ((Voter.mk x10.1.Node x10.1.Seq (Trust.mk x10.1.Trust.Threshold x10.1.Trust.Nodes x10.1.Trust.Inner) x10.1.Votes x10.1.Accepts x10.1.Confirms x10.1.Heard), false, x9.2.1, x9.2.2)
 else
 bif ltB x10.1.Seq a33 then
 some ((Voter.mk x10.1.Node x10.1.Seq (Trust.mk x10.1.Trust.Threshold x10.1.Trust.Nodes x10.1.Trust.Inner) x10.1.Votes x10.1.Accepts x10.1.Confirms x10.1.Heard), false, x9.2.1, x9.2.2)
 else
 Option.bind (law19_kept a41 x10.1.Votes) fun x13 =>
 bif !x13 then
 some ((Voter.mk x10.1.Node x10.1.Seq (Trust.mk x10.1.Trust.Threshold x10.1.Trust.Nodes x10.1.Trust.Inner) x10.1.Votes x10.1.Accepts x10.1.Confirms x10.1.Heard), false, x9.2.1, x9.2.2)
 else
 Option.bind (law19_kept a43 x10.1.Accepts) fun x14 =>
 bif !x14 then
 some ((Voter.mk x10.1.Node x10.1.Seq (Trust.mk x10.1.Trust.Threshold x10.1.Trust.Nodes x10.1.Trust.Inner) x10.1.Votes x10.1.Accepts x10.1.Confirms x10.1.Heard), false, x9.2.1, x9.2.2)
 else
 Option.bind (law19_kept a45 x10.1.Confirms) fun x15 =>
 bif !x15 then
 some ((Voter.mk x10.1.Node x10.1.Seq (Trust.mk x10.1.Trust.Threshold x10.1.Trust.Nodes x10.1.Trust.Inner) x10.1.Votes x10.1.Accepts x10.1.Confirms x10.1.Heard), false, x9.2.1, x9.2.2)
 else
 Option.bind (z26 x10.1.Accepts) fun x16 =>
 bif !x16 then
 some ((Voter.mk x10.1.Node x10.1.Seq (Trust.mk x10.1.Trust.Threshold x10.1.Trust.Nodes x10.1.Trust.Inner) x10.1.Votes x10.1.Accepts x10.1.Confirms x10.1.Heard), false, x9.2.1, x9.2.2)
 else
 z1e a1 a3 (addI .i64 a7 1) x9.2.1 x9.2.2 a13 a15 a17 a19 a21 a23 a25 a27 a29 x10.1.Node x10.1.Seq x10.1.Trust.Threshold x10.1.Trust.Nodes x10.1.Trust.Inner x10.1.Votes x10.1.Accepts x10.1.Confirms x10.1.Heard
 else
 Option.bind (z69 a1 x0.2.1 x0.2.2) fun x17 =>
 Option.bind (z4y (Voter.mk a31 a33 (Trust.mk a35 a37 a39) a41 a43 a45 a47) (Message.mk x17.1.Node (addI .i64 x17.1.Seq (mulI .i64 5 a7)) (Trust.mk x17.1.Trust.Threshold x17.1.Trust.Nodes x17.1.Trust.Inner) x17.1.Votes x17.1.Accepts)) fun x18 =>
 bif neB x18.2 0 then
 z1e a1 a3 (addI .i64 a7 1) x17.2.1 x17.2.2 a13 a15 a17 a19 a21 a23 a25 a27 a29 a31 a33 a35 a37 a39 a41 a43 a45 a47
 else
 Option.bind (z4z x18.1) fun x19 =>
 bif !x19 then
 some ((Voter.mk x18.1.Node x18.1.Seq (Trust.mk x18.1.Trust.Threshold x18.1.Trust.Nodes x18.1.Trust.Inner) x18.1.Votes x18.1.Accepts x18.1.Confirms x18.1.Heard), false, x17.2.1, x17.2.2)
 else
 Option.bind (z2w x18.1) fun x20 =>
 bif !x20 then
 some ((Voter.mk x18.1.Node x18.1.Seq (Trust.mk x18.1.Trust.Threshold x18.1.Trust.Nodes x18.1.Trust.Inner) x18.1.Votes x18.1.Accepts x18.1.Confirms x18.1.Heard), false, x17.2.1, x17.2.2)
 else
 bif ltB x18.1.Seq a33 then
 some ((Voter.mk x18.1.Node x18.1.Seq (Trust.mk x18.1.Trust.Threshold x18.1.Trust.Nodes x18.1.Trust.Inner) x18.1.Votes x18.1.Accepts x18.1.Confirms x18.1.Heard), false, x17.2.1, x17.2.2)
 else
 Option.bind (law19_kept a41 x18.1.Votes) fun x21 =>
 bif !x21 then
 some ((Voter.mk x18.1.Node x18.1.Seq (Trust.mk x18.1.Trust.Threshold x18.1.Trust.Nodes x18.1.Trust.Inner) x18.1.Votes x18.1.Accepts x18.1.Confirms x18.1.Heard), false, x17.2.1, x17.2.2)
 else
 Option.bind (law19_kept a43 x18.1.Accepts) fun x22 =>
 bif !x22 then
 some ((Voter.mk x18.1.Node x18.1.Seq (Trust.mk x18.1.Trust.Threshold x18.1.Trust.Nodes x18.1.Trust.Inner) x18.1.Votes x18.1.Accepts x18.1.Confirms x18.1.Heard), false, x17.2.1, x17.2.2)
 else
 Option.bind (law19_kept a45 x18.1.Confirms) fun x23 =>
 bif !x23 then
 some ((Voter.mk x18.1.Node x18.1.Seq (Trust.mk x18.1.Trust.Threshold x18.1.Trust.Nodes x18.1.Trust.Inner) x18.1.Votes x18.1.Accepts x18.1.Confirms x18.1.Heard), false, x17.2.1, x17.2.2)
 else
 Option.bind (z26 x18.1.Accepts) fun x24 =>
 bif !x24 then
 some ((Voter.mk x18.1.Node x18.1.Seq (Trust.mk x18.1.Trust.Threshold x18.1.Trust.Nodes x18.1.Trust.Inner) x18.1.Votes x18.1.Accepts x18.1.Confirms x18.1.Heard), false, x17.2.1, x17.2.2)
 else
 z1e a1 a3 (addI .i64 a7 1) x17.2.1 x17.2.2 a13 a15 a17 a19 a21 a23 a25 a27 a29 x18.1.Node x18.1.Seq x18.1.Trust.Threshold x18.1.Trust.Nodes x18.1.Trust.Inner x18.1.Votes x18.1.Accepts x18.1.Confirms x18.1.Heard
 else
 some ((Voter.mk a31 a33 (Trust.mk a35 a37 a39) a41 a43 a45 a47), true, a9, a11)
 ) (z1e a1 a3 a7 a9 a11 a13 a15 a17 a19 a21 a23 a25 a27 a29 a31 a33 a35 a37 a39 a41 a43 a45 a47) :=
 gL o19' (q08 Tryz.f17 [1,1,1,0,1,0,0])
theorem law19_kept_le (a_0 b_1 : List Claim) : Le (
 Option.bind (z4c a_0 b_1) fun x0 =>
 Option.bind (z3b x0 b_1) fun x1 =>
 some x1
 ) (law19_kept a_0 b_1) :=
 cL o0' Tryz.func63
theorem y1s (a0 a2 : List Claim) (a4 : Int) : Le (
 bif ltB a4 8 then
 z2g a0 a2 a4 0
 else
 some a2
 ) (z2v a0 a2 a4) :=
 gL o3' (q08 Tryz.f18 [1,1,0,1,0,0])
theorem y7o (a0 : List Claim) (a2 : List Message) (a4 a6 a8 a10 a12 : Int) (a14 : List Int) (a16 : List Trust) (a18 a20 a22 : List Claim) (a24 : List Message) : Le (
 bif ltB a6 a4 then
 nth a2 a6 fun y0 =>
 Option.bind (z4c y0.Votes y0.Accepts) fun x1 =>
 Option.bind (z4c a0 x1) fun x2 =>
 z49 x2 a2 a4 (addI .i64 a6 1) a8 a10 a12 a14 a16 a18 a20 a22 a24
 else
 some a0
 ) (z6c a0 a2 a4 a6 a8 a10 a12 a14 a16 a18 a20 a22 a24) :=
 gL o3' (q08 Tryz.f19 [1,1,0,1,0,0])
theorem y0x (a1 : List Claim) (a3 : Int) (a5 : List Int) (a7 : Int) : Le (
 bif ltB 0 a3 then
 Option.bind (z6h a5 a7) fun x0 =>
 capOk (List.length a1 + List.length ([x0.1] : List Claim)) <|
 z5c (a1 ++ ([x0.1] : List Claim)) (subI .i64 a3 1) x0.2.1 x0.2.2
 else
 some (a1, a5, a7)
 ) (z5c a1 a3 a5 a7) :=
 gL o20' (q08 Tryz.f74 [1,1,0,1,0,0])
theorem qwx (a1 a3 : Int) (a7 : List Int) (a9 a11 : Int) (a13 : List Int) (a15 a17 : Int) (a19 : List Int) (a21 : List Trust) (a23 : Int) (a25 : List Int) (a27 : List Trust) : Le (
 bif ltB a11 a9 then
 nth a7 a11 fun y0 =>
 capOk (List.length a25 + List.length ([y0] : List Int)) <|
 z4d a1 a3 a7 a9 (addI .i64 a11 1) a13 a15 a17 a19 a21 a23 (a25 ++ ([y0] : List Int)) a27
 else
 bif ltB 1 a3 then
 Option.bind (z5a ([0, 0, 1, 1, 2, 3] : List Int) a13 a15) fun x1 =>
 z4e a1 a3 x1.1 x1.2.1 x1.2.2 a17 a19 a21 a23 a25 a27
 else
 Option.bind (z2m 1 (addI .i64 (a25.length : Int) (a27.length : Int)) a13 a15) fun x2 =>
 some ((Trust.mk x2.1 a25 a27), x2.2.1, x2.2.2)
 ) (z4d a1 a3 a7 a9 a11 a13 a15 a17 a19 a21 a23 a25 a27) :=
 gL o9' (q08 Tryz.f47 [1,1,1,0,1,0,0])
end Go.Proofs.YthbpagedblodfaaGreat
