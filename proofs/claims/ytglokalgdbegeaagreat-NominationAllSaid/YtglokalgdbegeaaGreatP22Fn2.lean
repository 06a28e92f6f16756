/- What the functions come to, printed by a program and checked by the kernel. -/
import Derived.Test.YtglokalgdbegeaaGreatP22Df
namespace Go.Proofs.YtglokalgdbegeaaGreat
open Go Go.Ab
set_option maxRecDepth 100000
theorem y9i a b : eL (z5e a b) (
 bif neB a.Node b.Node then
 some false
 else
 bif neB a.Slot b.Slot then
 some false
 else
 bif neB a.Round b.Round then
 some false
 else
 bif neB a.Seq b.Seq then
 some false
 else
 bif !eqS a.Own b.Own then
 some false
 else
 Option.bind (z3i a.Trust b.Trust) fun x0 =>
 bif !x0 then
 some false
 else
 Option.bind (z4h a.Votes b.Votes) fun x1 =>
 bif !x1 then
 some false
 else
 Option.bind (z4h a.Accepts b.Accepts) fun x2 =>
 bif !x2 then
 some false
 else
 Option.bind (z4h a.Candidates b.Candidates) fun x3 =>
 bif !x3 then
 some false
 else
 bif (neB (a.Heard.length : Int) (b.Heard.length : Int)) then
 some false
 else
 z3s (a.Heard.length : Int) 0 a.Node a.Slot a.Round a.Seq a.Trust.Threshold a.Trust.Nodes a.Trust.Inner a.Own a.Votes a.Accepts a.Candidates a.Heard b.Node b.Slot b.Round b.Seq b.Trust.Threshold b.Trust.Nodes b.Trust.Inner b.Own b.Votes b.Accepts b.Candidates b.Heard
 ) :=
 cL o0' Tryz.func31
theorem y85 a : eL (z4j a) (
 Option.bind (z3v a) fun x0 =>
 Option.bind (z23 x0) fun x1 =>
 some (Nomination.mk x1.Node x1.Seq (Trust.mk x1.Trust.Threshold x1.Trust.Nodes x1.Trust.Inner) x1.Votes x1.Accepts)
 ) :=
 cL o15' Tryz.func20
theorem y8a a b : eL (z3h a b) (
 bif eqB a.Node b.Node then
 bif eqB a.Seq b.Seq then
 Option.bind (z3i a.Trust b.Trust) fun x0 =>
 bif x0 then
 Option.bind (z4h a.Votes b.Votes) fun x1 =>
 bif x1 then
 Option.bind (z4h a.Accepts b.Accepts) fun x2 =>
 some x2
 else
 some false
 else
 some false
 else
 some false
 else
 some false
 ) :=
 cL o0' Tryz.func39
theorem y9d a : eL (z45 a) (
 Option.bind (z3g a.Node) fun x0 =>
 bif x0 then
 bif leB 0 a.Slot then
 bif leB a.Slot 1000000 then
 bif leB 1 a.Round then
 bif leB a.Round 1000 then
 bif leB 1 a.Seq then
 some (leB a.Seq 1000000)
 else
 some false
 else
 some false
 else
 some false
 else
 some false
 else
 some false
 else
 some false
 ) :=
 cL o0' Tryz.func78
theorem y9u a : eL (z2m a) (
 z1y a a (a.length : Int) 0
 ) :=
 cL o0' Tryz.func79
theorem y75 a b c d e f g h i j k l m : eL (z18 a b c d e f g h i j k l m) (
 Option.bind (z1c a b c d e f g h i j k l m) fun x0 =>
 some ((leB 0 x0.1), x0.2.1, x0.2.2.1, x0.2.2.2.1, x0.2.2.2.2.1, x0.2.2.2.2.2.1, x0.2.2.2.2.2.2.1, x0.2.2.2.2.2.2.2.1, x0.2.2.2.2.2.2.2.2.1, x0.2.2.2.2.2.2.2.2.2.1, x0.2.2.2.2.2.2.2.2.2.2.1, x0.2.2.2.2.2.2.2.2.2.2.2.1, x0.2.2.2.2.2.2.2.2.2.2.2.2)
 ) :=
 cL o19' Tryz.func80
theorem y9s a b : eL (z1w a b) (
 bif (neB (a.length : Int) (b.length : Int)) then
 some false
 else
 z1i a b (a.length : Int) 0
 ) :=
 cL o0' Tryz.func89
theorem qt9 a b : eL (z3i a b) (
 bif neB a.Threshold b.Threshold then
 some false
 else
 Option.bind (z5f a.Nodes b.Nodes) fun x0 =>
 bif !x0 then
 some false
 else
 bif (neB (a.Inner.length : Int) (b.Inner.length : Int)) then
 some false
 else
 z35 (a.Inner.length : Int) 0 a.Threshold a.Nodes a.Inner b.Threshold b.Nodes b.Inner
 ) :=
 cL o0' Tryz.func83
theorem y9f a b : eL (z4h a b) (
 bif (neB (a.length : Int) (b.length : Int)) then
 some false
 else
 z4d a b (a.length : Int) 0
 ) :=
 cL o0' Tryz.func84
theorem y8n a : eL (z23 a) (
 Option.bind (z38 a.Trust) fun x0 =>
 Option.bind (z1b a.Votes) fun x1 =>
 Option.bind (z1b a.Accepts) fun x2 =>
 some (Nomination.mk a.Node a.Seq (Trust.mk x0.Threshold x0.Nodes x0.Inner) x1.2 x2.2)
 ) :=
 cL o15' Tryz.func64
theorem y9v a b c d e f g h i j k l m : eL (z1c a b c d e f g h i j k l m) (
 z0g a (a.length : Int) 0 b c d e f g h i j k l m
 ) :=
 cL o20' Tryz.func121
theorem y7a a b : eL (z3x a b) (
 bif eqB a.Threshold b.Threshold then
 Option.bind (z2y a.Nodes b.Nodes) fun x0 =>
 bif x0 then
 Option.bind (z19 a.Inner b.Inner) fun x1 =>
 some x1
 else
 some false
 else
 some false
 ) :=
 cL o0' Tryz.func92
theorem y2u a b : eL (z5f a b) (
 bif (neB (a.length : Int) (b.length : Int)) then
 some false
 else
 z3t a b (a.length : Int) 0
 ) :=
 cL o0' Tryz.func123
theorem y7n a b : eL (z2y a b) (
 bif (neB (a.length : Int) (b.length : Int)) then
 some false
 else
 z1v a b (a.length : Int) 0
 ) :=
 cL o0' Tryz.func131
theorem y8k a b : eL (z19 a b) (
 bif (neB (a.length : Int) (b.length : Int)) then
 some false
 else
 z0k b a (a.length : Int) 0
 ) :=
 cL o0' Tryz.func132
theorem y9b a b : eL (z5i a b) (
 Option.bind (z5h a) fun x0 =>
 bif x0 then
 bif leB 0 b then
 bif ltB b 10 then
 chk (0 <= b) <|
 some (eqB (andI .i64 (shrI .i64 a b) 1) 1)
 else
 some false
 else
 some false
 else
 some false
 ) :=
 cL o0' Tryz.func21
theorem yai a b : eL (z4s a b) (
 Option.bind (z4o a) fun x0 =>
 bif !x0 then
 some ((Nominator.mk 0 0 0 0 (Trust.mk 0 [] []) [] ([] : List (List UInt8)) ([] : List (List UInt8)) ([] : List (List UInt8)) []), 1)
 else
 Option.bind (z3y b) fun x1 =>
 bif !x1 then
 some ((Nominator.mk 0 0 0 0 (Trust.mk 0 [] []) [] ([] : List (List UInt8)) ([] : List (List UInt8)) ([] : List (List UInt8)) []), 1)
 else
 bif eqB b.Node a.Node then
 some ((Nominator.mk 0 0 0 0 (Trust.mk 0 [] []) [] ([] : List (List UInt8)) ([] : List (List UInt8)) ([] : List (List UInt8)) []), 1)
 else
 Option.bind (z14 a.Heard b.Node) fun x2 =>
 bif x2.2 then
 nth a.Heard x2.1 fun y3 =>
 bif leB b.Seq y3.Seq then
 some ((Nominator.mk 0 0 0 0 (Trust.mk 0 [] []) [] ([] : List (List UInt8)) ([] : List (List UInt8)) ([] : List (List UInt8)) []), 9)
 else
 Option.bind (z1h a.Heard) fun x4 =>
 bif x2.2 then
 nth x4.2 x2.1 fun _ =>
 nthN x4.2 (Int.toNat x2.1) fun _y5 =>
 Option.bind (z2g a (Nominator.mk a.Node a.Slot a.Round a.Seq (Trust.mk a.Trust.Threshold a.Trust.Nodes a.Trust.Inner) a.Own a.Votes a.Accepts a.Candidates (List.set x4.2 (Int.toNat x2.1) (Nomination.mk b.Node b.Seq (Trust.mk b.Trust.Threshold b.Trust.Nodes b.Trust.Inner) b.Votes b.Accepts)))) fun x6 =>
 some ((Nominator.mk x6.Node x6.Slot x6.Round x6.Seq (Trust.mk x6.Trust.Threshold x6.Trust.Nodes x6.Trust.Inner) x6.Own x6.Votes x6.Accepts x6.Candidates x6.Heard), 0)
 else
 Option.bind (z3j x2.1 ([(Nomination.mk b.Node b.Seq (Trust.mk b.Trust.Threshold b.Trust.Nodes b.Trust.Inner) b.Votes b.Accepts)] : List Nomination) x4.2) fun x7 =>
 Option.bind (z2g a (Nominator.mk a.Node a.Slot a.Round a.Seq (Trust.mk a.Trust.Threshold a.Trust.Nodes a.Trust.Inner) a.Own a.Votes a.Accepts a.Candidates x7.1)) fun x8 =>
 some ((Nominator.mk x8.Node x8.Slot x8.Round x8.Seq (Trust.mk x8.Trust.Threshold x8.Trust.Nodes x8.Trust.Inner) x8.Own x8.Votes x8.Accepts x8.Candidates x8.Heard), 0)
 else
 Option.bind (z1h a.Heard) fun x9 =>
 bif x2.2 then
 nth x9.2 x2.1 fun _ =>
 nthN x9.2 (Int.toNat x2.1) fun _y10 =>
 Option.bind (z2g a (Nominator.mk a.Node a.Slot a.Round a.Seq (Trust.mk a.Trust.Threshold a.Trust.Nodes a.Trust.Inner) a.Own a.Votes a.Accepts a.Candidates (List.set x9.2 (Int.toNat x2.1) (Nomination.mk b.Node b.Seq (Trust.mk b.Trust.Threshold b.Trust.Nodes b.Trust.Inner) b.Votes b.Accepts)))) fun x11 =>
 some ((Nominator.mk x11.Node x11.Slot x11.Round x11.Seq (Trust.mk x11.Trust.Threshold x11.Trust.Nodes x11.Trust.Inner) x11.Own x11.Votes x11.Accepts x11.Candidates x11.Heard), 0)
 else
 Option.bind (z3j x2.1 ([(Nomination.mk b.Node b.Seq (Trust.mk b.Trust.Threshold b.Trust.Nodes b.Trust.Inner) b.Votes b.Accepts)] : List Nomination) x9.2) fun x12 =>
 Option.bind (z2g a (Nominator.mk a.Node a.Slot a.Round a.Seq (Trust.mk a.Trust.Threshold a.Trust.Nodes a.Trust.Inner) a.Own a.Votes a.Accepts a.Candidates x12.1)) fun x13 =>
 some ((Nominator.mk x13.Node x13.Slot x13.Round x13.Seq (Trust.mk x13.Trust.Threshold x13.Trust.Nodes x13.Trust.Inner) x13.Own x13.Votes x13.Accepts x13.Candidates x13.Heard), 0)
 ) :=
 cL o17' Tryz.func23
theorem y9x a b : eL (z2g a b) (
 Option.bind (z2n b) fun x0 =>
 Option.bind (z3x a.Trust x0.Trust) fun x1 =>
 bif !x1 then
 Option.bind (z1u (Nominator.mk x0.Node x0.Slot x0.Round (addI .i64 x0.Seq 1) (Trust.mk x0.Trust.Threshold x0.Trust.Nodes x0.Trust.Inner) x0.Own x0.Votes x0.Accepts x0.Candidates x0.Heard)) fun x2 =>
 some (Nominator.mk x2.Node x2.Slot x2.Round x2.Seq (Trust.mk x2.Trust.Threshold x2.Trust.Nodes x2.Trust.Inner) x2.Own x2.Votes x2.Accepts x2.Candidates x2.Heard)
 else
 Option.bind (z1w a.Votes x0.Votes) fun x3 =>
 bif !x3 then
 Option.bind (z1u (Nominator.mk x0.Node x0.Slot x0.Round (addI .i64 x0.Seq 1) (Trust.mk x0.Trust.Threshold x0.Trust.Nodes x0.Trust.Inner) x0.Own x0.Votes x0.Accepts x0.Candidates x0.Heard)) fun x4 =>
 some (Nominator.mk x4.Node x4.Slot x4.Round x4.Seq (Trust.mk x4.Trust.Threshold x4.Trust.Nodes x4.Trust.Inner) x4.Own x4.Votes x4.Accepts x4.Candidates x4.Heard)
 else
 Option.bind (z1w a.Accepts x0.Accepts) fun x5 =>
 bif !x5 then
 Option.bind (z1u (Nominator.mk x0.Node x0.Slot x0.Round (addI .i64 x0.Seq 1) (Trust.mk x0.Trust.Threshold x0.Trust.Nodes x0.Trust.Inner) x0.Own x0.Votes x0.Accepts x0.Candidates x0.Heard)) fun x6 =>
 some (Nominator.mk x6.Node x6.Slot x6.Round x6.Seq (Trust.mk x6.Trust.Threshold x6.Trust.Nodes x6.Trust.Inner) x6.Own x6.Votes x6.Accepts x6.Candidates x6.Heard)
 else
 Option.bind (z1u x0) fun x7 =>
 some (Nominator.mk x7.Node x7.Slot x7.Round x7.Seq (Trust.mk x7.Trust.Threshold x7.Trust.Nodes x7.Trust.Inner) x7.Own x7.Votes x7.Accepts x7.Candidates x7.Heard)
 ) :=
 cL o6' Tryz.func63
theorem yac a : eL (z3y a) (
 Option.bind (z3g a.Node) fun x0 =>
 bif x0 then
 bif leB 1 a.Seq then
 Option.bind (z2b a.Trust) fun x1 =>
 bif eqB x1 0 then
 Option.bind (z2m a.Votes) fun x2 =>
 bif x2 then
 Option.bind (z2m a.Accepts) fun x3 =>
 some x3
 else
 some false
 else
 some false
 else
 some false
 else
 some false
 ) :=
 cL o0' Tryz.func43
theorem ya0 a b : eL (z14 a b) (
 z0f a b (a.length : Int) 0 (a.length : Int)
 ) :=
 cL o7' Tryz.func68
end Go.Proofs.YtglokalgdbegeaaGreat
