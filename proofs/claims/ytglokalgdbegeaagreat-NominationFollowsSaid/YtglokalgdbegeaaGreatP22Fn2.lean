/- What the functions come to, printed by a program and checked by the kernel. -/
import Derived.Test.YtglokalgdbegeaaGreatP22Df
namespace Go.Proofs.YtglokalgdbegeaaGreat
open Go Go.Ab
set_option maxRecDepth 100000
theorem y7n a : eL (z48 a) (
 Option.bind (z3m a.Node) fun x0 =>
 bif x0 then
 bif leB 0 a.Slot then
 bif leB a.Slot 1000000 then
 bif leB 1 a.Round then
 bif leB a.Round 1000 then
 bif leB 1 a.Seq then
 some (leB a.Seq 1000000)
 else
 some false
 else
 some false
 else
 some false
 else
 some false
 else
 some false
 else
 some false
 ) :=
 cL o0' Tryz.func78
theorem y6n a : eL (z2o a) (
 z1x a a (a.length : Int) 0
 ) :=
 cL o0' Tryz.func79
theorem y5g a b c d e f g h i j k l m : eL (z19 a b c d e f g h i j k l m) (
 Option.bind (z1d a b c d e f g h i j k l m) fun x0 =>
 some ((leB 0 x0.1), x0.2.1, x0.2.2.1, x0.2.2.2.1, x0.2.2.2.2.1, x0.2.2.2.2.2.1, x0.2.2.2.2.2.2.1, x0.2.2.2.2.2.2.2.1, x0.2.2.2.2.2.2.2.2.1, x0.2.2.2.2.2.2.2.2.2.1, x0.2.2.2.2.2.2.2.2.2.2.1, x0.2.2.2.2.2.2.2.2.2.2.2.1, x0.2.2.2.2.2.2.2.2.2.2.2.2)
 ) :=
 cL o21' Tryz.func80
theorem y7m a b : eL (z1w a b) (
 bif (neB (a.length : Int) (b.length : Int)) then
 some false
 else
 z1k a b (a.length : Int) 0
 ) :=
 cL o0' Tryz.func89
theorem y6w a : eL (z2e a) (
 Option.bind (z3a a.Trust) fun x0 =>
 Option.bind (z1c a.Votes) fun x1 =>
 Option.bind (z1c a.Accepts) fun x2 =>
 some (Nomination.mk a.Node a.Seq (Trust.mk x0.Threshold x0.Nodes x0.Inner) x1.2 x2.2)
 ) :=
 cL o20' Tryz.func64
theorem y4c a b c d e f g h i j k l m : eL (z1d a b c d e f g h i j k l m) (
 z0g a (a.length : Int) 0 b c d e f g h i j k l m
 ) :=
 cL o22' Tryz.func121
theorem y7p a b : eL (z3f a b) (
 bif eqB a.Threshold b.Threshold then
 Option.bind (z33 a.Nodes b.Nodes) fun x0 =>
 bif x0 then
 Option.bind (z1a a.Inner b.Inner) fun x1 =>
 some x1
 else
 some false
 else
 some false
 ) :=
 cL o0' Tryz.func92
theorem y7z a b : eL (z33 a b) (
 bif (neB (a.length : Int) (b.length : Int)) then
 some false
 else
 z1v a b (a.length : Int) 0
 ) :=
 cL o0' Tryz.func131
theorem y4u a b : eL (z1a a b) (
 bif (neB (a.length : Int) (b.length : Int)) then
 some false
 else
 z0k b a (a.length : Int) 0
 ) :=
 cL o0' Tryz.func132
theorem y1t a b c d e f g h i j k l m n o : eL (z18 a b c d e f g h i j k l m n o) (
 bif ltB a 8 then
 Option.bind (law22_step (Nominator.mk d e f g (Trust.mk h i j) k l m n o) 4 a b c) fun x0 =>
 bif neB x0.2.1 0 then
 z18 (addI .i64 a 1) x0.2.2.1 x0.2.2.2 d e f g h i j k l m n o
 else
 capOk (List.length ([] : List (List UInt8)) + List.length l) <|
 Option.bind (z5b x0.1.Trust x0.1.Node x0.1.Slot x0.1.Round) fun x1 =>
 Option.bind (z56 x1.1 x0.1.Node) fun x2 =>
 bif x2 then
 capOk (List.length (([] : List (List UInt8)) ++ l) + List.length ([x0.1.Own] : List (List UInt8))) <|
 z1j a ((([] : List (List UInt8)) ++ l) ++ ([x0.1.Own] : List (List UInt8))) x1.1 x0.1.Heard (x0.1.Heard.length : Int) 0 x0.2.2.1 x0.2.2.2 d e f g h i j k l m n o x0.1.Node x0.1.Slot x0.1.Round x0.1.Seq x0.1.Trust.Threshold x0.1.Trust.Nodes x0.1.Trust.Inner x0.1.Own x0.1.Votes x0.1.Accepts x0.1.Candidates x0.1.Heard
 else
 z1j a (([] : List (List UInt8)) ++ l) x1.1 x0.1.Heard (x0.1.Heard.length : Int) 0 x0.2.2.1 x0.2.2.2 d e f g h i j k l m n o x0.1.Node x0.1.Slot x0.1.Round x0.1.Seq x0.1.Trust.Threshold x0.1.Trust.Nodes x0.1.Trust.Inner x0.1.Own x0.1.Votes x0.1.Accepts x0.1.Candidates x0.1.Heard
 else
 Option.bind (law22_awake) fun x3 =>
 some x3
 ) :=
 gL o0' (q0b Tryz.f6 [1,1,1,1,0,1,0,0])
theorem law22_step_le a b c d e : eL (law22_step a b c d e) (
 Option.bind (z2d 6 d e) fun x0 =>
 bif eqB x0.1 0 then
 Option.bind (z4t a) fun x1 =>
 some ((Nominator.mk x1.1.Node x1.1.Slot x1.1.Round x1.1.Seq (Trust.mk x1.1.Trust.Threshold x1.1.Trust.Nodes x1.1.Trust.Inner) x1.1.Own x1.1.Votes x1.1.Accepts x1.1.Candidates x1.1.Heard), x1.2, x0.2.1, x0.2.2)
 else
 bif eqB x0.1 1 then
 Option.bind (z57 b 2 x0.2.1 x0.2.2) fun x2 =>
 Option.bind (z49 a x2.1) fun x3 =>
 some ((Nominator.mk x3.1.Node x3.1.Slot x3.1.Round x3.1.Seq (Trust.mk x3.1.Trust.Threshold x3.1.Trust.Nodes x3.1.Trust.Inner) x3.1.Own x3.1.Votes x3.1.Accepts x3.1.Candidates x3.1.Heard), x3.2, x2.2.1, x2.2.2)
 else
 Option.bind (z59 b x0.2.1 x0.2.2) fun x4 =>
 Option.bind (z4u a (Nomination.mk x4.1.Node (addI .i64 x4.1.Seq (mulI .i64 5 c)) (Trust.mk x4.1.Trust.Threshold x4.1.Trust.Nodes x4.1.Trust.Inner) x4.1.Votes x4.1.Accepts)) fun x5 =>
 some ((Nominator.mk x5.1.Node x5.1.Slot x5.1.Round x5.1.Seq (Trust.mk x5.1.Trust.Threshold x5.1.Trust.Nodes x5.1.Trust.Inner) x5.1.Own x5.1.Votes x5.1.Accepts x5.1.Candidates x5.1.Heard), x5.2, x4.2.1, x4.2.2)
 ) :=
 cL o29' Tryz.func28
theorem y7a a b : eL (z56 a b) (
 Option.bind (z5k a) fun x0 =>
 bif x0 then
 bif leB 0 b then
 bif ltB b 10 then
 chk (0 ≤ b) <|
 some (eqB (andI .i64 (shrI .i64 a b) 1) 1)
 else
 some false
 else
 some false
 else
 some false
 ) :=
 cL o0' Tryz.func21
theorem y7k a : eL (z4t a) (
 Option.bind (z3b a) fun x0 =>
 bif !x0 then
 some ((Nominator.mk 0 0 0 0 (Trust.mk 0 [] []) [] ([] : List (List UInt8)) ([] : List (List UInt8)) ([] : List (List UInt8)) []), 1)
 else
 bif eqB a.Round 1000 then
 some ((Nominator.mk 0 0 0 0 (Trust.mk 0 [] []) [] ([] : List (List UInt8)) ([] : List (List UInt8)) ([] : List (List UInt8)) []), 3)
 else
 Option.bind (z24 a (Nominator.mk a.Node a.Slot (addI .i64 a.Round 1) a.Seq (Trust.mk a.Trust.Threshold a.Trust.Nodes a.Trust.Inner) a.Own a.Votes a.Accepts a.Candidates a.Heard)) fun x1 =>
 some ((Nominator.mk x1.Node x1.Slot x1.Round x1.Seq (Trust.mk x1.Trust.Threshold x1.Trust.Nodes x1.Trust.Inner) x1.Own x1.Votes x1.Accepts x1.Candidates x1.Heard), 0)
 ) :=
 cL o12' Tryz.func19
theorem y8l a b : eL (z49 a b) (
 Option.bind (z3b a) fun x0 =>
 bif !x0 then
 some ((Nominator.mk 0 0 0 0 (Trust.mk 0 [] []) [] ([] : List (List UInt8)) ([] : List (List UInt8)) ([] : List (List UInt8)) []), 1)
 else
 Option.bind (z25 b) fun x1 =>
 bif neB x1 0 then
 some ((Nominator.mk 0 0 0 0 (Trust.mk 0 [] []) [] ([] : List (List UInt8)) ([] : List (List UInt8)) ([] : List (List UInt8)) []), x1)
 else
 Option.bind (z3f a.Trust b) fun x2 =>
 bif x2 then
 Option.bind (z1m a) fun x3 =>
 some ((Nominator.mk x3.Node x3.Slot x3.Round x3.Seq (Trust.mk x3.Trust.Threshold x3.Trust.Nodes x3.Trust.Inner) x3.Own x3.Votes x3.Accepts x3.Candidates x3.Heard), 0)
 else
 Option.bind (z24 a (Nominator.mk a.Node a.Slot a.Round a.Seq (Trust.mk b.Threshold b.Nodes b.Inner) a.Own a.Votes a.Accepts a.Candidates a.Heard)) fun x4 =>
 some ((Nominator.mk x4.Node x4.Slot x4.Round x4.Seq (Trust.mk x4.Trust.Threshold x4.Trust.Nodes x4.Trust.Inner) x4.Own x4.Votes x4.Accepts x4.Candidates x4.Heard), 0)
 ) :=
 cL o12' Tryz.func46
theorem y59 a b : eL (z4u a b) (
 Option.bind (z3b a) fun x0 =>
 bif !x0 then
 some ((Nominator.mk 0 0 0 0 (Trust.mk 0 [] []) [] ([] : List (List UInt8)) ([] : List (List UInt8)) ([] : List (List UInt8)) []), 1)
 else
 Option.bind (z40 b) fun x1 =>
 bif !x1 then
 some ((Nominator.mk 0 0 0 0 (Trust.mk 0 [] []) [] ([] : List (List UInt8)) ([] : List (List UInt8)) ([] : List (List UInt8)) []), 1)
 else
 bif eqB b.Node a.Node then
 some ((Nominator.mk 0 0 0 0 (Trust.mk 0 [] []) [] ([] : List (List UInt8)) ([] : List (List UInt8)) ([] : List (List UInt8)) []), 1)
 else
 Option.bind (z14 a.Heard b.Node) fun x2 =>
 bif x2.2 then
 nth a.Heard x2.1 fun y3 =>
 bif leB b.Seq y3.Seq then
 some ((Nominator.mk 0 0 0 0 (Trust.mk 0 [] []) [] ([] : List (List UInt8)) ([] : List (List UInt8)) ([] : List (List UInt8)) []), 9)
 else
 Option.bind (z1i a.Heard) fun x4 =>
 bif x2.2 then
 nth x4.2 x2.1 fun _ =>
 nthN x4.2 (Int.toNat x2.1) fun _y5 =>
 Option.bind (z24 a (Nominator.mk a.Node a.Slot a.Round a.Seq (Trust.mk a.Trust.Threshold a.Trust.Nodes a.Trust.Inner) a.Own a.Votes a.Accepts a.Candidates (List.set x4.2 (Int.toNat x2.1) (Nomination.mk b.Node b.Seq (Trust.mk b.Trust.Threshold b.Trust.Nodes b.Trust.Inner) b.Votes b.Accepts)))) fun x6 =>
 some ((Nominator.mk x6.Node x6.Slot x6.Round x6.Seq (Trust.mk x6.Trust.Threshold x6.Trust.Nodes x6.Trust.Inner) x6.Own x6.Votes x6.Accepts x6.Candidates x6.Heard), 0)
 else
 Option.bind (z3n x2.1 ([(Nomination.mk b.Node b.Seq (Trust.mk b.Trust.Threshold b.Trust.Nodes b.Trust.Inner) b.Votes b.Accepts)] : List Nomination) x4.2) fun x7 =>
 Option.bind (z24 a (Nominator.mk a.Node a.Slot a.Round a.Seq (Trust.mk a.Trust.Threshold a.Trust.Nodes a.Trust.Inner) a.Own a.Votes a.Accepts a.Candidates x7.1)) fun x8 =>
 some ((Nominator.mk x8.Node x8.Slot x8.Round x8.Seq (Trust.mk x8.Trust.Threshold x8.Trust.Nodes x8.Trust.Inner) x8.Own x8.Votes x8.Accepts x8.Candidates x8.Heard), 0)
 else
 Option.bind (z1i a.Heard) fun x9 =>
 bif x2.2 then
 nth x9.2 x2.1 fun _ =>
 nthN x9.2 (Int.toNat x2.1) fun _y10 =>
 Option.bind (z24 a (Nominator.mk a.Node a.Slot a.Round a.Seq (Trust.mk a.Trust.Threshold a.Trust.Nodes a.Trust.Inner) a.Own a.Votes a.Accepts a.Candidates (List.set x9.2 (Int.toNat x2.1) (Nomination.mk b.Node b.Seq (Trust.mk b.Trust.Threshold b.Trust.Nodes b.Trust.Inner) b.Votes b.Accepts)))) fun x11 =>
 some ((Nominator.mk x11.Node x11.Slot x11.Round x11.Seq (Trust.mk x11.Trust.Threshold x11.Trust.Nodes x11.Trust.Inner) x11.Own x11.Votes x11.Accepts x11.Candidates x11.Heard), 0)
 else
 Option.bind (z3n x2.1 ([(Nomination.mk b.Node b.Seq (Trust.mk b.Trust.Threshold b.Trust.Nodes b.Trust.Inner) b.Votes b.Accepts)] : List Nomination) x9.2) fun x12 =>
 Option.bind (z24 a (Nominator.mk a.Node a.Slot a.Round a.Seq (Trust.mk a.Trust.Threshold a.Trust.Nodes a.Trust.Inner) a.Own a.Votes a.Accepts a.Candidates x12.1)) fun x13 =>
 some ((Nominator.mk x13.Node x13.Slot x13.Round x13.Seq (Trust.mk x13.Trust.Threshold x13.Trust.Nodes x13.Trust.Inner) x13.Own x13.Votes x13.Accepts x13.Candidates x13.Heard), 0)
 ) :=
 cL o12' Tryz.func23
theorem y4i a b : eL (z24 a b) (
 Option.bind (z2q b) fun x0 =>
 Option.bind (z3f a.Trust x0.Trust) fun x1 =>
 bif !x1 then
 Option.bind (z1m (Nominator.mk x0.Node x0.Slot x0.Round (addI .i64 x0.Seq 1) (Trust.mk x0.Trust.Threshold x0.Trust.Nodes x0.Trust.Inner) x0.Own x0.Votes x0.Accepts x0.Candidates x0.Heard)) fun x2 =>
 some (Nominator.mk x2.Node x2.Slot x2.Round x2.Seq (Trust.mk x2.Trust.Threshold x2.Trust.Nodes x2.Trust.Inner) x2.Own x2.Votes x2.Accepts x2.Candidates x2.Heard)
 else
 Option.bind (z1w a.Votes x0.Votes) fun x3 =>
 bif !x3 then
 Option.bind (z1m (Nominator.mk x0.Node x0.Slot x0.Round (addI .i64 x0.Seq 1) (Trust.mk x0.Trust.Threshold x0.Trust.Nodes x0.Trust.Inner) x0.Own x0.Votes x0.Accepts x0.Candidates x0.Heard)) fun x4 =>
 some (Nominator.mk x4.Node x4.Slot x4.Round x4.Seq (Trust.mk x4.Trust.Threshold x4.Trust.Nodes x4.Trust.Inner) x4.Own x4.Votes x4.Accepts x4.Candidates x4.Heard)
 else
 Option.bind (z1w a.Accepts x0.Accepts) fun x5 =>
 bif !x5 then
 Option.bind (z1m (Nominator.mk x0.Node x0.Slot x0.Round (addI .i64 x0.Seq 1) (Trust.mk x0.Trust.Threshold x0.Trust.Nodes x0.Trust.Inner) x0.Own x0.Votes x0.Accepts x0.Candidates x0.Heard)) fun x6 =>
 some (Nominator.mk x6.Node x6.Slot x6.Round x6.Seq (Trust.mk x6.Trust.Threshold x6.Trust.Nodes x6.Trust.Inner) x6.Own x6.Votes x6.Accepts x6.Candidates x6.Heard)
 else
 Option.bind (z1m x0) fun x7 =>
 some (Nominator.mk x7.Node x7.Slot x7.Round x7.Seq (Trust.mk x7.Trust.Threshold x7.Trust.Nodes x7.Trust.Inner) x7.Own x7.Votes x7.Accepts x7.Candidates x7.Heard)
 ) :=
 cL o6' Tryz.func63
theorem y6u a : eL (z40 a) (
 Option.bind (z3m a.Node) fun x0 =>
 bif x0 then
 bif leB 1 a.Seq then
 Option.bind (z25 a.Trust) fun x1 =>
 bif eqB x1 0 then
 Option.bind (z2o a.Votes) fun x2 =>
 bif x2 then
 Option.bind (z2o a.Accepts) fun x3 =>
 some x3
 else
 some false
 else
 some false
 else
 some false
 else
 some false
 ) :=
 cL o0' Tryz.func43
theorem y6v a b : eL (z14 a b) (
 z0f a b (a.length : Int) 0 (a.length : Int)
 ) :=
 cL o7' Tryz.func68
end Go.Proofs.YtglokalgdbegeaaGreat
