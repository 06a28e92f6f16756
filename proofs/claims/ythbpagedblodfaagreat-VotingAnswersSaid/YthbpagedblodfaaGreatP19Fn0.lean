/- What the functions come to, printed by a program and checked by the kernel. -/
import Derived.Test.YthbpagedblodfaaGreatP19Df
namespace Go.Proofs.YthbpagedblodfaaGreat
open Go Go.Ab
set_option maxRecDepth 100000
theorem law19_VotingAnswers_le a b c d e f : eL (law19_VotingAnswers a b c d e f) (
 Option.bind (z3b b) fun x0 =>
 bif !x0 then
 Option.bind (law19_awake) fun x1 =>
 some x1
 else
 Option.bind (z3m c) fun x2 =>
 bif !x2 then
 Option.bind (law19_awake) fun x3 =>
 some x3
 else
 Option.bind (z59 e) fun x4 =>
 bif !x4 then
 Option.bind (law19_awake) fun x5 =>
 some x5
 else
 Option.bind (z7l a) fun x6 =>
 Option.bind (z7k 4 8 x6.2.1 x6.2.2) fun x7 =>
 Option.bind (z62 4 x7.2.1 x7.2.2) fun x8 =>
 Option.bind (z2t x7.1 x8.2.1 x8.2.2) fun x9 =>
 z1r f ([(Voter.mk x7.1.Node x7.1.Seq (Trust.mk x7.1.Trust.Threshold x7.1.Trust.Nodes x7.1.Trust.Inner) x7.1.Votes x7.1.Accepts x7.1.Confirms x7.1.Heard), (Voter.mk x9.1.Node x9.1.Seq (Trust.mk x9.1.Trust.Threshold x9.1.Trust.Nodes x9.1.Trust.Inner) x9.1.Votes x9.1.Accepts x9.1.Confirms x9.1.Heard), (Voter.mk b.Node b.Seq (Trust.mk b.Trust.Threshold b.Trust.Nodes b.Trust.Inner) b.Votes b.Accepts b.Confirms b.Heard)] : List Voter) ((List.length ([(Voter.mk x7.1.Node x7.1.Seq (Trust.mk x7.1.Trust.Threshold x7.1.Trust.Nodes x7.1.Trust.Inner) x7.1.Votes x7.1.Accepts x7.1.Confirms x7.1.Heard), (Voter.mk x9.1.Node x9.1.Seq (Trust.mk x9.1.Trust.Threshold x9.1.Trust.Nodes x9.1.Trust.Inner) x9.1.Votes x9.1.Accepts x9.1.Confirms x9.1.Heard), (Voter.mk b.Node b.Seq (Trust.mk b.Trust.Threshold b.Trust.Nodes b.Trust.Inner) b.Votes b.Accepts b.Confirms b.Heard)] : List Voter) : Nat) : Int) 0 b.Node b.Seq b.Trust.Threshold b.Trust.Nodes b.Trust.Inner b.Votes b.Accepts b.Confirms b.Heard c.Node c.Seq c.Trust.Threshold c.Trust.Nodes c.Trust.Inner c.Votes c.Accepts d.Topic d.Value e.Threshold e.Nodes e.Inner x9.2.1 x9.2.2 x7.1.Node x7.1.Seq x7.1.Trust.Threshold x7.1.Trust.Nodes x7.1.Trust.Inner x7.1.Votes x7.1.Accepts x7.1.Confirms x7.1.Heard x8.1.Node (addI .i64 x8.1.Seq 6) x8.1.Trust.Threshold x8.1.Trust.Nodes x8.1.Trust.Inner x8.1.Votes x8.1.Accepts
 ) :=
 cL o0' Tryz.func7
theorem qjw a : eL (z3b a) (
 Option.bind (z59 a.Trust) fun x0 =>
 bif x0 then
 bif (leB (a.Votes.length : Int) 40) then
 bif (leB (a.Accepts.length : Int) 40) then
 bif (leB (a.Confirms.length : Int) 40) then
 Option.bind (z3t a.Heard) fun x1 =>
 some x1
 else
 some false
 else
 some false
 else
 some false
 else
 some false
 ) :=
 cL o0' Tryz.func29
theorem law19_awake_le  : Le (
 Option.bind (z6c 3 (Trust.mk 1 ([3] : List Int) ([] : List Trust))) fun x0 =>
 Option.bind (z69 x0.1 (Claim.mk 1 2)) fun x1 =>
 Option.bind (z69 x1.1 (Claim.mk 1 3)) fun x2 =>
 bif eqB x0.2 0 then
 bif eqB x1.2 0 then
 bif eqB x2.2 14 then
 bif (eqB (x1.1.Confirms.length : Int) 1) then
 bif eqB x1.1.Seq 2 then
 Option.bind (z73 x1.1) fun x3 =>
 some (eqB (x3.Accepts.length : Int) 1)
 else
 some false
 else
 some false
 else
 some false
 else
 some false
 else
 some false
 ) (law19_awake) :=
 cL o0' Tryz.func16
theorem qx0 a : eL (z3m a) (
 Option.bind (z59 a.Trust) fun x0 =>
 bif x0 then
 bif (leB (a.Votes.length : Int) 40) then
 some (leB (a.Accepts.length : Int) 40)
 else
 some false
 else
 some false
 ) :=
 cL o0' Tryz.func30
theorem y6z a : eL (z59 a) (
 Option.bind (z74 a 0) fun x0 =>
 some (leB x0 400)
 ) :=
 cL o0' Tryz.func31
theorem y2r a : eL (z7l a) (
 hiK (List.length a) (if 400 < (a.length : Int) then 400 else (a.length : Int)) fun b0 =>
 some ((), (List.drop 0 (List.take b0 a)), 0)
 ) :=
 cL o29' Tryz.func8
theorem y73 a b c d : eL (z7k a b c d) (
 Option.bind (z1p a c d) fun x0 =>
 Option.bind (z68 a 2 x0.2.1 x0.2.2) fun x1 =>
 Option.bind (z6t x0.1 x1.1) fun x2 =>
 Option.bind (z1p (addI .i64 b 1) x1.2.1 x1.2.2) fun x3 =>
 z1h a x3.1 x3.2.1 x3.2.2 0 0 0 [] [] [] [] [] [] x2.1.Node x2.1.Seq x2.1.Trust.Threshold x2.1.Trust.Nodes x2.1.Trust.Inner x2.1.Votes x2.1.Accepts x2.1.Confirms x2.1.Heard
 ) :=
 cL o16' Tryz.func32
theorem yal a b c : eL (z62 a b c) (
 Option.bind (z1p a b c) fun x0 =>
 Option.bind (z24 1 5 x0.2.1 x0.2.2) fun x1 =>
 Option.bind (z68 a 2 x1.2.1 x1.2.2) fun x2 =>
 Option.bind (z2n 3 x2.2.1 x2.2.2) fun x3 =>
 Option.bind (z3o x3.1) fun x4 =>
 Option.bind (z2n 2 x3.2.1 x3.2.2) fun x5 =>
 Option.bind (z3o x5.1) fun x6 =>
 some ((Message.mk x0.1 x1.1 (Trust.mk x2.1.Threshold x2.1.Nodes x2.1.Inner) x4 x6), x5.2.1, x5.2.2)
 ) :=
 cL o20' Tryz.func26
theorem qf1 a b c : eL (z2t a b c) (
 Option.bind (z1p 8 b c) fun x0 =>
 bif eqB x0.1 0 then
 Option.bind (z1n ([(-1), 9, 10, a.Node] : List Int) x0.2.1 x0.2.2) fun x1 =>
 some ((Voter.mk x1.1 a.Seq (Trust.mk a.Trust.Threshold a.Trust.Nodes a.Trust.Inner) a.Votes a.Accepts a.Confirms a.Heard), x1.2.1, x1.2.2)
 else
 bif eqB x0.1 1 then
 Option.bind (z1n ([0, 1000000, 1000001] : List Int) x0.2.1 x0.2.2) fun x2 =>
 some ((Voter.mk a.Node x2.1 (Trust.mk a.Trust.Threshold a.Trust.Nodes a.Trust.Inner) a.Votes a.Accepts a.Confirms a.Heard), x2.2.1, x2.2.2)
 else
 bif eqB x0.1 2 then
 Option.bind (z3p a.Trust x0.2.1 x0.2.2) fun x3 =>
 some ((Voter.mk a.Node a.Seq (Trust.mk x3.1.Threshold x3.1.Nodes x3.1.Inner) a.Votes a.Accepts a.Confirms a.Heard), x3.2.1, x3.2.2)
 else
 bif eqB x0.1 3 then
 Option.bind (z2n 4 x0.2.1 x0.2.2) fun x4 =>
 some ((Voter.mk a.Node a.Seq (Trust.mk a.Trust.Threshold a.Trust.Nodes a.Trust.Inner) x4.1 a.Accepts a.Confirms a.Heard), x4.2.1, x4.2.2)
 else
 bif eqB x0.1 4 then
 Option.bind (z2n 4 x0.2.1 x0.2.2) fun x5 =>
 Option.bind (z3o x5.1) fun x6 =>
 some ((Voter.mk a.Node a.Seq (Trust.mk a.Trust.Threshold a.Trust.Nodes a.Trust.Inner) a.Votes x6 a.Confirms a.Heard), x5.2.1, x5.2.2)
 else
 bif eqB x0.1 5 then
 Option.bind (z2n 2 x0.2.1 x0.2.2) fun x7 =>
 Option.bind (z3o x7.1) fun x8 =>
 some ((Voter.mk a.Node a.Seq (Trust.mk a.Trust.Threshold a.Trust.Nodes a.Trust.Inner) a.Votes a.Accepts x8 a.Heard), x7.2.1, x7.2.2)
 else
 bif eqB x0.1 6 then
 capOk (List.length ([] : List Message) + List.length a.Heard) <|
 Option.bind (z62 10 x0.2.1 x0.2.2) fun x9 =>
 capOk (List.length (([] : List Message) ++ a.Heard) + List.length ([(Message.mk x9.1.Node x9.1.Seq (Trust.mk x9.1.Trust.Threshold x9.1.Trust.Nodes x9.1.Trust.Inner) x9.1.Votes x9.1.Accepts)] : List Message)) <|
 some ((Voter.mk a.Node a.Seq (Trust.mk a.Trust.Threshold a.Trust.Nodes a.Trust.Inner) a.Votes a.Accepts a.Confirms ((([] : List Message) ++ a.Heard) ++ ([(Message.mk x9.1.Node x9.1.Seq (Trust.mk x9.1.Trust.Threshold x9.1.Trust.Nodes x9.1.Trust.Inner) x9.1.Votes x9.1.Accepts)] : List Message))), x9.2.1, x9.2.2)
 else
 Option.bind (z62 10 x0.2.1 x0.2.2) fun x10 =>
 Option.bind (z2v x10.1 x10.2.1 x10.2.2) fun x11 =>
 capOk (List.length ([(Message.mk x11.1.Node x11.1.Seq (Trust.mk x11.1.Trust.Threshold x11.1.Trust.Nodes x11.1.Trust.Inner) x11.1.Votes x11.1.Accepts)] : List Message) + List.length a.Heard) <|
 some ((Voter.mk a.Node a.Seq (Trust.mk a.Trust.Threshold a.Trust.Nodes a.Trust.Inner) a.Votes a.Accepts a.Confirms (([(Message.mk x11.1.Node x11.1.Seq (Trust.mk x11.1.Trust.Threshold x11.1.Trust.Nodes x11.1.Trust.Inner) x11.1.Votes x11.1.Accepts)] : List Message) ++ a.Heard)), x11.2.1, x11.2.2)
 ) :=
 cL o16' Tryz.func33
theorem y2h a b c d : eL (z68 a b c d) (
 Option.bind (z6z a b c d) fun x0 =>
 Option.bind (z2j x0.1) fun x1 =>
 bif neB x1 0 then
 Option.bind (z1p a x0.2.1 x0.2.2) fun x2 =>
 some ((Trust.mk 1 ([x2.1] : List Int) []), x2.2.1, x2.2.2)
 else
 some ((Trust.mk x0.1.Threshold x0.1.Nodes x0.1.Inner), x0.2.1, x0.2.2)
 ) :=
 cL o6' Tryz.func10
theorem y95 a b : eL (z6c a b) (
 bif ltB a 0 then
 some ((Voter.mk 0 0 (Trust.mk 0 [] []) [] [] [] []), 5)
 else
 bif leB 10 a then
 some ((Voter.mk 0 0 (Trust.mk 0 [] []) [] [] [] []), 5)
 else
 Option.bind (z31 b) fun x0 =>
 bif neB x0 0 then
 some ((Voter.mk 0 0 (Trust.mk 0 [] []) [] [] [] []), x0)
 else
 Option.bind (z52 b) fun x1 =>
 some ((Voter.mk a 1 (Trust.mk x1.Threshold x1.Nodes x1.Inner) [] [] [] []), 0)
 ) :=
 cL o5' Tryz.func9
theorem y9g a b : eL (z69 a b) (
 Option.bind (z53 a) fun x0 =>
 bif !x0 then
 some ((Voter.mk 0 0 (Trust.mk 0 [] []) [] [] [] []), 1)
 else
 Option.bind (z5v b) fun x1 =>
 bif !x1 then
 some ((Voter.mk 0 0 (Trust.mk 0 [] []) [] [] [] []), 1)
 else
 Option.bind (z1e a.Votes b.Topic b.Value) fun x2 =>
 bif x2.1 then
 some ((Voter.mk 0 0 (Trust.mk 0 [] []) [] [] [] []), 14)
 else
 Option.bind (z1e a.Accepts x2.2.1 x2.2.2) fun x3 =>
 bif x3.1 then
 some ((Voter.mk 0 0 (Trust.mk 0 [] []) [] [] [] []), 14)
 else
 Option.bind (z5j a.Votes (Claim.mk x3.2.1 x3.2.2)) fun x4 =>
 bif x4 then
 Option.bind (z2u a) fun x5 =>
 some ((Voter.mk x5.Node x5.Seq (Trust.mk x5.Trust.Threshold x5.Trust.Nodes x5.Trust.Inner) x5.Votes x5.Accepts x5.Confirms x5.Heard), 0)
 else
 Option.bind (z6l a.Votes (Claim.mk x3.2.1 x3.2.2)) fun x6 =>
 Option.bind (z3c a (Voter.mk a.Node a.Seq (Trust.mk a.Trust.Threshold a.Trust.Nodes a.Trust.Inner) x6 a.Accepts a.Confirms a.Heard)) fun x7 =>
 some ((Voter.mk x7.Node x7.Seq (Trust.mk x7.Trust.Threshold x7.Trust.Nodes x7.Trust.Inner) x7.Votes x7.Accepts x7.Confirms x7.Heard), 0)
 ) :=
 cL o5' Tryz.func11
theorem qyf a b c : eL (z1p a b c) (
 bif (leB (b.length : Int) c) then
 some (0, b, c)
 else
 nth b c fun y0 =>
 chk (a ≠ 0) <|
 bif ltB (remI .i64 y0 a) 0 then
 some ((addI .i64 (remI .i64 y0 a) a), b, (addI .i64 c 1))
 else
 some ((remI .i64 y0 a), b, (addI .i64 c 1))
 ) :=
 cL o17' Tryz.func12
theorem yac a : eL (z3o a) (
 z33 a [] 0
 ) :=
 cL o2' Tryz.func18
theorem y5m a b : eL (z7b a b) (
 Option.bind (z53 a) fun x0 =>
 bif !x0 then
 some ((Voter.mk 0 0 (Trust.mk 0 [] []) [] [] [] []), 1)
 else
 Option.bind (z32 b) fun x1 =>
 bif !x1 then
 some ((Voter.mk 0 0 (Trust.mk 0 [] []) [] [] [] []), 1)
 else
 bif eqB b.Node a.Node then
 some ((Voter.mk 0 0 (Trust.mk 0 [] []) [] [] [] []), 1)
 else
 Option.bind (z19 a.Heard b.Node) fun x2 =>
 bif x2.2 then
 nth a.Heard x2.1 fun y3 =>
 bif leB b.Seq y3.Seq then
 some ((Voter.mk 0 0 (Trust.mk 0 [] []) [] [] [] []), 9)
 else
 Option.bind (z1u a.Heard) fun x4 =>
 bif x2.2 then
 nth x4.2 x2.1 fun _ =>
 nthN x4.2 (Int.toNat x2.1) fun _y5 =>
 Option.bind (z3c a (Voter.mk a.Node a.Seq (Trust.mk a.Trust.Threshold a.Trust.Nodes a.Trust.Inner) a.Votes a.Accepts a.Confirms (List.set x4.2 (Int.toNat x2.1) (Message.mk b.Node b.Seq (Trust.mk b.Trust.Threshold b.Trust.Nodes b.Trust.Inner) b.Votes b.Accepts)))) fun x6 =>
 some ((Voter.mk x6.Node x6.Seq (Trust.mk x6.Trust.Threshold x6.Trust.Nodes x6.Trust.Inner) x6.Votes x6.Accepts x6.Confirms x6.Heard), 0)
 else
 Option.bind (z54 x2.1 ([(Message.mk b.Node b.Seq (Trust.mk b.Trust.Threshold b.Trust.Nodes b.Trust.Inner) b.Votes b.Accepts)] : List Message) x4.2) fun x7 =>
 Option.bind (z3c a (Voter.mk a.Node a.Seq (Trust.mk a.Trust.Threshold a.Trust.Nodes a.Trust.Inner) a.Votes a.Accepts a.Confirms x7.1)) fun x8 =>
 some ((Voter.mk x8.Node x8.Seq (Trust.mk x8.Trust.Threshold x8.Trust.Nodes x8.Trust.Inner) x8.Votes x8.Accepts x8.Confirms x8.Heard), 0)
 else
 Option.bind (z1u a.Heard) fun x9 =>
 bif x2.2 then
 nth x9.2 x2.1 fun _ =>
 nthN x9.2 (Int.toNat x2.1) fun _y10 =>
 Option.bind (z3c a (Voter.mk a.Node a.Seq (Trust.mk a.Trust.Threshold a.Trust.Nodes a.Trust.Inner) a.Votes a.Accepts a.Confirms (List.set x9.2 (Int.toNat x2.1) (Message.mk b.Node b.Seq (Trust.mk b.Trust.Threshold b.Trust.Nodes b.Trust.Inner) b.Votes b.Accepts)))) fun x11 =>
 some ((Voter.mk x11.Node x11.Seq (Trust.mk x11.Trust.Threshold x11.Trust.Nodes x11.Trust.Inner) x11.Votes x11.Accepts x11.Confirms x11.Heard), 0)
 else
 Option.bind (z54 x2.1 ([(Message.mk b.Node b.Seq (Trust.mk b.Trust.Threshold b.Trust.Nodes b.Trust.Inner) b.Votes b.Accepts)] : List Message) x9.2) fun x12 =>
 Option.bind (z3c a (Voter.mk a.Node a.Seq (Trust.mk a.Trust.Threshold a.Trust.Nodes a.Trust.Inner) a.Votes a.Accepts a.Confirms x12.1)) fun x13 =>
 some ((Voter.mk x13.Node x13.Seq (Trust.mk x13.Trust.Threshold x13.Trust.Nodes x13.Trust.Inner) x13.Votes x13.Accepts x13.Confirms x13.Heard), 0)
 ) :=
 cL o5' Tryz.func14
theorem y8j a : eL (z6s a) (
 Option.bind (z6k a) fun x0 =>
 z7a [] x0 (x0.length : Int) 0 a.Node a.Seq a.Trust.Threshold a.Trust.Nodes a.Trust.Inner a.Votes a.Accepts a.Confirms a.Heard
 ) :=
 cL o2' Tryz.func19
theorem y2m a : eL (z3t a) (
 bif (ltB 20 (a.length : Int)) then
 some false
 else
 z2c a (a.length : Int) 0
 ) :=
 cL o0' Tryz.func77
theorem y8l a : eL (z73 a) (
 Option.bind (z5k a) fun x0 =>
 Option.bind (z3e x0) fun x1 =>
 some (Message.mk x1.Node x1.Seq (Trust.mk x1.Trust.Threshold x1.Trust.Nodes x1.Trust.Inner) x1.Votes x1.Accepts)
 ) :=
 cL o11' Tryz.func37
theorem y7p a b : eL (z74 a b) (
 z4m (addI .i64 b (addI .i64 1 (a.Nodes.length : Int))) 0 a.Threshold a.Nodes a.Inner
 ) :=
 cL o1' Tryz.func78
theorem y6j a b : eL (z6t a b) (
 bif ltB a 0 then
 some ((Voter.mk 0 0 (Trust.mk 0 [] []) [] [] [] []), 5)
 else
 bif leB 10 a then
 some ((Voter.mk 0 0 (Trust.mk 0 [] []) [] [] [] []), 5)
 else
 Option.bind (z2j b) fun x0 =>
 bif neB x0 0 then
 some ((Voter.mk 0 0 (Trust.mk 0 [] []) [] [] [] []), x0)
 else
 some ((Voter.mk a 1 (Trust.mk b.Threshold b.Nodes b.Inner) [] [] [] []), 0)
 ) :=
 cL o5' Tryz.func44
theorem y5u a b c d : eL (z24 a b c d) (
 Option.bind (z1p (addI .i64 (subI .i64 b a) 1) c d) fun x0 =>
 some ((addI .i64 a x0.1), x0.2.1, x0.2.2)
 ) :=
 cL o17' Tryz.func73
theorem yaf a b c : eL (z2n a b c) (
 Option.bind (z1p (addI .i64 a 1) b c) fun x0 =>
 z5w [] x0.1 x0.2.1 x0.2.2
 ) :=
 cL o21' Tryz.func74
theorem y9n a b c : eL (z1n a b c) (
 Option.bind (z1p (a.length : Int) b c) fun x0 =>
 nth a x0.1 fun y1 =>
 some (y1, x0.2.1, x0.2.2)
 ) :=
 cL o17' Tryz.func79
theorem qvi a b c : eL (z3p a b c) (
 bif (ltB 0 (a.Inner.length : Int)) then
 Option.bind (z1p 2 b c) fun x0 =>
 bif eqB x0.1 1 then
 capOk (List.length ([] : List Trust) + List.length a.Inner) <|
 Option.bind (z1p ((List.length (([] : List Trust) ++ a.Inner) : Nat) : Int) x0.2.1 x0.2.2) fun x1 =>
 nth (([] : List Trust) ++ a.Inner) x1.1 fun _ =>
 nthN (([] : List Trust) ++ a.Inner) (Int.toNat x1.1) fun y2 =>
 Option.bind (z3p y2 x1.2.1 x1.2.2) fun x3 =>
 nth (([] : List Trust) ++ a.Inner) x1.1 fun _ =>
 nthN (([] : List Trust) ++ a.Inner) (Int.toNat x1.1) fun _y4 =>
 some ((Trust.mk a.Threshold a.Nodes (List.set (([] : List Trust) ++ a.Inner) (Int.toNat x1.1) (Trust.mk x3.1.Threshold x3.1.Nodes x3.1.Inner))), x3.2.1, x3.2.2)
 else
 Option.bind (z1p 6 x0.2.1 x0.2.2) fun x5 =>
 bif eqB x5.1 0 then
 Option.bind (z1n ([0, (-1), (addI .i64 (a.Nodes.length : Int) (a.Inner.length : Int)), (addI .i64 (addI .i64 (a.Nodes.length : Int) (a.Inner.length : Int)) 1)] : List Int) x5.2.1 x5.2.2) fun x6 =>
 some ((Trust.mk x6.1 a.Nodes a.Inner), x6.2.1, x6.2.2)
 else
 bif eqB x5.1 1 then
 capOk (List.length ([] : List Int) + List.length a.Nodes) <|
 Option.bind (z1n ([(-1), 0, 9, 10] : List Int) x5.2.1 x5.2.2) fun x7 =>
 capOk (List.length (([] : List Int) ++ a.Nodes) + List.length ([x7.1] : List Int)) <|
 some ((Trust.mk a.Threshold ((([] : List Int) ++ a.Nodes) ++ ([x7.1] : List Int)) a.Inner), x7.2.1, x7.2.2)
 else
 bif eqB x5.1 2 then
 some ((Trust.mk a.Threshold [] a.Inner), x5.2.1, x5.2.2)
 else
 bif eqB x5.1 3 then
 capOk (List.length ([] : List Trust) + List.length a.Inner) <|
 capOk (List.length (([] : List Trust) ++ a.Inner) + List.length ([(Trust.mk 0 [] [])] : List Trust)) <|
 some ((Trust.mk a.Threshold a.Nodes ((([] : List Trust) ++ a.Inner) ++ ([(Trust.mk 0 [] [])] : List Trust))), x5.2.1, x5.2.2)
 else
 bif eqB x5.1 4 then
 Option.bind (z24 1 4 x5.2.1 x5.2.2) fun x8 =>
 z3n x8.1 x8.2.1 x8.2.2 a.Threshold a.Nodes a.Inner 0 [] [] a.Threshold a.Nodes a.Inner
 else
 Option.bind (z1n ([20, 60, 101] : List Int) x5.2.1 x5.2.2) fun x9 =>
 z34 [] x9.1 x9.2.1 x9.2.2 a.Threshold a.Nodes a.Inner 0 [] []
 else
 Option.bind (z1p 6 b c) fun x10 =>
 bif eqB x10.1 0 then
 Option.bind (z1n ([0, (-1), (addI .i64 (a.Nodes.length : Int) (a.Inner.length : Int)), (addI .i64 (addI .i64 (a.Nodes.length : Int) (a.Inner.length : Int)) 1)] : List Int) x10.2.1 x10.2.2) fun x11 =>
 some ((Trust.mk x11.1 a.Nodes a.Inner), x11.2.1, x11.2.2)
 else
 bif eqB x10.1 1 then
 capOk (List.length ([] : List Int) + List.length a.Nodes) <|
 Option.bind (z1n ([(-1), 0, 9, 10] : List Int) x10.2.1 x10.2.2) fun x12 =>
 capOk (List.length (([] : List Int) ++ a.Nodes) + List.length ([x12.1] : List Int)) <|
 some ((Trust.mk a.Threshold ((([] : List Int) ++ a.Nodes) ++ ([x12.1] : List Int)) a.Inner), x12.2.1, x12.2.2)
 else
 bif eqB x10.1 2 then
 some ((Trust.mk a.Threshold [] a.Inner), x10.2.1, x10.2.2)
 else
 bif eqB x10.1 3 then
 capOk (List.length ([] : List Trust) + List.length a.Inner) <|
 capOk (List.length (([] : List Trust) ++ a.Inner) + List.length ([(Trust.mk 0 [] [])] : List Trust)) <|
 some ((Trust.mk a.Threshold a.Nodes ((([] : List Trust) ++ a.Inner) ++ ([(Trust.mk 0 [] [])] : List Trust))), x10.2.1, x10.2.2)
 else
 bif eqB x10.1 4 then
 Option.bind (z24 1 4 x10.2.1 x10.2.2) fun x13 =>
 z3n x13.1 x13.2.1 x13.2.2 a.Threshold a.Nodes a.Inner 0 [] [] a.Threshold a.Nodes a.Inner
 else
 Option.bind (z1n ([20, 60, 101] : List Int) x10.2.1 x10.2.2) fun x14 =>
 z34 [] x14.1 x14.2.1 x14.2.2 a.Threshold a.Nodes a.Inner 0 [] []
 ) :=
 cL o6' Tryz.func80
theorem qne a b c : eL (z2v a b c) (
 Option.bind (z1p 5 b c) fun x0 =>
 bif eqB x0.1 0 then
 Option.bind (z1n ([(-1), 9, 10] : List Int) x0.2.1 x0.2.2) fun x1 =>
 some ((Message.mk x1.1 a.Seq (Trust.mk a.Trust.Threshold a.Trust.Nodes a.Trust.Inner) a.Votes a.Accepts), x1.2.1, x1.2.2)
 else
 bif eqB x0.1 1 then
 Option.bind (z1n ([0, (-1), (addI .i64 a.Seq 1)] : List Int) x0.2.1 x0.2.2) fun x2 =>
 some ((Message.mk a.Node x2.1 (Trust.mk a.Trust.Threshold a.Trust.Nodes a.Trust.Inner) a.Votes a.Accepts), x2.2.1, x2.2.2)
 else
 bif eqB x0.1 2 then
 Option.bind (z3p a.Trust x0.2.1 x0.2.2) fun x3 =>
 some ((Message.mk a.Node a.Seq (Trust.mk x3.1.Threshold x3.1.Nodes x3.1.Inner) a.Votes a.Accepts), x3.2.1, x3.2.2)
 else
 bif eqB x0.1 3 then
 Option.bind (z2n 4 x0.2.1 x0.2.2) fun x4 =>
 some ((Message.mk a.Node a.Seq (Trust.mk a.Trust.Threshold a.Trust.Nodes a.Trust.Inner) x4.1 a.Accepts), x4.2.1, x4.2.2)
 else
 Option.bind (z2n 4 x0.2.1 x0.2.2) fun x5 =>
 some ((Message.mk a.Node a.Seq (Trust.mk a.Trust.Threshold a.Trust.Nodes a.Trust.Inner) a.Votes x5.1), x5.2.1, x5.2.2)
 ) :=
 cL o20' Tryz.func41
theorem y1r a b c d : eL (z6z a b c d) (
 Option.bind (z6n a c d) fun x0 =>
 Option.bind (z24 1 (if 5 < a then 5 else a) x0.2.1 x0.2.2) fun x1 =>
 hiK (List.length x0.1) x1.1 fun b2 =>
 z50 a b (List.drop 0 (List.take b2 x0.1)) ((List.length (List.drop 0 (List.take b2 x0.1)) : Nat) : Int) 0 x1.2.1 x1.2.2 0 [] [] 0 [] []
 ) :=
 cL o6' Tryz.func47
theorem qsm a : eL (z2j a) (
 Option.bind (z6u a) fun x0 =>
 bif ltB 4 x0 then
 some 3
 else
 Option.bind (z75 a) fun x1 =>
 bif ltB 200 x1 then
 some 3
 else
 Option.bind (z45 a) fun x2 =>
 some x2
 ) :=
 cL o1' Tryz.func48
theorem y6x a : eL (z31 a) (
 Option.bind (z56 a) fun x0 =>
 bif ltB 4 x0 then
 some 3
 else
 Option.bind (z5o a) fun x1 =>
 bif ltB 200 x1 then
 some 3
 else
 Option.bind (z57 a) fun x2 =>
 some x2
 ) :=
 cL o1' Tryz.func45
theorem y9e a : eL (z52 a) (
 Option.bind (z3j a.Nodes) fun x0 =>
 z4a a.Inner (a.Inner.length : Int) 0 a.Threshold a.Nodes a.Inner 0 [] [] a.Threshold x0.2 []
 ) :=
 cL o12' Tryz.func46
theorem y5w a : eL (z53 a) (
 bif ltB a.Node 0 then
 some false
 else
 bif leB 10 a.Node then
 some false
 else
 bif ltB a.Seq 1 then
 some false
 else
 bif ltB 1000000 a.Seq then
 some false
 else
 Option.bind (z31 a.Trust) fun x0 =>
 bif neB x0 0 then
 some false
 else
 Option.bind (z47 a.Votes) fun x1 =>
 bif !x1 then
 some false
 else
 Option.bind (z47 a.Accepts) fun x2 =>
 bif !x2 then
 some false
 else
 Option.bind (z47 a.Confirms) fun x3 =>
 bif !x3 then
 some false
 else
 Option.bind (z6b a.Votes) fun x4 =>
 bif !x4 then
 some false
 else
 Option.bind (z6b a.Accepts) fun x5 =>
 bif !x5 then
 some false
 else
 Option.bind (z1k a.Confirms a.Node a.Seq a.Trust.Threshold a.Trust.Nodes a.Trust.Inner a.Votes a.Accepts a.Confirms a.Heard) fun x6 =>
 bif x6.1 then
 some false
 else
 z26 x6.2.2.2.2.2.2.2.2.2 (x6.2.2.2.2.2.2.2.2.2.length : Int) 0 x6.2.1 x6.2.2.1 x6.2.2.2.1 x6.2.2.2.2.1 x6.2.2.2.2.2.1 x6.2.2.2.2.2.2.1 x6.2.2.2.2.2.2.2.1 x6.2.2.2.2.2.2.2.2.1 x6.2.2.2.2.2.2.2.2.2
 ) :=
 cL o0' Tryz.func34
theorem y6c a : eL (z5v a) (
 bif leB 0 a.Topic then
 bif ltB a.Topic 8 then
 bif leB 0 a.Value then
 some (leB a.Value 15)
 else
 some false
 else
 some false
 else
 some false
 ) :=
 cL o0' Tryz.func49
theorem ya0 a b c : eL (z1e a b c) (
 Option.bind (z1m a b c) fun x0 =>
 some ((leB 0 x0.1), x0.2.1, x0.2.2)
 ) :=
 cL o22' Tryz.func52
theorem y7m a b : eL (z5j a b) (
 Option.bind (z2o a b) fun x0 =>
 some x0
 ) :=
 cL o0' Tryz.func53
theorem yam a : eL (z2u a) (
 Option.bind (z52 a.Trust) fun x0 =>
 Option.bind (z1a a.Votes) fun x1 =>
 Option.bind (z1a a.Accepts) fun x2 =>
 Option.bind (z1a a.Confirms) fun x3 =>
 z4b a.Heard (a.Heard.length : Int) 0 a.Node a.Seq x0.Threshold x0.Nodes x0.Inner x1.2 x2.2 x3.2 [] 0 0 0 [] [] [] [] [] []
 ) :=
 cL o4' Tryz.func54
theorem yai a b : eL (z6l a b) (
 Option.bind (z70 a ([b] : List Claim)) fun x0 =>
 some x0
 ) :=
 cL o2' Tryz.func55
end Go.Proofs.YthbpagedblodfaaGreat
