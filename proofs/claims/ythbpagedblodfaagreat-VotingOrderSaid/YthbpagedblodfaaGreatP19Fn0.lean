/- What the functions come to, printed by a program and checked by the kernel. -/
import Derived.Test.YthbpagedblodfaaGreatP19Df
namespace Go.Proofs.YthbpagedblodfaaGreat
open Go Go.Ab
set_option maxRecDepth 100000
theorem law19_VotingOrder_le a : eL (law19_VotingOrder a) (
 Option.bind (z53 a) fun x0 =>
 Option.bind (z4q 4 2 x0.2.1 x0.2.2) fun x1 =>
 Option.bind (z4d 0 x1.1) fun x2 =>
 bif neB x2.2 0 then
 some false
 else
 Option.bind (z3v x2.1 (Claim.mk 0 1)) fun x3 =>
 bif neB x3.2 0 then
 some false
 else
 z1x [] 1 x1.2.1 x1.2.2 x2.1.Node x2.1.Seq x2.1.Trust.Threshold x2.1.Trust.Nodes x2.1.Trust.Inner x2.1.Votes x2.1.Accepts x2.1.Confirms x2.1.Heard x3.1.Node x3.1.Seq x3.1.Trust.Threshold x3.1.Trust.Nodes x3.1.Trust.Inner x3.1.Votes x3.1.Accepts x3.1.Confirms x3.1.Heard
 ) :=
 cL o0' Tryz.func3
theorem law19_awake_le  : Le (
 Option.bind (z4d 3 (Trust.mk 1 ([3] : List Int) ([] : List Trust))) fun x0 =>
 Option.bind (z3v x0.1 (Claim.mk 1 2)) fun x1 =>
 Option.bind (z3v x1.1 (Claim.mk 1 3)) fun x2 =>
 bif eqB x0.2 0 then
 bif eqB x1.2 0 then
 bif eqB x2.2 14 then
 bif (eqB (x1.1.Confirms.length : Int) 1) then
 bif eqB x1.1.Seq 2 then
 Option.bind (z4x x1.1) fun x3 =>
 some (eqB (x3.Accepts.length : Int) 1)
 else
 some false
 else
 some false
 else
 some false
 else
 some false
 else
 some false
 ) (law19_awake) :=
 cL o0' Tryz.func16
theorem qyg a : eL (z53 a) (
 hiK (List.length a) (if 400 < (a.length : Int) then 400 else (a.length : Int)) fun b0 =>
 some ((), (List.drop 0 (List.take b0 a)), 0)
 ) :=
 cL o26' Tryz.func8
theorem qxw a b c d : eL (z4q a b c d) (
 Option.bind (z4s a b c d) fun x0 =>
 Option.bind (z4a x0.1) fun x1 =>
 bif neB x1 0 then
 Option.bind (z2r a x0.2.1 x0.2.2) fun x2 =>
 some ((Trust.mk 1 ([x2.1] : List Int) []), x2.2.1, x2.2.2)
 else
 some ((Trust.mk x0.1.Threshold x0.1.Nodes x0.1.Inner), x0.2.1, x0.2.2)
 ) :=
 cL o8' Tryz.func10
theorem y2v a b : eL (z4d a b) (
 bif ltB a 0 then
 some ((Voter.mk 0 0 (Trust.mk 0 [] []) [] [] [] []), 5)
 else
 bif leB 10 a then
 some ((Voter.mk 0 0 (Trust.mk 0 [] []) [] [] [] []), 5)
 else
 Option.bind (z2s b) fun x0 =>
 bif neB x0 0 then
 some ((Voter.mk 0 0 (Trust.mk 0 [] []) [] [] [] []), x0)
 else
 Option.bind (z3h b) fun x1 =>
 some ((Voter.mk a 1 (Trust.mk x1.Threshold x1.Nodes x1.Inner) [] [] [] []), 0)
 ) :=
 cL o12' Tryz.func9
theorem y1t a b : eL (z3v a b) (
 Option.bind (z4e a) fun x0 =>
 bif !x0 then
 some ((Voter.mk 0 0 (Trust.mk 0 [] []) [] [] [] []), 1)
 else
 Option.bind (z42 b) fun x1 =>
 bif !x1 then
 some ((Voter.mk 0 0 (Trust.mk 0 [] []) [] [] [] []), 1)
 else
 Option.bind (z1c a.Votes b.Topic b.Value) fun x2 =>
 bif x2.1 then
 some ((Voter.mk 0 0 (Trust.mk 0 [] []) [] [] [] []), 14)
 else
 Option.bind (z1c a.Accepts x2.2.1 x2.2.2) fun x3 =>
 bif x3.1 then
 some ((Voter.mk 0 0 (Trust.mk 0 [] []) [] [] [] []), 14)
 else
 Option.bind (z3u a.Votes (Claim.mk x3.2.1 x3.2.2)) fun x4 =>
 bif x4 then
 Option.bind (z2c a) fun x5 =>
 some ((Voter.mk x5.Node x5.Seq (Trust.mk x5.Trust.Threshold x5.Trust.Nodes x5.Trust.Inner) x5.Votes x5.Accepts x5.Confirms x5.Heard), 0)
 else
 Option.bind (z4j a.Votes (Claim.mk x3.2.1 x3.2.2)) fun x6 =>
 Option.bind (z2t a (Voter.mk a.Node a.Seq (Trust.mk a.Trust.Threshold a.Trust.Nodes a.Trust.Inner) x6 a.Accepts a.Confirms a.Heard)) fun x7 =>
 some ((Voter.mk x7.Node x7.Seq (Trust.mk x7.Trust.Threshold x7.Trust.Nodes x7.Trust.Inner) x7.Votes x7.Accepts x7.Confirms x7.Heard), 0)
 ) :=
 cL o12' Tryz.func11
theorem quv a b c : eL (z2r a b c) (
 bif (leB (b.length : Int) c) then
 some (0, b, c)
 else
 nth b c fun y0 =>
 chk (a ≠ 0) <|
 bif ltB (remI .i64 y0 a) 0 then
 some ((addI .i64 (remI .i64 y0 a) a), b, (addI .i64 c 1))
 else
 some ((remI .i64 y0 a), b, (addI .i64 c 1))
 ) :=
 cL o13' Tryz.func12
theorem y0k a b : eL (z3w a b) (
 Option.bind (z4e a) fun x0 =>
 bif !x0 then
 some ((Voter.mk 0 0 (Trust.mk 0 [] []) [] [] [] []), 1)
 else
 Option.bind (z2b b) fun x1 =>
 bif !x1 then
 some ((Voter.mk 0 0 (Trust.mk 0 [] []) [] [] [] []), 1)
 else
 bif eqB b.Node a.Node then
 some ((Voter.mk 0 0 (Trust.mk 0 [] []) [] [] [] []), 1)
 else
 Option.bind (z17 a.Heard b.Node) fun x2 =>
 bif x2.2 then
 nth a.Heard x2.1 fun y3 =>
 bif leB b.Seq y3.Seq then
 some ((Voter.mk 0 0 (Trust.mk 0 [] []) [] [] [] []), 9)
 else
 Option.bind (z1n a.Heard) fun x4 =>
 bif x2.2 then
 nth x4.2 x2.1 fun _ =>
 nthN x4.2 (Int.toNat x2.1) fun _y5 =>
 Option.bind (z2t a (Voter.mk a.Node a.Seq (Trust.mk a.Trust.Threshold a.Trust.Nodes a.Trust.Inner) a.Votes a.Accepts a.Confirms (List.set x4.2 (Int.toNat x2.1) (Message.mk b.Node b.Seq (Trust.mk b.Trust.Threshold b.Trust.Nodes b.Trust.Inner) b.Votes b.Accepts)))) fun x6 =>
 some ((Voter.mk x6.Node x6.Seq (Trust.mk x6.Trust.Threshold x6.Trust.Nodes x6.Trust.Inner) x6.Votes x6.Accepts x6.Confirms x6.Heard), 0)
 else
 Option.bind (z3i x2.1 ([(Message.mk b.Node b.Seq (Trust.mk b.Trust.Threshold b.Trust.Nodes b.Trust.Inner) b.Votes b.Accepts)] : List Message) x4.2) fun x7 =>
 Option.bind (z2t a (Voter.mk a.Node a.Seq (Trust.mk a.Trust.Threshold a.Trust.Nodes a.Trust.Inner) a.Votes a.Accepts a.Confirms x7.1)) fun x8 =>
 some ((Voter.mk x8.Node x8.Seq (Trust.mk x8.Trust.Threshold x8.Trust.Nodes x8.Trust.Inner) x8.Votes x8.Accepts x8.Confirms x8.Heard), 0)
 else
 Option.bind (z1n a.Heard) fun x9 =>
 bif x2.2 then
 nth x9.2 x2.1 fun _ =>
 nthN x9.2 (Int.toNat x2.1) fun _y10 =>
 Option.bind (z2t a (Voter.mk a.Node a.Seq (Trust.mk a.Trust.Threshold a.Trust.Nodes a.Trust.Inner) a.Votes a.Accepts a.Confirms (List.set x9.2 (Int.toNat x2.1) (Message.mk b.Node b.Seq (Trust.mk b.Trust.Threshold b.Trust.Nodes b.Trust.Inner) b.Votes b.Accepts)))) fun x11 =>
 some ((Voter.mk x11.Node x11.Seq (Trust.mk x11.Trust.Threshold x11.Trust.Nodes x11.Trust.Inner) x11.Votes x11.Accepts x11.Confirms x11.Heard), 0)
 else
 Option.bind (z3i x2.1 ([(Message.mk b.Node b.Seq (Trust.mk b.Trust.Threshold b.Trust.Nodes b.Trust.Inner) b.Votes b.Accepts)] : List Message) x9.2) fun x12 =>
 Option.bind (z2t a (Voter.mk a.Node a.Seq (Trust.mk a.Trust.Threshold a.Trust.Nodes a.Trust.Inner) a.Votes a.Accepts a.Confirms x12.1)) fun x13 =>
 some ((Voter.mk x13.Node x13.Seq (Trust.mk x13.Trust.Threshold x13.Trust.Nodes x13.Trust.Inner) x13.Votes x13.Accepts x13.Confirms x13.Heard), 0)
 ) :=
 cL o12' Tryz.func14
theorem y35 a : eL (z4x a) (
 Option.bind (z4k a) fun x0 =>
 Option.bind (z2j x0) fun x1 =>
 some (Message.mk x1.Node x1.Seq (Trust.mk x1.Trust.Threshold x1.Trust.Nodes x1.Trust.Inner) x1.Votes x1.Accepts)
 ) :=
 cL o14' Tryz.func37
theorem y4f a b c d : eL (z2i a b c d) (
 Option.bind (z2r (addI .i64 (subI .i64 b a) 1) c d) fun x0 =>
 some ((addI .i64 a x0.1), x0.2.1, x0.2.2)
 ) :=
 cL o13' Tryz.func73
theorem y22 a b c : eL (z4r a b c) (
 Option.bind (z2r (a.length : Int) b c) fun x0 =>
 nth a x0.1 fun y1 =>
 some (y1, x0.2.1, x0.2.2)
 ) :=
 cL o13' Tryz.func79
theorem qxr a b c d : eL (z4s a b c d) (
 Option.bind (z39 a c d) fun x0 =>
 Option.bind (z2i 1 (if 5 < a then 5 else a) x0.2.1 x0.2.2) fun x1 =>
 hiK (List.length x0.1) x1.1 fun b2 =>
 z3e a b (List.drop 0 (List.take b2 x0.1)) ((List.length (List.drop 0 (List.take b2 x0.1)) : Nat) : Int) 0 x1.2.1 x1.2.2 0 [] [] 0 [] []
 ) :=
 cL o8' Tryz.func47
theorem qva a : eL (z4a a) (
 Option.bind (z4o a) fun x0 =>
 bif ltB 4 x0 then
 some 3
 else
 Option.bind (z4u a) fun x1 =>
 bif ltB 200 x1 then
 some 3
 else
 Option.bind (z3x a) fun x2 =>
 some x2
 ) :=
 cL o1' Tryz.func48
theorem y0w a : eL (z2s a) (
 Option.bind (z3j a) fun x0 =>
 bif ltB 4 x0 then
 some 3
 else
 Option.bind (z3y a) fun x1 =>
 bif ltB 200 x1 then
 some 3
 else
 Option.bind (z3k a) fun x2 =>
 some x2
 ) :=
 cL o1' Tryz.func45
theorem y3a a : eL (z3h a) (
 Option.bind (z2o a.Nodes) fun x0 =>
 z32 a.Inner (a.Inner.length : Int) 0 a.Threshold a.Nodes a.Inner 0 [] [] a.Threshold x0.2 []
 ) :=
 cL o9' Tryz.func46
theorem y0o a : eL (z4e a) (
 bif ltB a.Node 0 then
 some false
 else
 bif leB 10 a.Node then
 some false
 else
 bif ltB a.Seq 1 then
 some false
 else
 bif ltB 1000000 a.Seq then
 some false
 else
 Option.bind (z2s a.Trust) fun x0 =>
 bif neB x0 0 then
 some false
 else
 Option.bind (z31 a.Votes) fun x1 =>
 bif !x1 then
 some false
 else
 Option.bind (z31 a.Accepts) fun x2 =>
 bif !x2 then
 some false
 else
 Option.bind (z31 a.Confirms) fun x3 =>
 bif !x3 then
 some false
 else
 Option.bind (z4c a.Votes) fun x4 =>
 bif !x4 then
 some false
 else
 Option.bind (z4c a.Accepts) fun x5 =>
 bif !x5 then
 some false
 else
 Option.bind (z1h a.Confirms a.Node a.Seq a.Trust.Threshold a.Trust.Nodes a.Trust.Inner a.Votes a.Accepts a.Confirms a.Heard) fun x6 =>
 bif x6.1 then
 some false
 else
 z1y x6.2.2.2.2.2.2.2.2.2 (x6.2.2.2.2.2.2.2.2.2.length : Int) 0 x6.2.1 x6.2.2.1 x6.2.2.2.1 x6.2.2.2.2.1 x6.2.2.2.2.2.1 x6.2.2.2.2.2.2.1 x6.2.2.2.2.2.2.2.1 x6.2.2.2.2.2.2.2.2.1 x6.2.2.2.2.2.2.2.2.2
 ) :=
 cL o0' Tryz.func34
theorem y29 a : eL (z42 a) (
 bif leB 0 a.Topic then
 bif ltB a.Topic 8 then
 bif leB 0 a.Value then
 some (leB a.Value 15)
 else
 some false
 else
 some false
 else
 some false
 ) :=
 cL o0' Tryz.func49
theorem y4j a b c : eL (z1c a b c) (
 Option.bind (z1j a b c) fun x0 =>
 some ((leB 0 x0.1), x0.2.1, x0.2.2)
 ) :=
 cL o17' Tryz.func52
theorem y4p a b : eL (z3u a b) (
 Option.bind (z24 a b) fun x0 =>
 some x0
 ) :=
 cL o0' Tryz.func53
theorem y0s a : eL (z2c a) (
 Option.bind (z3h a.Trust) fun x0 =>
 Option.bind (z18 a.Votes) fun x1 =>
 Option.bind (z18 a.Accepts) fun x2 =>
 Option.bind (z18 a.Confirms) fun x3 =>
 z33 a.Heard (a.Heard.length : Int) 0 a.Node a.Seq x0.Threshold x0.Nodes x0.Inner x1.2 x2.2 x3.2 [] 0 0 0 [] [] [] [] [] []
 ) :=
 cL o6' Tryz.func54
theorem y2y a b : eL (z4j a b) (
 Option.bind (z4t a ([b] : List Claim)) fun x0 =>
 some x0
 ) :=
 cL o4' Tryz.func55
end Go.Proofs.YthbpagedblodfaaGreat
