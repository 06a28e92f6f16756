/- What the functions come to, printed by a program and checked by the kernel. -/
import Derived.Test.YthbpagedblodfaaGreatP19Df
namespace Go.Proofs.YthbpagedblodfaaGreat
open Go Go.Ab
set_option maxRecDepth 100000
theorem law19_VotingKeeps_le (t_0 : List Int) : Le (
 Option.bind (z6q t_0) fun x0 =>
 Option.bind (law19_played 4 8 x0.2.1 x0.2.2) fun x1 =>
 bif x1.2.1 then
 Option.bind (law19_awake) fun x2 =>
 some x2
 else
 some false
 ) (law19_VotingKeeps t_0) :=
 cL o0' Tryz.func4
theorem law19_VotingNumbers_le (t_0 : List Int) : Le (
 Option.bind (z6q t_0) fun x0 =>
 Option.bind (law19_played 4 5 x0.2.1 x0.2.2) fun x1 =>
 bif !x1.2.1 then
 some false
 else
 z1x 1 x1.2.2.1 x1.2.2.2 x1.1.Node x1.1.Seq x1.1.Trust.Threshold x1.1.Trust.Nodes x1.1.Trust.Inner x1.1.Votes x1.1.Accepts x1.1.Confirms x1.1.Heard
 ) (law19_VotingNumbers t_0) :=
 cL o0' Tryz.func6
theorem law19_VotingSettles_le (t_0 : List Int) : Le (
 Option.bind (z6q t_0) fun x0 =>
 Option.bind (law19_played 4 6 x0.2.1 x0.2.2) fun x1 =>
 Option.bind (z5n 4 2 x1.2.2.1 x1.2.2.2) fun x2 =>
 Option.bind (z22 3 x2.2.1 x2.2.2) fun x3 =>
 Option.bind (z22 3 x3.2.1 x3.2.2) fun x4 =>
 Option.bind (z4f ([(Claim.mk x3.1 x4.1)] : List Claim)) fun x5 =>
 Option.bind (z4y x1.1 (Message.mk (remI .i64 (addI .i64 x1.1.Node 1) 4) 100 (Trust.mk x2.1.Threshold x2.1.Nodes x2.1.Inner) x5 ([] : List Claim))) fun x6 =>
 bif !x1.2.1 then
 some false
 else
 bif neB x6.2 0 then
 some false
 else
 Option.bind (z6d x6.1) fun x7 =>
 z27 x7 (x7.length : Int) 0 x4.2.1 x4.2.2 x1.1.Node x1.1.Seq x1.1.Trust.Threshold x1.1.Trust.Nodes x1.1.Trust.Inner x1.1.Votes x1.1.Accepts x1.1.Confirms x1.1.Heard x6.1.Node x6.1.Seq x6.1.Trust.Threshold x6.1.Trust.Nodes x6.1.Trust.Inner x6.1.Votes x6.1.Accepts x6.1.Confirms x6.1.Heard
 ) (law19_VotingSettles t_0) :=
 cL o0' Tryz.func5
theorem law19_awake_le  : Le (
 Option.bind (z5q 3 (Trust.mk 1 ([3] : List Int) ([] : List Trust))) fun x0 =>
 Option.bind (z4x x0.1 (Claim.mk 1 2)) fun x1 =>
 Option.bind (z4x x1.1 (Claim.mk 1 3)) fun x2 =>
 bif eqB x0.2 0 then
 bif eqB x1.2 0 then
 bif eqB x2.2 14 then
 bif (eqB (x1.1.Confirms.length : Int) 1) then
 bif eqB x1.1.Seq 2 then
 Option.bind (z6l x1.1) fun x3 =>
 some (eqB (x3.Accepts.length : Int) 1)
 else
 some false
 else
 some false
 else
 some false
 else
 some false
 else
 some false
 ) (law19_awake) :=
 cL o0' Tryz.func16
theorem y02 (l_0 : List Int) : Le (
 hiK (List.length l_0) (if 400 < (l_0.length : Int) then 400 else (l_0.length : Int)) fun b0 =>
 some ((), (List.drop 0 (List.take b0 l_0)), 0)
 ) (z6q l_0) :=
 cL o28' Tryz.func8
theorem y5t (n_1 : Int) (h0 : List Int) (h1 : Int) : Le (
 Option.bind (z22 n_1 h0 h1) fun x0 =>
 Option.bind (z2m 1 5 x0.2.1 x0.2.2) fun x1 =>
 Option.bind (z5n n_1 2 x1.2.1 x1.2.2) fun x2 =>
 Option.bind (z5w 3 x2.2.1 x2.2.2) fun x3 =>
 Option.bind (z4f x3.1) fun x4 =>
 Option.bind (z5w 2 x3.2.1 x3.2.2) fun x5 =>
 Option.bind (z4f x5.1) fun x6 =>
 some ((Message.mk x0.1 x1.1 (Trust.mk x2.1.Threshold x2.1.Nodes x2.1.Inner) x4 x6), x5.2.1, x5.2.2)
 ) (z69 n_1 h0 h1) :=
 cL o29' Tryz.func26
theorem law19_played_le (n_1 m_2 : Int) (h0 : List Int) (h1 : Int) : Le (
 Option.bind (z22 n_1 h0 h1) fun x0 =>
 Option.bind (z5n n_1 2 x0.2.1 x0.2.2) fun x1 =>
 Option.bind (z5q x0.1 x1.1) fun x2 =>
 bif neB x2.2 0 then
 some ((Voter.mk x2.1.Node x2.1.Seq (Trust.mk x2.1.Trust.Threshold x2.1.Trust.Nodes x2.1.Trust.Inner) x2.1.Votes x2.1.Accepts x2.1.Confirms x2.1.Heard), false, x1.2.1, x1.2.2)
 else
 z1e n_1 m_2 1 x1.2.1 x1.2.2 0 0 0 ([] : List Int) ([] : List Trust) ([] : List Claim) ([] : List Claim) ([] : List Claim) ([] : List Message) x2.1.Node x2.1.Seq x2.1.Trust.Threshold x2.1.Trust.Nodes x2.1.Trust.Inner x2.1.Votes x2.1.Accepts x2.1.Confirms x2.1.Heard
 ) (law19_played n_1 m_2 h0 h1) :=
 cL o19' Tryz.func17
theorem y1m (n_1 deep_2 : Int) (h0 : List Int) (h1 : Int) : Le (
 Option.bind (z67 n_1 deep_2 h0 h1) fun x0 =>
 Option.bind (z32 x0.1) fun x1 =>
 bif neB x1 0 then
 Option.bind (z22 n_1 x0.2.1 x0.2.2) fun x2 =>
 some ((Trust.mk 1 ([x2.1] : List Int) ([] : List Trust)), x2.2.1, x2.2.2)
 else
 some ((Trust.mk x0.1.Threshold x0.1.Nodes x0.1.Inner), x0.2.1, x0.2.2)
 ) (z5n n_1 deep_2 h0 h1) :=
 cL o9' Tryz.func10
theorem y7m (node_0 : Int) (t_1 : Trust) : Le (
 bif ltB node_0 0 then
 some ((Voter.mk 0 0 (Trust.mk 0 ([] : List Int) ([] : List Trust)) ([] : List Claim) ([] : List Claim) ([] : List Claim) ([] : List Message)), 5)
 else
 bif leB 10 node_0 then
 some ((Voter.mk 0 0 (Trust.mk 0 ([] : List Int) ([] : List Trust)) ([] : List Claim) ([] : List Claim) ([] : List Claim) ([] : List Message)), 5)
 else
 Option.bind (z2t t_1) fun x0 =>
 bif neB x0 0 then
 some ((Voter.mk 0 0 (Trust.mk 0 ([] : List Int) ([] : List Trust)) ([] : List Claim) ([] : List Claim) ([] : List Claim) ([] : List Message)), x0)
 else
 Option.bind (z4g t_1) fun x1 =>
 some ((Voter.mk node_0 1 (Trust.mk x1.Threshold x1.Nodes x1.Inner) ([] : List Claim) ([] : List Claim) ([] : List Claim) ([] : List Message)), 0)
 ) (z5q node_0 t_1) :=
 cL o10' Tryz.func9
theorem y5c (v_0 : Voter) (x_1 : Claim) : Le (
 Option.bind (z2w v_0) fun x0 =>
 bif !x0 then
 some ((Voter.mk 0 0 (Trust.mk 0 ([] : List Int) ([] : List Trust)) ([] : List Claim) ([] : List Claim) ([] : List Claim) ([] : List Message)), 1)
 else
 Option.bind (z5b x_1) fun x1 =>
 bif !x1 then
 some ((Voter.mk 0 0 (Trust.mk 0 ([] : List Int) ([] : List Trust)) ([] : List Claim) ([] : List Claim) ([] : List Claim) ([] : List Message)), 1)
 else
 Option.bind (z1c v_0.Votes x_1.Topic x_1.Value) fun x2 =>
 bif x2.1 then
 some ((Voter.mk 0 0 (Trust.mk 0 ([] : List Int) ([] : List Trust)) ([] : List Claim) ([] : List Claim) ([] : List Claim) ([] : List Message)), 14)
 else
 Option.bind (z1c v_0.Accepts x2.2.1 x2.2.2) fun x3 =>
 bif x3.1 then
 some ((Voter.mk 0 0 (Trust.mk 0 ([] : List Int) ([] : List Trust)) ([] : List Claim) ([] : List Claim) ([] : List Claim) ([] : List Message)), 14)
 else
 Option.bind (z4w v_0.Votes (Claim.mk x3.2.1 x3.2.2)) fun x4 =>
 bif x4 then
 Option.bind (z2n v_0) fun x5 =>
 some ((Voter.mk x5.Node x5.Seq (Trust.mk x5.Trust.Threshold x5.Trust.Nodes x5.Trust.Inner) x5.Votes x5.Accepts x5.Confirms x5.Heard), 0)
 else
 Option.bind (z5x v_0.Votes (Claim.mk x3.2.1 x3.2.2)) fun x6 =>
 Option.bind (z33 v_0 (Voter.mk v_0.Node v_0.Seq (Trust.mk v_0.Trust.Threshold v_0.Trust.Nodes v_0.Trust.Inner) x6 v_0.Accepts v_0.Confirms v_0.Heard)) fun x7 =>
 some ((Voter.mk x7.Node x7.Seq (Trust.mk x7.Trust.Threshold x7.Trust.Nodes x7.Trust.Inner) x7.Votes x7.Accepts x7.Confirms x7.Heard), 0)
 ) (z4x v_0 x_1) :=
 cL o10' Tryz.func11
theorem qwe (n_1 : Int) (h0 : List Int) (h1 : Int) : Le (
 bif (leB (h0.length : Int) h1) then
 some (0, h0, h1)
 else
 nth h0 h1 fun y0 =>
 chk (n_1 ≠ 0) <|
 bif ltB (remI .i64 y0 n_1) 0 then
 some ((addI .i64 (remI .i64 y0 n_1) n_1), h0, (addI .i64 h1 1))
 else
 some ((remI .i64 y0 n_1), h0, (addI .i64 h1 1))
 ) (z22 n_1 h0 h1) :=
 cL o16' Tryz.func12
theorem y60 (l_0 : List Claim) : Le (
 z2v l_0 ([] : List Claim) 0
 ) (z4f l_0) :=
 cL o3' Tryz.func18
theorem y6i (v_0 : Voter) (m_1 : Message) : Le (
 Option.bind (z2w v_0) fun x0 =>
 bif !x0 then
 some ((Voter.mk 0 0 (Trust.mk 0 ([] : List Int) ([] : List Trust)) ([] : List Claim) ([] : List Claim) ([] : List Claim) ([] : List Message)), 1)
 else
 Option.bind (z2u m_1) fun x1 =>
 bif !x1 then
 some ((Voter.mk 0 0 (Trust.mk 0 ([] : List Int) ([] : List Trust)) ([] : List Claim) ([] : List Claim) ([] : List Claim) ([] : List Message)), 1)
 else
 bif eqB m_1.Node v_0.Node then
 some ((Voter.mk 0 0 (Trust.mk 0 ([] : List Int) ([] : List Trust)) ([] : List Claim) ([] : List Claim) ([] : List Claim) ([] : List Message)), 1)
 else
 Option.bind (z17 v_0.Heard m_1.Node) fun x2 =>
 bif x2.2 then
 nth v_0.Heard x2.1 fun y3 =>
 bif leB m_1.Seq y3.Seq then
 some ((Voter.mk 0 0 (Trust.mk 0 ([] : List Int) ([] : List Trust)) ([] : List Claim) ([] : List Claim) ([] : List Claim) ([] : List Message)), 9)
 else
 Option.bind (z1p v_0.Heard) fun x4 =>
 bif x2.2 then
 nth x4.2 x2.1 fun _ =>
 nthN x4.2 (Int.toNat x2.1) fun _y5 =>
 Option.bind (z33 v_0 (Voter.mk v_0.Node v_0.Seq (Trust.mk v_0.Trust.Threshold v_0.Trust.Nodes v_0.Trust.Inner) v_0.Votes v_0.Accepts v_0.Confirms (List.set x4.2 (Int.toNat x2.1) (Message.mk m_1.Node m_1.Seq (Trust.mk m_1.Trust.Threshold m_1.Trust.Nodes m_1.Trust.Inner) m_1.Votes m_1.Accepts)))) fun x6 =>
 some ((Voter.mk x6.Node x6.Seq (Trust.mk x6.Trust.Threshold x6.Trust.Nodes x6.Trust.Inner) x6.Votes x6.Accepts x6.Confirms x6.Heard), 0)
 else
 Option.bind (z4h x2.1 ([(Message.mk m_1.Node m_1.Seq (Trust.mk m_1.Trust.Threshold m_1.Trust.Nodes m_1.Trust.Inner) m_1.Votes m_1.Accepts)] : List Message) x4.2) fun x7 =>
 Option.bind (z33 v_0 (Voter.mk v_0.Node v_0.Seq (Trust.mk v_0.Trust.Threshold v_0.Trust.Nodes v_0.Trust.Inner) v_0.Votes v_0.Accepts v_0.Confirms x7.1)) fun x8 =>
 some ((Voter.mk x8.Node x8.Seq (Trust.mk x8.Trust.Threshold x8.Trust.Nodes x8.Trust.Inner) x8.Votes x8.Accepts x8.Confirms x8.Heard), 0)
 else
 Option.bind (z1p v_0.Heard) fun x9 =>
 bif x2.2 then
 nth x9.2 x2.1 fun _ =>
 nthN x9.2 (Int.toNat x2.1) fun _y10 =>
 Option.bind (z33 v_0 (Voter.mk v_0.Node v_0.Seq (Trust.mk v_0.Trust.Threshold v_0.Trust.Nodes v_0.Trust.Inner) v_0.Votes v_0.Accepts v_0.Confirms (List.set x9.2 (Int.toNat x2.1) (Message.mk m_1.Node m_1.Seq (Trust.mk m_1.Trust.Threshold m_1.Trust.Nodes m_1.Trust.Inner) m_1.Votes m_1.Accepts)))) fun x11 =>
 some ((Voter.mk x11.Node x11.Seq (Trust.mk x11.Trust.Threshold x11.Trust.Nodes x11.Trust.Inner) x11.Votes x11.Accepts x11.Confirms x11.Heard), 0)
 else
 Option.bind (z4h x2.1 ([(Message.mk m_1.Node m_1.Seq (Trust.mk m_1.Trust.Threshold m_1.Trust.Nodes m_1.Trust.Inner) m_1.Votes m_1.Accepts)] : List Message) x9.2) fun x12 =>
 Option.bind (z33 v_0 (Voter.mk v_0.Node v_0.Seq (Trust.mk v_0.Trust.Threshold v_0.Trust.Nodes v_0.Trust.Inner) v_0.Votes v_0.Accepts v_0.Confirms x12.1)) fun x13 =>
 some ((Voter.mk x13.Node x13.Seq (Trust.mk x13.Trust.Threshold x13.Trust.Nodes x13.Trust.Inner) x13.Votes x13.Accepts x13.Confirms x13.Heard), 0)
 ) (z4y v_0 m_1) :=
 cL o10' Tryz.func14
theorem y69 (v_0 : Voter) : Le (
 Option.bind (z6j v_0) fun x0 =>
 z6c ([] : List Claim) x0 (x0.length : Int) 0 v_0.Node v_0.Seq v_0.Trust.Threshold v_0.Trust.Nodes v_0.Trust.Inner v_0.Votes v_0.Accepts v_0.Confirms v_0.Heard
 ) (z6d v_0) :=
 cL o3' Tryz.func19
theorem y6f (v_0 : Voter) : Le (
 Option.bind (z5y v_0) fun x0 =>
 Option.bind (z34 x0) fun x1 =>
 some (Message.mk x1.Node x1.Seq (Trust.mk x1.Trust.Threshold x1.Trust.Nodes x1.Trust.Inner) x1.Votes x1.Accepts)
 ) (z6l v_0) :=
 cL o11' Tryz.func37
theorem y4d (a_1 b_2 : Int) (h0 : List Int) (h1 : Int) : Le (
 Option.bind (z22 (addI .i64 (subI .i64 b_2 a_1) 1) h0 h1) fun x0 =>
 some ((addI .i64 a_1 x0.1), x0.2.1, x0.2.2)
 ) (z2m a_1 b_2 h0 h1) :=
 cL o16' Tryz.func73
theorem y8b (n_1 : Int) (h0 : List Int) (h1 : Int) : Le (
 Option.bind (z22 (addI .i64 n_1 1) h0 h1) fun x0 =>
 z5c ([] : List Claim) x0.1 x0.2.1 x0.2.2
 ) (z5w n_1 h0 h1) :=
 cL o20' Tryz.func74
theorem y61 (l_1 h0 : List Int) (h1 : Int) : Le (
 Option.bind (z22 (l_1.length : Int) h0 h1) fun x0 =>
 nth l_1 x0.1 fun y1 =>
 some (y1, x0.2.1, x0.2.2)
 ) (z5a l_1 h0 h1) :=
 cL o16' Tryz.func79
theorem y0o (n_1 deep_2 : Int) (h0 : List Int) (h1 : Int) : Le (
 Option.bind (z5z n_1 h0 h1) fun x0 =>
 Option.bind (z2m 1 (if 5 < n_1 then 5 else n_1) x0.2.1 x0.2.2) fun x1 =>
 hiK (List.length x0.1) x1.1 fun b2 =>
 z4d n_1 deep_2 (List.drop 0 (List.take b2 x0.1)) ((List.length (List.drop 0 (List.take b2 x0.1)) : Nat) : Int) 0 x1.2.1 x1.2.2 0 ([] : List Int) ([] : List Trust) 0 ([] : List Int) ([] : List Trust)
 ) (z67 n_1 deep_2 h0 h1) :=
 cL o9' Tryz.func47
theorem qrr (t_0 : Trust) : Le (
 Option.bind (z64 t_0) fun x0 =>
 bif ltB 4 x0 then
 some 3
 else
 Option.bind (z6a t_0) fun x1 =>
 bif ltB 200 x1 then
 some 3
 else
 Option.bind (z3o t_0) fun x2 =>
 some x2
 ) (z32 t_0) :=
 cL o1' Tryz.func48
theorem y8g (t_0 : Trust) : Le (
 Option.bind (z4k t_0) fun x0 =>
 bif ltB 4 x0 then
 some 3
 else
 Option.bind (z52 t_0) fun x1 =>
 bif ltB 200 x1 then
 some 3
 else
 Option.bind (z4l t_0) fun x2 =>
 some x2
 ) (z2t t_0) :=
 cL o1' Tryz.func45
theorem y6e (t_0 : Trust) : Le (
 Option.bind (z37 t_0.Nodes) fun x0 =>
 z3s t_0.Inner (t_0.Inner.length : Int) 0 t_0.Threshold t_0.Nodes t_0.Inner 0 ([] : List Int) ([] : List Trust) t_0.Threshold x0.2 ([] : List Trust)
 ) (z4g t_0) :=
 cL o12' Tryz.func46
theorem y3o (v_0 : Voter) : Le (
 bif ltB v_0.Node 0 then
 some false
 else
 bif leB 10 v_0.Node then
 some false
 else
 bif ltB v_0.Seq 1 then
 some false
 else
 bif ltB 1000000 v_0.Seq then
 some false
 else
 Option.bind (z2t v_0.Trust) fun x0 =>
 bif neB x0 0 then
 some false
 else
 Option.bind (z3q v_0.Votes) fun x1 =>
 bif !x1 then
 some false
 else
 Option.bind (z3q v_0.Accepts) fun x2 =>
 bif !x2 then
 some false
 else
 Option.bind (z3q v_0.Confirms) fun x3 =>
 bif !x3 then
 some false
 else
 Option.bind (z5p v_0.Votes) fun x4 =>
 bif !x4 then
 some false
 else
 Option.bind (z5p v_0.Accepts) fun x5 =>
 bif !x5 then
 some false
 else
 Option.bind (z1i v_0.Confirms v_0.Node v_0.Seq v_0.Trust.Threshold v_0.Trust.Nodes v_0.Trust.Inner v_0.Votes v_0.Accepts v_0.Confirms v_0.Heard) fun x6 =>
 bif x6.1 then
 some false
 else
 z23 x6.2.2.2.2.2.2.2.2.2 (x6.2.2.2.2.2.2.2.2.2.length : Int) 0 x6.2.1 x6.2.2.1 x6.2.2.2.1 x6.2.2.2.2.1 x6.2.2.2.2.2.1 x6.2.2.2.2.2.2.1 x6.2.2.2.2.2.2.2.1 x6.2.2.2.2.2.2.2.2.1 x6.2.2.2.2.2.2.2.2.2
 ) (z2w v_0) :=
 cL o0' Tryz.func34
theorem y59 (x_0 : Claim) : Le (
 bif leB 0 x_0.Topic then
 bif ltB x_0.Topic 8 then
 bif leB 0 x_0.Value then
 some (leB x_0.Value 15)
 else
 some false
 else
 some false
 else
 some false
 ) (z5b x_0) :=
 cL o0' Tryz.func49
theorem y8c (s_0 : List Claim) (h0 h1 : Int) : Le (
 Option.bind (z1k s_0 h0 h1) fun x0 =>
 some ((leB 0 x0.1), x0.2.1, x0.2.2)
 ) (z1c s_0 h0 h1) :=
 cL o21' Tryz.func52
theorem y87 (l_0 : List Claim) (x_1 : Claim) : Le (
 Option.bind (z2i l_0 x_1) fun x0 =>
 some x0
 ) (z4w l_0 x_1) :=
 cL o0' Tryz.func53
theorem y4t (v_0 : Voter) : Le (
 Option.bind (z4g v_0.Trust) fun x0 =>
 Option.bind (z18 v_0.Votes) fun x1 =>
 Option.bind (z18 v_0.Accepts) fun x2 =>
 Option.bind (z18 v_0.Confirms) fun x3 =>
 z3t v_0.Heard (v_0.Heard.length : Int) 0 v_0.Node v_0.Seq x0.Threshold x0.Nodes x0.Inner x1.2 x2.2 x3.2 ([] : List Message) 0 0 0 ([] : List Int) ([] : List Trust) ([] : List Claim) ([] : List Claim) ([] : List Claim) ([] : List Message)
 ) (z2n v_0) :=
 cL o7' Tryz.func54
theorem y6x (l_0 : List Claim) (x_1 : Claim) : Le (
 Option.bind (z68 l_0 ([x_1] : List Claim)) fun x0 =>
 some x0
 ) (z5x l_0 x_1) :=
 cL o3' Tryz.func55
end Go.Proofs.YthbpagedblodfaaGreat
