/- What the functions come to, printed by a program and checked by the kernel. -/
import Derived.Test.YthbpagedblodfaaGreatP19Df
namespace Go.Proofs.YthbpagedblodfaaGreat
open Go Go.Ab
set_option maxRecDepth 100000
theorem y7t (before_0 v_1 : Voter) : Le (
 Option.bind (z5r v_1) fun x0 =>
 Option.bind (z3i before_0.Trust x0.Trust) fun x1 =>
 bif !x1 then
 Option.bind (z2n (Voter.mk x0.Node (addI .i64 x0.Seq 1) (Trust.mk x0.Trust.Threshold x0.Trust.Nodes x0.Trust.Inner) x0.Votes x0.Accepts x0.Confirms x0.Heard)) fun x2 =>
 some (Voter.mk x2.Node x2.Seq (Trust.mk x2.Trust.Threshold x2.Trust.Nodes x2.Trust.Inner) x2.Votes x2.Accepts x2.Confirms x2.Heard)
 else
 Option.bind (z2d before_0.Votes x0.Votes) fun x3 =>
 bif !x3 then
 Option.bind (z2n (Voter.mk x0.Node (addI .i64 x0.Seq 1) (Trust.mk x0.Trust.Threshold x0.Trust.Nodes x0.Trust.Inner) x0.Votes x0.Accepts x0.Confirms x0.Heard)) fun x4 =>
 some (Voter.mk x4.Node x4.Seq (Trust.mk x4.Trust.Threshold x4.Trust.Nodes x4.Trust.Inner) x4.Votes x4.Accepts x4.Confirms x4.Heard)
 else
 Option.bind (z2d before_0.Accepts x0.Accepts) fun x5 =>
 bif !x5 then
 Option.bind (z2n (Voter.mk x0.Node (addI .i64 x0.Seq 1) (Trust.mk x0.Trust.Threshold x0.Trust.Nodes x0.Trust.Inner) x0.Votes x0.Accepts x0.Confirms x0.Heard)) fun x6 =>
 some (Voter.mk x6.Node x6.Seq (Trust.mk x6.Trust.Threshold x6.Trust.Nodes x6.Trust.Inner) x6.Votes x6.Accepts x6.Confirms x6.Heard)
 else
 Option.bind (z2n x0) fun x7 =>
 some (Voter.mk x7.Node x7.Seq (Trust.mk x7.Trust.Threshold x7.Trust.Nodes x7.Trust.Inner) x7.Votes x7.Accepts x7.Confirms x7.Heard)
 ) (z33 before_0 v_1) :=
 cL o7' Tryz.func56
theorem y4j (m_0 : Message) : Le (
 Option.bind (z53 m_0.Node) fun x0 =>
 bif x0 then
 bif leB 1 m_0.Seq then
 Option.bind (z2t m_0.Trust) fun x1 =>
 bif eqB x1 0 then
 Option.bind (z3q m_0.Votes) fun x2 =>
 bif x2 then
 Option.bind (z3q m_0.Accepts) fun x3 =>
 some x3
 else
 some false
 else
 some false
 else
 some false
 else
 some false
 ) (z2u m_0) :=
 cL o0' Tryz.func57
theorem y7n (x_0 : List Message) (target_1 : Int) : Le (
 z0f x_0 target_1 (x_0.length : Int) 0 (x_0.length : Int)
 ) (z17 x_0 target_1) :=
 cL o13' Tryz.func58
theorem y76 (s_0 : List Message) : Le (
 capOk (List.length ([] : List Message) + List.length s_0) <|
 some ((), (([] : List Message) ++ s_0))
 ) (z1p s_0) :=
 qg4 (T := tn) (c := qdq Tryz.f61) (rest := q08 Tryz.f61 [1,1]) (o := ⟨[.ref 0],[[.own .Message false]]⟩) sigOk 100000 (by kernel_rfl) Tryz.func61 (by kernel_rfl) (by kernel_rfl) (by kernel_rfl) (by kernel_rfl) (fun hx r hr => by subst hx; cases hr; exact ⟨rfl, rfl⟩)
theorem y5o (v_0 : Voter) : Le (
 capOk (List.length ([] : List Message) + List.length v_0.Heard) <|
 Option.bind (z6k v_0) fun x0 =>
 capOk (List.length (([] : List Message) ++ v_0.Heard) + List.length ([(Message.mk x0.Node x0.Seq (Trust.mk x0.Trust.Threshold x0.Trust.Nodes x0.Trust.Inner) x0.Votes x0.Accepts)] : List Message)) <|
 some ((([] : List Message) ++ v_0.Heard) ++ ([(Message.mk x0.Node x0.Seq (Trust.mk x0.Trust.Threshold x0.Trust.Nodes x0.Trust.Inner) x0.Votes x0.Accepts)] : List Message))
 ) (z6j v_0) :=
 cL ⟨[.lf (.l .Message)],[]⟩ Tryz.func65
theorem y6p (v_0 : Voter) : Le (
 some (Message.mk v_0.Node v_0.Seq (Trust.mk v_0.Trust.Threshold v_0.Trust.Nodes v_0.Trust.Inner) v_0.Votes v_0.Accepts)
 ) (z5y v_0) :=
 cL o11' Tryz.func86
theorem y8e (m_0 : Message) : Le (
 Option.bind (z4g m_0.Trust) fun x0 =>
 Option.bind (z18 m_0.Votes) fun x1 =>
 Option.bind (z18 m_0.Accepts) fun x2 =>
 some (Message.mk m_0.Node m_0.Seq (Trust.mk x0.Threshold x0.Nodes x0.Inner) x1.2 x2.2)
 ) (z34 m_0) :=
 cL o11' Tryz.func85
theorem y6q (n_1 : Int) (h0 : List Int) (h1 : Int) : Le (
 z3f n_1 ([] : List Int) 0 h0 h1
 ) (z5z n_1 h0 h1) :=
 cL o17' Tryz.func13
theorem y6j (t_0 : Trust) : Le (
 z45 0 t_0.Inner (t_0.Inner.length : Int) 0 t_0.Threshold t_0.Nodes t_0.Inner
 ) (z64 t_0) :=
 cL o1' Tryz.func97
theorem y7u (t_0 : Trust) : Le (
 z4n (addI .i64 (t_0.Nodes.length : Int) (t_0.Inner.length : Int)) t_0.Inner (t_0.Inner.length : Int) 0 t_0.Threshold t_0.Nodes t_0.Inner
 ) (z6a t_0) :=
 cL o1' Tryz.func98
theorem qs0 (t_0 : Trust) : Le (
 bif ltB t_0.Threshold 1 then
 some 4
 else
 bif (ltB (addI .i64 (t_0.Nodes.length : Int) (t_0.Inner.length : Int)) t_0.Threshold) then
 some 4
 else
 z1z t_0.Nodes (t_0.Nodes.length : Int) 0 t_0.Threshold t_0.Nodes t_0.Inner
 ) (z3o t_0) :=
 cL o1' Tryz.func99
theorem y6h (t_0 : Trust) : Le (
 z2y 0 t_0.Inner (t_0.Inner.length : Int) 0 t_0.Threshold t_0.Nodes t_0.Inner
 ) (z4k t_0) :=
 cL o1' Tryz.func93
theorem y7l (t_0 : Trust) : Le (
 z39 (addI .i64 (t_0.Nodes.length : Int) (t_0.Inner.length : Int)) t_0.Inner (t_0.Inner.length : Int) 0 t_0.Threshold t_0.Nodes t_0.Inner
 ) (z52 t_0) :=
 cL o1' Tryz.func94
theorem y5g (t_0 : Trust) : Le (
 bif ltB t_0.Threshold 1 then
 some 4
 else
 bif (ltB (addI .i64 (t_0.Nodes.length : Int) (t_0.Inner.length : Int)) t_0.Threshold) then
 some 4
 else
 Option.bind (z1g t_0.Nodes) fun x0 =>
 bif x0 then
 some 5
 else
 Option.bind (z6m t_0.Nodes) fun x1 =>
 bif neB x1.2 0 then
 some x1.2
 else
 z2z t_0.Inner (t_0.Inner.length : Int) 0 t_0.Threshold t_0.Nodes t_0.Inner
 ) (z4l t_0) :=
 cL o1' Tryz.func95
theorem y5l (s_0 : List Int) : Le (
 capOk (List.length ([] : List Int) + List.length s_0) <|
 some ((), (([] : List Int) ++ s_0))
 ) (z37 s_0) :=
 qg4 (T := tn) (c := qdq Tryz.f96) (rest := q08 Tryz.f96 [1,1]) (o := ⟨[.ref 0],[[.own .i64 false]]⟩) sigOk 100000 (by kernel_rfl) Tryz.func96 (by kernel_rfl) (by kernel_rfl) (by kernel_rfl) (by kernel_rfl) (fun hx r hr => by subst hx; cases hr; exact ⟨rfl, rfl⟩)
theorem y54 (l_0 : List Claim) : Le (
 z2f l_0 l_0 (l_0.length : Int) 0
 ) (z3q l_0) :=
 cL o0' Tryz.func81
theorem y3f (s_0 : List Claim) (h0 h1 h2 : Int) (h3 : List Int) (h4 : List Trust) (h5 h6 h7 : List Claim) (h8 : List Message) : Le (
 Option.bind (z1j s_0 h0 h1 h2 h3 h4 h5 h6 h7 h8) fun x0 =>
 some ((leB 0 x0.1), x0.2.1, x0.2.2.1, x0.2.2.2.1, x0.2.2.2.2.1, x0.2.2.2.2.2.1, x0.2.2.2.2.2.2.1, x0.2.2.2.2.2.2.2.1, x0.2.2.2.2.2.2.2.2.1, x0.2.2.2.2.2.2.2.2.2)
 ) (z1i s_0 h0 h1 h2 h3 h4 h5 h6 h7 h8) :=
 cL o22' Tryz.func52
theorem y5i (s_0 : List Claim) (h0 h1 : Int) : Le (
 z0u s_0 (s_0.length : Int) 0 h0 h1
 ) (z1k s_0 h0 h1) :=
 cL o23' Tryz.func100
theorem y8d (s_0 : List Claim) (v_1 : Claim) : Le (
 Option.bind (z2x s_0 v_1) fun x0 =>
 some (leB 0 x0)
 ) (z2i s_0 v_1) :=
 cL o0' Tryz.func101
theorem y1p (s_0 : List Claim) : Le (
 capOk (List.length ([] : List Claim) + List.length s_0) <|
 some ((), (([] : List Claim) ++ s_0))
 ) (z18 s_0) :=
 qg4 (T := tn) (c := qdq Tryz.f102) (rest := q08 Tryz.f102 [1,1]) (o := o18') sigOk 100000 (by kernel_rfl) Tryz.func102 (by kernel_rfl) (by kernel_rfl) (by kernel_rfl) (by kernel_rfl) (fun hx r hr => by subst hx; cases hr; exact ⟨rfl, rfl⟩)
theorem y3k (a_0 b_1 : List Claim) : Le (
 Option.bind (z66 ([a_0, b_1] : List (List Claim))) fun x0 =>
 Option.bind (z5e x0.2) fun x1 =>
 some x1
 ) (z68 a_0 b_1) :=
 cL o3' Tryz.func103
theorem y79 (v_0 : Voter) : Le (
 Option.bind (z54 v_0.Node v_0.Trust v_0.Heard) fun x0 =>
 Option.bind (z5o v_0 x0) fun x1 =>
 z3z x1.2 v_0.Node v_0.Seq v_0.Trust.Threshold v_0.Trust.Nodes v_0.Trust.Inner v_0.Votes v_0.Accepts v_0.Confirms v_0.Heard 0 0 0 ([] : List Int) ([] : List Trust) ([] : List Claim) ([] : List Claim) ([] : List Claim) ([] : List Message) x0.Members x1.1.Topic x1.1.Value
 ) (z5r v_0) :=
 cL o7' Tryz.func104
theorem y3h (a_0 b_1 : Trust) : Le (
 bif eqB a_0.Threshold b_1.Threshold then
 Option.bind (z38 a_0.Nodes b_1.Nodes) fun x0 =>
 bif x0 then
 Option.bind (z1b a_0.Inner b_1.Inner) fun x1 =>
 some x1
 else
 some false
 else
 some false
 ) (z3i a_0 b_1) :=
 cL o0' Tryz.func75
theorem y7f (s1_0 s2_1 : List Claim) : Le (
 bif (neB (s1_0.length : Int) (s2_1.length : Int)) then
 some false
 else
 z1u s1_0 s2_1 (s1_0.length : Int) 0
 ) (z2d s1_0 s2_1) :=
 cL o0' Tryz.func88
theorem y5n (k_0 : Int) : Le (
 bif leB 0 k_0 then
 some (ltB k_0 10)
 else
 some false
 ) (z53 k_0) :=
 cL o0' Tryz.func105
theorem y6n (v_0 : Voter) : Le (
 some (Message.mk v_0.Node v_0.Seq (Trust.mk v_0.Trust.Threshold v_0.Trust.Nodes v_0.Trust.Inner) v_0.Votes v_0.Accepts)
 ) (z6k v_0) :=
 cL o11' Tryz.func21
theorem y6z (s_0 : List Int) : Le (
 Option.bind (z1q s_0) fun x0 =>
 some (leB 0 x0)
 ) (z1g s_0) :=
 cL o0' Tryz.func118
theorem y52 (nodes_0 : List Int) : Le (
 z3c 0 nodes_0 (nodes_0.length : Int) 0
 ) (z6m nodes_0) :=
 cL o14' Tryz.func121
theorem y44 (s_0 : List Claim) (h0 h1 h2 : Int) (h3 : List Int) (h4 : List Trust) (h5 h6 h7 : List Claim) (h8 : List Message) : Le (
 z0r s_0 (s_0.length : Int) 0 h0 h1 h2 h3 h4 h5 h6 h7 h8
 ) (z1j s_0 h0 h1 h2 h3 h4 h5 h6 h7 h8) :=
 cL o24' Tryz.func100
theorem y7q (s_0 : List Claim) (v_1 : Claim) : Le (
 z1m s_0 (s_0.length : Int) 0 v_1.Topic v_1.Value
 ) (z2x s_0 v_1) :=
 cL o1' Tryz.func123
theorem y7a (l_0 : List Claim) : Le (
 Option.bind (z18 l_0) fun x0 =>
 Option.bind (z1h x0.2) fun x1 =>
 Option.bind (z1d x1.2) fun x2 =>
 Option.bind (z60 x2) fun x3 =>
 some x3.1
 ) (z5e l_0) :=
 cL o3' Tryz.func124
theorem y4u (v_0 : Int) (t_1 : Trust) (l_2 : List Message) : Le (
 z29 v_0 l_2 (l_2.length : Int) 0 t_1.Threshold t_1.Nodes t_1.Inner ([] : List Member) (List.replicate (Int.toNat 10) (Member.mk false (Trust.mk 0 ([] : List Int) ([] : List Trust))))
 ) (z54 v_0 t_1 l_2) :=
 cL o15' Tryz.func126
theorem y4e (v_0 : Voter) (c_1 : Config) : Le (
 Option.bind (z1p v_0.Heard) fun x0 =>
 Option.bind (z5y v_0) fun x1 =>
 capOk (List.length x0.2 + List.length ([(Message.mk x1.Node x1.Seq (Trust.mk x1.Trust.Threshold x1.Trust.Nodes x1.Trust.Inner) x1.Votes x1.Accepts)] : List Message)) <|
 Option.bind (z5s (x0.2 ++ ([(Message.mk x1.Node x1.Seq (Trust.mk x1.Trust.Threshold x1.Trust.Nodes x1.Trust.Inner) x1.Votes x1.Accepts)] : List Message))) fun x2 =>
 z35 (x0.2 ++ ([(Message.mk x1.Node x1.Seq (Trust.mk x1.Trust.Threshold x1.Trust.Nodes x1.Trust.Inner) x1.Votes x1.Accepts)] : List Message)) x2 (x2.length : Int) 0 v_0.Node v_0.Seq v_0.Trust.Threshold v_0.Trust.Nodes v_0.Trust.Inner v_0.Votes v_0.Accepts v_0.Confirms v_0.Heard c_1.Members 0 0
 ) (z5o v_0 c_1) :=
 cL o25' Tryz.func127
theorem y7g (s1_0 s2_1 : List Int) : Le (
 bif (neB (s1_0.length : Int) (s2_1.length : Int)) then
 some false
 else
 z1w s1_0 s2_1 (s1_0.length : Int) 0
 ) (z38 s1_0 s2_1) :=
 cL o0' Tryz.func113
theorem y6c (s1_0 s2_1 : List Trust) : Le (
 bif (neB (s1_0.length : Int) (s2_1.length : Int)) then
 some false
 else
 z0h s2_1 s1_0 (s1_0.length : Int) 0
 ) (z1b s1_0 s2_1) :=
 cL o0' Tryz.func114
theorem y65 (s_0 : List Int) : Le (
 z0k s_0 (s_0.length : Int) 0
 ) (z1q s_0) :=
 cL o1' Tryz.func134
theorem y4k (h0 : List Claim) : Le (
 Option.bind (z1o h0) fun x0 =>
 bif eqB x0.1 (-1) then
 some ((), x0.2)
 else
 z4t x0.1 (addI .i64 x0.1 1) x0.2
 ) (z1h h0) :=
 cL o18' Tryz.func136
theorem y6b (h0 : List Claim) : Le (
 Option.bind (z6p (IntKind.wrap .u64 (h0.length : Int))) fun x0 =>
 Option.bind (z01 0 (h0.length : Int) x0 h0) fun x1 =>
 some x1
 ) (z1d h0) :=
 cL o2' Tryz.func138
theorem y6o (l_0 : List Message) : Le (
 z3u ([] : List Claim) l_0 (l_0.length : Int) 0
 ) (z5s l_0) :=
 cL o3' Tryz.func142
theorem y6d (h0 : List Claim) : Le (
 z0x (h0.length : Int) 0 h0
 ) (z1o h0) :=
 cL o6' Tryz.func100
end Go.Proofs.YthbpagedblodfaaGreat
