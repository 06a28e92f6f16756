/- What the functions come to, printed by a program and checked by the kernel. -/
import Derived.Test.YthbpagedblodfaaGreatP19Df
namespace Go.Proofs.YthbpagedblodfaaGreat
open Go Go.Ab
set_option maxRecDepth 100000
theorem y1g a b : eL (z2t a b) (
 Option.bind (z4f b) fun x0 =>
 Option.bind (z3a a.Trust x0.Trust) fun x1 =>
 bif !x1 then
 Option.bind (z2c (Voter.mk x0.Node (addI .i64 x0.Seq 1) (Trust.mk x0.Trust.Threshold x0.Trust.Nodes x0.Trust.Inner) x0.Votes x0.Accepts x0.Confirms x0.Heard)) fun x2 =>
 some (Voter.mk x2.Node x2.Seq (Trust.mk x2.Trust.Threshold x2.Trust.Nodes x2.Trust.Inner) x2.Votes x2.Accepts x2.Confirms x2.Heard)
 else
 Option.bind (z22 a.Votes x0.Votes) fun x3 =>
 bif !x3 then
 Option.bind (z2c (Voter.mk x0.Node (addI .i64 x0.Seq 1) (Trust.mk x0.Trust.Threshold x0.Trust.Nodes x0.Trust.Inner) x0.Votes x0.Accepts x0.Confirms x0.Heard)) fun x4 =>
 some (Voter.mk x4.Node x4.Seq (Trust.mk x4.Trust.Threshold x4.Trust.Nodes x4.Trust.Inner) x4.Votes x4.Accepts x4.Confirms x4.Heard)
 else
 Option.bind (z22 a.Accepts x0.Accepts) fun x5 =>
 bif !x5 then
 Option.bind (z2c (Voter.mk x0.Node (addI .i64 x0.Seq 1) (Trust.mk x0.Trust.Threshold x0.Trust.Nodes x0.Trust.Inner) x0.Votes x0.Accepts x0.Confirms x0.Heard)) fun x6 =>
 some (Voter.mk x6.Node x6.Seq (Trust.mk x6.Trust.Threshold x6.Trust.Nodes x6.Trust.Inner) x6.Votes x6.Accepts x6.Confirms x6.Heard)
 else
 Option.bind (z2c x0) fun x7 =>
 some (Voter.mk x7.Node x7.Seq (Trust.mk x7.Trust.Threshold x7.Trust.Nodes x7.Trust.Inner) x7.Votes x7.Accepts x7.Confirms x7.Heard)
 ) :=
 cL o6' Tryz.func56
theorem y1h a : eL (z2b a) (
 Option.bind (z3z a.Node) fun x0 =>
 bif x0 then
 bif leB 1 a.Seq then
 Option.bind (z2s a.Trust) fun x1 =>
 bif eqB x1 0 then
 Option.bind (z31 a.Votes) fun x2 =>
 bif x2 then
 Option.bind (z31 a.Accepts) fun x3 =>
 some x3
 else
 some false
 else
 some false
 else
 some false
 else
 some false
 ) :=
 cL o0' Tryz.func57
theorem y3g a b : eL (z17 a b) (
 z0f a b (a.length : Int) 0 (a.length : Int)
 ) :=
 cL o10' Tryz.func58
theorem y4q (a : List Message) : Le (
 capOk (List.length ([] : List Message) + List.length a) <|
 some ((), (([] : List Message) ++ a))
 ) (z1n a) :=
 qg9 (T := tn) (c := qe6 Tryz.f61) (rest := q0d Tryz.f61 [1,1]) (o := ⟨[.ref 0],[[.own .Message false]]⟩) sigOk 100000 (by kernel_rfl) Tryz.func61 (by kernel_rfl) (by kernel_rfl) (by kernel_rfl) (by kernel_rfl) (fun hx r hr => by subst hx; cases hr; exact ⟨rfl, rfl⟩)
theorem y4v a : eL (z4k a) (
 some (Message.mk a.Node a.Seq (Trust.mk a.Trust.Threshold a.Trust.Nodes a.Trust.Inner) a.Votes a.Accepts)
 ) :=
 cL o14' Tryz.func86
theorem y0l a : eL (z2j a) (
 Option.bind (z3h a.Trust) fun x0 =>
 Option.bind (z18 a.Votes) fun x1 =>
 Option.bind (z18 a.Accepts) fun x2 =>
 some (Message.mk a.Node a.Seq (Trust.mk x0.Threshold x0.Nodes x0.Inner) x1.2 x2.2)
 ) :=
 cL o14' Tryz.func85
theorem qz5 a b c : eL (z39 a b c) (
 z1w a [] 0 b c
 ) :=
 cL o15' Tryz.func13
theorem y2q a : eL (z4o a) (
 z3b 0 a.Inner (a.Inner.length : Int) 0 a.Threshold a.Nodes a.Inner
 ) :=
 cL o1' Tryz.func97
theorem y3d a : eL (z4u a) (
 z3m (addI .i64 (a.Nodes.length : Int) (a.Inner.length : Int)) a.Inner (a.Inner.length : Int) 0 a.Threshold a.Nodes a.Inner
 ) :=
 cL o1' Tryz.func98
theorem qty a : eL (z3x a) (
 bif ltB a.Threshold 1 then
 some 4
 else
 bif (ltB (addI .i64 (a.Nodes.length : Int) (a.Inner.length : Int)) a.Threshold) then
 some 4
 else
 z2k a.Nodes (a.Nodes.length : Int) 0 a.Threshold a.Nodes a.Inner
 ) :=
 cL o1' Tryz.func99
theorem y1p a : eL (z3j a) (
 z2e 0 a.Inner (a.Inner.length : Int) 0 a.Threshold a.Nodes a.Inner
 ) :=
 cL o1' Tryz.func93
theorem y50 a : eL (z3y a) (
 z2q (addI .i64 (a.Nodes.length : Int) (a.Inner.length : Int)) a.Inner (a.Inner.length : Int) 0 a.Threshold a.Nodes a.Inner
 ) :=
 cL o1' Tryz.func94
theorem y2c a : eL (z3k a) (
 bif ltB a.Threshold 1 then
 some 4
 else
 bif (ltB (addI .i64 (a.Nodes.length : Int) (a.Inner.length : Int)) a.Threshold) then
 some 4
 else
 Option.bind (z1f a.Nodes) fun x0 =>
 bif x0 then
 some 5
 else
 Option.bind (z4y a.Nodes) fun x1 =>
 bif neB x1.2 0 then
 some x1.2
 else
 z2f a.Inner (a.Inner.length : Int) 0 a.Threshold a.Nodes a.Inner
 ) :=
 cL o1' Tryz.func95
theorem y3k (a : List Int) : Le (
 capOk (List.length ([] : List Int) + List.length a) <|
 some ((), (([] : List Int) ++ a))
 ) (z2o a) :=
 qg9 (T := tn) (c := qe6 Tryz.f96) (rest := q0d Tryz.f96 [1,1]) (o := ⟨[.ref 0],[[.own .i64 false]]⟩) sigOk 100000 (by kernel_rfl) Tryz.func96 (by kernel_rfl) (by kernel_rfl) (by kernel_rfl) (by kernel_rfl) (fun hx r hr => by subst hx; cases hr; exact ⟨rfl, rfl⟩)
theorem y4w a : eL (z31 a) (
 z23 a a (a.length : Int) 0
 ) :=
 cL o0' Tryz.func81
theorem y3q a b c d e f g h i j : eL (z1h a b c d e f g h i j) (
 Option.bind (z1i a b c d e f g h i j) fun x0 =>
 some ((leB 0 x0.1), x0.2.1, x0.2.2.1, x0.2.2.2.1, x0.2.2.2.2.1, x0.2.2.2.2.2.1, x0.2.2.2.2.2.2.1, x0.2.2.2.2.2.2.2.1, x0.2.2.2.2.2.2.2.2.1, x0.2.2.2.2.2.2.2.2.2)
 ) :=
 cL o18' Tryz.func52
theorem y4b a b c : eL (z1j a b c) (
 z0u a (a.length : Int) 0 b c
 ) :=
 cL o19' Tryz.func100
theorem y3i a b : eL (z24 a b) (
 Option.bind (z2d a b) fun x0 =>
 some (leB 0 x0)
 ) :=
 cL o0' Tryz.func101
theorem qy1 (a : List Claim) : Le (
 capOk (List.length ([] : List Claim) + List.length a) <|
 some ((), (([] : List Claim) ++ a))
 ) (z18 a) :=
 qg9 (T := tn) (c := qe6 Tryz.f102) (rest := q0d Tryz.f102 [1,1]) (o := o16') sigOk 100000 (by kernel_rfl) Tryz.func102 (by kernel_rfl) (by kernel_rfl) (by kernel_rfl) (by kernel_rfl) (fun hx r hr => by subst hx; cases hr; exact ⟨rfl, rfl⟩)
theorem y4z a b : eL (z4t a b) (
 Option.bind (z4p ([a, b] : List (List Claim))) fun x0 =>
 Option.bind (z43 x0.2) fun x1 =>
 some x1
 ) :=
 cL o4' Tryz.func103
theorem y0x a : eL (z4f a) (
 Option.bind (z40 a.Node a.Trust a.Heard) fun x0 =>
 Option.bind (z4b a x0) fun x1 =>
 z37 x1.2 a.Node a.Seq a.Trust.Threshold a.Trust.Nodes a.Trust.Inner a.Votes a.Accepts a.Confirms a.Heard 0 0 0 [] [] [] [] [] [] x0.Members x1.1.Topic x1.1.Value
 ) :=
 cL o6' Tryz.func104
theorem y3e a b : eL (z3a a b) (
 bif eqB a.Threshold b.Threshold then
 Option.bind (z2p a.Nodes b.Nodes) fun x0 =>
 bif x0 then
 Option.bind (z1b a.Inner b.Inner) fun x1 =>
 some x1
 else
 some false
 else
 some false
 ) :=
 cL o0' Tryz.func75
theorem y4s a b : eL (z22 a b) (
 bif (neB (a.length : Int) (b.length : Int)) then
 some false
 else
 z1s a b (a.length : Int) 0
 ) :=
 cL o0' Tryz.func88
theorem y2r a : eL (z3z a) (
 bif leB 0 a then
 some (ltB a 10)
 else
 some false
 ) :=
 cL o0' Tryz.func105
theorem y2a a : eL (z1f a) (
 Option.bind (z1o a) fun x0 =>
 some (leB 0 x0)
 ) :=
 cL o0' Tryz.func118
theorem y2i a : eL (z4y a) (
 z2u 0 a (a.length : Int) 0
 ) :=
 cL o11' Tryz.func121
theorem y1w a b c d e f g h i j : eL (z1i a b c d e f g h i j) (
 z0r a (a.length : Int) 0 b c d e f g h i j
 ) :=
 cL o20' Tryz.func100
theorem y3m a b : eL (z2d a b) (
 z1l a (a.length : Int) 0 b.Topic b.Value
 ) :=
 cL o1' Tryz.func123
theorem y1f a : eL (z43 a) (
 Option.bind (z18 a) fun x0 =>
 Option.bind (z1g x0.2) fun x1 =>
 Option.bind (z1d x1.2) fun x2 =>
 Option.bind (z4l x2) fun x3 =>
 some x3.1
 ) :=
 cL o4' Tryz.func124
theorem y3u a b c : eL (z40 a b c) (
 z20 a c (c.length : Int) 0 b.Threshold b.Nodes b.Inner [] (List.replicate (Int.toNat 10) (Member.mk false (Trust.mk 0 [] [])))
 ) :=
 cL o21' Tryz.func126
theorem y0z a b : eL (z4b a b) (
 Option.bind (z1n a.Heard) fun x0 =>
 Option.bind (z4k a) fun x1 =>
 capOk (List.length x0.2 + List.length ([(Message.mk x1.Node x1.Seq (Trust.mk x1.Trust.Threshold x1.Trust.Nodes x1.Trust.Inner) x1.Votes x1.Accepts)] : List Message)) <|
 Option.bind (z4g (x0.2 ++ ([(Message.mk x1.Node x1.Seq (Trust.mk x1.Trust.Threshold x1.Trust.Nodes x1.Trust.Inner) x1.Votes x1.Accepts)] : List Message))) fun x2 =>
 z2l (x0.2 ++ ([(Message.mk x1.Node x1.Seq (Trust.mk x1.Trust.Threshold x1.Trust.Nodes x1.Trust.Inner) x1.Votes x1.Accepts)] : List Message)) x2 (x2.length : Int) 0 a.Node a.Seq a.Trust.Threshold a.Trust.Nodes a.Trust.Inner a.Votes a.Accepts a.Confirms a.Heard b.Members 0 0
 ) :=
 cL o22' Tryz.func127
theorem y3w a b : eL (z2p a b) (
 bif (neB (a.length : Int) (b.length : Int)) then
 some false
 else
 z1u a b (a.length : Int) 0
 ) :=
 cL o0' Tryz.func113
theorem y3p a b : eL (z1b a b) (
 bif (neB (a.length : Int) (b.length : Int)) then
 some false
 else
 z0h b a (a.length : Int) 0
 ) :=
 cL o0' Tryz.func114
theorem y1n a : eL (z1o a) (
 z0k a (a.length : Int) 0
 ) :=
 cL o1' Tryz.func134
theorem y3l a : eL (z1g a) (
 Option.bind (z1m a) fun x0 =>
 bif eqB x0.1 (-1) then
 some ((), x0.2)
 else
 z3s x0.1 (addI .i64 x0.1 1) x0.2
 ) :=
 cL o16' Tryz.func136
theorem y1d a : eL (z1d a) (
 Option.bind (z50 (IntKind.wrap .u64 (a.length : Int))) fun x0 =>
 Option.bind (z01 0 (a.length : Int) x0 a) fun x1 =>
 some x1
 ) :=
 cL o2' Tryz.func138
theorem y52 a : eL (z4g a) (
 z34 [] a (a.length : Int) 0
 ) :=
 cL o4' Tryz.func142
theorem y4t a : eL (z1m a) (
 z0x (a.length : Int) 0 a
 ) :=
 cL o5' Tryz.func100
end Go.Proofs.YthbpagedblodfaaGreat
