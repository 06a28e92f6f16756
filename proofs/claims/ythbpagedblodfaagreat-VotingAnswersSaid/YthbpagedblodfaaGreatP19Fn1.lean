/- What the functions come to, printed by a program and checked by the kernel. -/
import Derived.Test.YthbpagedblodfaaGreatP19Df
namespace Go.Proofs.YthbpagedblodfaaGreat
open Go Go.Ab
set_option maxRecDepth 100000
theorem y5g a b : eL (z3c a b) (
 Option.bind (z6d b) fun x0 =>
 Option.bind (z3f a.Trust x0.Trust) fun x1 =>
 bif !x1 then
 Option.bind (z2u (Voter.mk x0.Node (addI .i64 x0.Seq 1) (Trust.mk x0.Trust.Threshold x0.Trust.Nodes x0.Trust.Inner) x0.Votes x0.Accepts x0.Confirms x0.Heard)) fun x2 =>
 some (Voter.mk x2.Node x2.Seq (Trust.mk x2.Trust.Threshold x2.Trust.Nodes x2.Trust.Inner) x2.Votes x2.Accepts x2.Confirms x2.Heard)
 else
 Option.bind (z1s a.Votes x0.Votes) fun x3 =>
 bif !x3 then
 Option.bind (z2u (Voter.mk x0.Node (addI .i64 x0.Seq 1) (Trust.mk x0.Trust.Threshold x0.Trust.Nodes x0.Trust.Inner) x0.Votes x0.Accepts x0.Confirms x0.Heard)) fun x4 =>
 some (Voter.mk x4.Node x4.Seq (Trust.mk x4.Trust.Threshold x4.Trust.Nodes x4.Trust.Inner) x4.Votes x4.Accepts x4.Confirms x4.Heard)
 else
 Option.bind (z1s a.Accepts x0.Accepts) fun x5 =>
 bif !x5 then
 Option.bind (z2u (Voter.mk x0.Node (addI .i64 x0.Seq 1) (Trust.mk x0.Trust.Threshold x0.Trust.Nodes x0.Trust.Inner) x0.Votes x0.Accepts x0.Confirms x0.Heard)) fun x6 =>
 some (Voter.mk x6.Node x6.Seq (Trust.mk x6.Trust.Threshold x6.Trust.Nodes x6.Trust.Inner) x6.Votes x6.Accepts x6.Confirms x6.Heard)
 else
 Option.bind (z2u x0) fun x7 =>
 some (Voter.mk x7.Node x7.Seq (Trust.mk x7.Trust.Threshold x7.Trust.Nodes x7.Trust.Inner) x7.Votes x7.Accepts x7.Confirms x7.Heard)
 ) :=
 cL o4' Tryz.func56
theorem y9k a : eL (z32 a) (
 Option.bind (z5p a.Node) fun x0 =>
 bif x0 then
 bif leB 1 a.Seq then
 Option.bind (z31 a.Trust) fun x1 =>
 bif eqB x1 0 then
 Option.bind (z47 a.Votes) fun x2 =>
 bif x2 then
 Option.bind (z47 a.Accepts) fun x3 =>
 some x3
 else
 some false
 else
 some false
 else
 some false
 else
 some false
 ) :=
 cL o0' Tryz.func57
theorem y8w a b : eL (z19 a b) (
 z0g a b (a.length : Int) 0 (a.length : Int)
 ) :=
 cL o13' Tryz.func58
theorem ya2 (a : List Message) : Le (
 capOk (List.length ([] : List Message) + List.length a) <|
 some ((), (([] : List Message) ++ a))
 ) (z1u a) :=
 qhc (T := tn) (c := qfb Tryz.f61) (rest := q09 Tryz.f61 [1,1]) (o := ⟨[.ref 0],[[.own .Message false]]⟩) sigOk 100000 (by kernel_rfl) Tryz.func61 (by kernel_rfl) (by kernel_rfl) (by kernel_rfl) (by kernel_rfl) (fun hx r hr => by subst hx; cases hr; exact ⟨rfl, rfl⟩)
theorem y9c a : eL (z6k a) (
 capOk (List.length ([] : List Message) + List.length a.Heard) <|
 Option.bind (z7f a) fun x0 =>
 capOk (List.length (([] : List Message) ++ a.Heard) + List.length ([(Message.mk x0.Node x0.Seq (Trust.mk x0.Trust.Threshold x0.Trust.Nodes x0.Trust.Inner) x0.Votes x0.Accepts)] : List Message)) <|
 some ((([] : List Message) ++ a.Heard) ++ ([(Message.mk x0.Node x0.Seq (Trust.mk x0.Trust.Threshold x0.Trust.Nodes x0.Trust.Inner) x0.Votes x0.Accepts)] : List Message))
 ) :=
 cL ⟨[.lf (.l .Message)],[]⟩ Tryz.func65
theorem y9m a : eL (z5k a) (
 some (Message.mk a.Node a.Seq (Trust.mk a.Trust.Threshold a.Trust.Nodes a.Trust.Inner) a.Votes a.Accepts)
 ) :=
 cL o11' Tryz.func86
theorem y59 a : eL (z3e a) (
 Option.bind (z52 a.Trust) fun x0 =>
 Option.bind (z1a a.Votes) fun x1 =>
 Option.bind (z1a a.Accepts) fun x2 =>
 some (Message.mk a.Node a.Seq (Trust.mk x0.Threshold x0.Nodes x0.Inner) x1.2 x2.2)
 ) :=
 cL o11' Tryz.func85
theorem y6i a b c : eL (z6n a b c) (
 z3v a [] 0 b c
 ) :=
 cL o18' Tryz.func13
theorem y64 a : eL (z6u a) (
 z4s 0 a.Inner (a.Inner.length : Int) 0 a.Threshold a.Nodes a.Inner
 ) :=
 cL o1' Tryz.func97
theorem y88 a : eL (z75 a) (
 z5a (addI .i64 (a.Nodes.length : Int) (a.Inner.length : Int)) a.Inner (a.Inner.length : Int) 0 a.Threshold a.Nodes a.Inner
 ) :=
 cL o1' Tryz.func98
theorem qrm a : eL (z45 a) (
 bif ltB a.Threshold 1 then
 some 4
 else
 bif (ltB (addI .i64 (a.Nodes.length : Int) (a.Inner.length : Int)) a.Threshold) then
 some 4
 else
 z22 a.Nodes (a.Nodes.length : Int) 0 a.Threshold a.Nodes a.Inner
 ) :=
 cL o1' Tryz.func99
theorem y8m a : eL (z56 a) (
 z36 0 a.Inner (a.Inner.length : Int) 0 a.Threshold a.Nodes a.Inner
 ) :=
 cL o1' Tryz.func93
theorem y78 a : eL (z5o a) (
 z3l (addI .i64 (a.Nodes.length : Int) (a.Inner.length : Int)) a.Inner (a.Inner.length : Int) 0 a.Threshold a.Nodes a.Inner
 ) :=
 cL o1' Tryz.func94
theorem y5d a : eL (z57 a) (
 bif ltB a.Threshold 1 then
 some 4
 else
 bif (ltB (addI .i64 (a.Nodes.length : Int) (a.Inner.length : Int)) a.Threshold) then
 some 4
 else
 Option.bind (z1i a.Nodes) fun x0 =>
 bif x0 then
 some 5
 else
 Option.bind (z7g a.Nodes) fun x1 =>
 bif neB x1.2 0 then
 some x1.2
 else
 z37 a.Inner (a.Inner.length : Int) 0 a.Threshold a.Nodes a.Inner
 ) :=
 cL o1' Tryz.func95
theorem y9f (a : List Int) : Le (
 capOk (List.length ([] : List Int) + List.length a) <|
 some ((), (([] : List Int) ++ a))
 ) (z3j a) :=
 qhc (T := tn) (c := qfb Tryz.f96) (rest := q09 Tryz.f96 [1,1]) (o := ⟨[.ref 0],[[.own .i64 false]]⟩) sigOk 100000 (by kernel_rfl) Tryz.func96 (by kernel_rfl) (by kernel_rfl) (by kernel_rfl) (by kernel_rfl) (fun hx r hr => by subst hx; cases hr; exact ⟨rfl, rfl⟩)
theorem y6k a : eL (z47 a) (
 z2k a a (a.length : Int) 0
 ) :=
 cL o0' Tryz.func81
theorem y9a a b c d e f g h i j : eL (z1k a b c d e f g h i j) (
 Option.bind (z1l a b c d e f g h i j) fun x0 =>
 some ((leB 0 x0.1), x0.2.1, x0.2.2.1, x0.2.2.2.1, x0.2.2.2.2.1, x0.2.2.2.2.2.1, x0.2.2.2.2.2.2.1, x0.2.2.2.2.2.2.2.1, x0.2.2.2.2.2.2.2.2.1, x0.2.2.2.2.2.2.2.2.2)
 ) :=
 cL o23' Tryz.func52
theorem yae a b c : eL (z1m a b c) (
 z0v a (a.length : Int) 0 b c
 ) :=
 cL o24' Tryz.func100
theorem y7e a b : eL (z2o a b) (
 Option.bind (z35 a b) fun x0 =>
 some (leB 0 x0)
 ) :=
 cL o0' Tryz.func101
theorem y2f (a : List Claim) : Le (
 capOk (List.length ([] : List Claim) + List.length a) <|
 some ((), (([] : List Claim) ++ a))
 ) (z1a a) :=
 qhc (T := tn) (c := qfb Tryz.f102) (rest := q09 Tryz.f102 [1,1]) (o := o19') sigOk 100000 (by kernel_rfl) Tryz.func102 (by kernel_rfl) (by kernel_rfl) (by kernel_rfl) (by kernel_rfl) (fun hx r hr => by subst hx; cases hr; exact ⟨rfl, rfl⟩)
theorem y82 a b : eL (z70 a b) (
 Option.bind (z6y ([a, b] : List (List Claim))) fun x0 =>
 Option.bind (z5y x0.2) fun x1 =>
 some x1
 ) :=
 cL o2' Tryz.func103
theorem y8r a : eL (z6d a) (
 Option.bind (z5q a.Node a.Trust a.Heard) fun x0 =>
 Option.bind (z6a a x0) fun x1 =>
 z4i x1.2 a.Node a.Seq a.Trust.Threshold a.Trust.Nodes a.Trust.Inner a.Votes a.Accepts a.Confirms a.Heard 0 0 0 [] [] [] [] [] [] x0.Members x1.1.Topic x1.1.Value
 ) :=
 cL o4' Tryz.func104
theorem y5i a b : eL (z3f a b) (
 bif eqB a.Threshold b.Threshold then
 Option.bind (z3k a.Nodes b.Nodes) fun x0 =>
 bif x0 then
 Option.bind (z1d a.Inner b.Inner) fun x1 =>
 some x1
 else
 some false
 else
 some false
 ) :=
 cL o0' Tryz.func75
theorem y5z a b : eL (z1s a b) (
 bif (neB (a.length : Int) (b.length : Int)) then
 some false
 else
 z1y a b (a.length : Int) 0
 ) :=
 cL o0' Tryz.func88
theorem y5t a : eL (z5p a) (
 bif leB 0 a then
 some (ltB a 10)
 else
 some false
 ) :=
 cL o0' Tryz.func105
theorem y70 a : eL (z7f a) (
 some (Message.mk a.Node a.Seq (Trust.mk a.Trust.Threshold a.Trust.Nodes a.Trust.Inner) a.Votes a.Accepts)
 ) :=
 cL o11' Tryz.func21
theorem y94 a : eL (z1i a) (
 Option.bind (z1v a) fun x0 =>
 some (leB 0 x0)
 ) :=
 cL o0' Tryz.func118
theorem y7s a : eL (z7g a) (
 z3r 0 a (a.length : Int) 0
 ) :=
 cL o14' Tryz.func121
theorem y7r a b c d e f g h i j : eL (z1l a b c d e f g h i j) (
 z0s a (a.length : Int) 0 b c d e f g h i j
 ) :=
 cL o25' Tryz.func100
theorem y5f a b : eL (z35 a b) (
 z1q a (a.length : Int) 0 b.Topic b.Value
 ) :=
 cL o1' Tryz.func123
theorem y6n a : eL (z5y a) (
 Option.bind (z1a a) fun x0 =>
 Option.bind (z1j x0.2) fun x1 =>
 Option.bind (z1f x1.2) fun x2 =>
 Option.bind (z6o x2) fun x3 =>
 some x3.1
 ) :=
 cL o2' Tryz.func124
theorem y93 a b c : eL (z5q a b c) (
 z2e a c (c.length : Int) 0 b.Threshold b.Nodes b.Inner [] (List.replicate (Int.toNat 10) (Member.mk false (Trust.mk 0 [] [])))
 ) :=
 cL o15' Tryz.func126
theorem y8o a b : eL (z6a a b) (
 Option.bind (z1u a.Heard) fun x0 =>
 Option.bind (z5k a) fun x1 =>
 capOk (List.length x0.2 + List.length ([(Message.mk x1.Node x1.Seq (Trust.mk x1.Trust.Threshold x1.Trust.Nodes x1.Trust.Inner) x1.Votes x1.Accepts)] : List Message)) <|
 Option.bind (z6e (x0.2 ++ ([(Message.mk x1.Node x1.Seq (Trust.mk x1.Trust.Threshold x1.Trust.Nodes x1.Trust.Inner) x1.Votes x1.Accepts)] : List Message))) fun x2 =>
 z3h (x0.2 ++ ([(Message.mk x1.Node x1.Seq (Trust.mk x1.Trust.Threshold x1.Trust.Nodes x1.Trust.Inner) x1.Votes x1.Accepts)] : List Message)) x2 (x2.length : Int) 0 a.Node a.Seq a.Trust.Threshold a.Trust.Nodes a.Trust.Inner a.Votes a.Accepts a.Confirms a.Heard b.Members 0 0
 ) :=
 cL o26' Tryz.func127
theorem y5n a b : eL (z3k a b) (
 bif (neB (a.length : Int) (b.length : Int)) then
 some false
 else
 z20 a b (a.length : Int) 0
 ) :=
 cL o0' Tryz.func113
theorem y8c a b : eL (z1d a b) (
 bif (neB (a.length : Int) (b.length : Int)) then
 some false
 else
 z0i b a (a.length : Int) 0
 ) :=
 cL o0' Tryz.func114
theorem y84 a : eL (z1v a) (
 z0l a (a.length : Int) 0
 ) :=
 cL o1' Tryz.func134
theorem y7d a : eL (z1j a) (
 Option.bind (z1t a) fun x0 =>
 bif eqB x0.1 (-1) then
 some ((), x0.2)
 else
 z5g x0.1 (addI .i64 x0.1 1) x0.2
 ) :=
 cL o19' Tryz.func136
theorem y7k a : eL (z1f a) (
 Option.bind (z7i (IntKind.wrap .u64 (a.length : Int))) fun x0 =>
 Option.bind (z01 0 (a.length : Int) x0 a) fun x1 =>
 some x1
 ) :=
 cL o3' Tryz.func138
theorem y72 a : eL (z6e a) (
 z4c [] a (a.length : Int) 0
 ) :=
 cL o2' Tryz.func142
theorem y9b a : eL (z1t a) (
 z0y (a.length : Int) 0 a
 ) :=
 cL o9' Tryz.func100
end Go.Proofs.YthbpagedblodfaaGreat
