/- What the functions come to, printed by a program and checked by the kernel. -/
import Derived.Test.YtglokalgdbegeaaGreatP22Df
namespace Go.Proofs.YtglokalgdbegeaaGreat
open Go Go.Ab
set_option maxRecDepth 100000
theorem qrd a : eL (z3k a) (
 bif ltB a.Threshold 1 then
 some 4
 else
 bif (ltB (addI .i64 (a.Nodes.length : Int) (a.Inner.length : Int)) a.Threshold) then
 some 4
 else
 z1z a.Nodes (a.Nodes.length : Int) 0 a.Threshold a.Nodes a.Inner
 ) :=
 cL o1' Tryz.func120
theorem y45 a : eL (z4b a) (
 z2t 0 a.Inner (a.Inner.length : Int) 0 a.Threshold a.Nodes a.Inner
 ) :=
 cL o1' Tryz.func97
theorem y49 a : eL (z4k a) (
 z35 (addI .i64 (a.Nodes.length : Int) (a.Inner.length : Int)) a.Inner (a.Inner.length : Int) 0 a.Threshold a.Nodes a.Inner
 ) :=
 cL o1' Tryz.func98
theorem y7d a : eL (z4c a) (
 bif ltB a.Threshold 1 then
 some 4
 else
 bif (ltB (addI .i64 (a.Nodes.length : Int) (a.Inner.length : Int)) a.Threshold) then
 some 4
 else
 Option.bind (z1f a.Nodes) fun x0 =>
 bif x0 then
 some 5
 else
 Option.bind (z5n a.Nodes) fun x1 =>
 bif neB x1.2 0 then
 some x1.2
 else
 z2u a.Inner (a.Inner.length : Int) 0 a.Threshold a.Nodes a.Inner
 ) :=
 cL o1' Tryz.func99
theorem y4w a : eL (z4p a) (
 Option.bind (z4s a.Trust a.Node a.Slot a.Round) fun x0 =>
 Option.bind (z4r x0.1) fun x1 =>
 z1u a.Votes x1 (x1.length : Int) 0 a.Node a.Slot a.Round a.Seq a.Trust.Threshold a.Trust.Nodes a.Trust.Inner a.Own a.Votes a.Accepts a.Candidates a.Heard
 ) :=
 cL o5' Tryz.func102
theorem y7v a : eL (z4d a) (
 z2v [] a.Heard (a.Heard.length : Int) 0 a.Node a.Slot a.Round a.Seq a.Trust.Threshold a.Trust.Nodes a.Trust.Inner a.Own a.Votes a.Accepts a.Candidates a.Heard []
 ) :=
 cL o14' Tryz.func103
theorem y65 a b : eL (z38 a b) (
 Option.bind (z1i a.Heard) fun x0 =>
 Option.bind (z4l a) fun x1 =>
 capOk (List.length x0.2 + List.length ([(Nomination.mk x1.Node x1.Seq (Trust.mk x1.Trust.Threshold x1.Trust.Nodes x1.Trust.Inner) x1.Votes x1.Accepts)] : List Nomination)) <|
 Option.bind (z3z (x0.2 ++ ([(Nomination.mk x1.Node x1.Seq (Trust.mk x1.Trust.Threshold x1.Trust.Nodes x1.Trust.Inner) x1.Votes x1.Accepts)] : List Nomination))) fun x2 =>
 z26 (x0.2 ++ ([(Nomination.mk x1.Node x1.Seq (Trust.mk x1.Trust.Threshold x1.Trust.Nodes x1.Trust.Inner) x1.Votes x1.Accepts)] : List Nomination)) x2 (x2.length : Int) 0 a.Node a.Slot a.Round a.Seq a.Trust.Threshold a.Trust.Nodes a.Trust.Inner a.Own a.Votes a.Accepts a.Candidates a.Heard b.Members
 ) :=
 cL o13' Tryz.func104
theorem y7h a : eL (z3a a) (
 Option.bind (z32 a.Nodes) fun x0 =>
 z2l a.Inner (a.Inner.length : Int) 0 a.Threshold a.Nodes a.Inner 0 [] [] a.Threshold x0.2 []
 ) :=
 cL o15' Tryz.func100
theorem y5r (a : List (List UInt8)) : Le (
 capOk (List.length ([] : List (List UInt8)) + List.length a) <|
 some ((), (([] : List (List UInt8)) ++ a))
 ) (z1c a) :=
 qgf (T := tn) (c := qed Tryz.f101) (rest := q0b Tryz.f101 [1,1]) (o := ⟨[.ref 0],[[.own .s false]]⟩) sigOk 100000 (by kernel_rfl) Tryz.func101 (by kernel_rfl) (by kernel_rfl) (by kernel_rfl) (by kernel_rfl) (fun hx r hr => by subst hx; cases hr; exact ⟨rfl, rfl⟩)
theorem y51 a : eL (z1f a) (
 Option.bind (z1o a) fun x0 =>
 some (leB 0 x0)
 ) :=
 cL o0' Tryz.func134
theorem y8n a : eL (z5n a) (
 z39 0 a (a.length : Int) 0
 ) :=
 cL o3' Tryz.func137
theorem y4e a b c d : eL (z4s a b c d) (
 Option.bind (z5c a b c d) fun x0 =>
 bif neB x0 0 then
 some (0, x0)
 else
 z2w b c 0 d 0 a.Threshold a.Nodes a.Inner
 ) :=
 cL o3' Tryz.func139
theorem y6y a : eL (z4r a) (
 z2x a [] 0
 ) :=
 cL o19' Tryz.func140
theorem y6q (a : List Nomination) : Le (
 capOk (List.length ([] : List Nomination) + List.length a) <|
 some ((), (([] : List Nomination) ++ a))
 ) (z1i a) :=
 qgf (T := tn) (c := qed Tryz.f71) (rest := q0b Tryz.f71 [1,1]) (o := ⟨[.ref 0],[[.own .Nomination false]]⟩) sigOk 100000 (by kernel_rfl) Tryz.func71 (by kernel_rfl) (by kernel_rfl) (by kernel_rfl) (by kernel_rfl) (fun hx r hr => by subst hx; cases hr; exact ⟨rfl, rfl⟩)
theorem y6h a : eL (z4l a) (
 some (Nomination.mk a.Node a.Seq (Trust.mk a.Trust.Threshold a.Trust.Nodes a.Trust.Inner) a.Votes a.Accepts)
 ) :=
 cL o20' Tryz.func65
theorem y8m a : eL (z3z a) (
 z36 ([] : List (List UInt8)) a (a.length : Int) 0
 ) :=
 cL o5' Tryz.func141
theorem y6m (a : List Int) : Le (
 capOk (List.length ([] : List Int) + List.length a) <|
 some ((), (([] : List Int) ++ a))
 ) (z32 a) :=
 qgf (T := tn) (c := qed Tryz.f138) (rest := q0b Tryz.f138 [1,1]) (o := ⟨[.ref 0],[[.own .i64 false]]⟩) sigOk 100000 (by kernel_rfl) Tryz.func138 (by kernel_rfl) (by kernel_rfl) (by kernel_rfl) (by kernel_rfl) (fun hx r hr => by subst hx; cases hr; exact ⟨rfl, rfl⟩)
theorem y63 a : eL (z5k a) (
 bif leB 0 a then
 some (leB a 1023)
 else
 some false
 ) :=
 cL o0' Tryz.func66
theorem y7f a b c d : eL (z5b a b c d) (
 Option.bind (z50 a b c d) fun x0 =>
 bif neB x0.2 0 then
 some (0, x0.2)
 else
 z2y b c d 0 1 a.Threshold a.Nodes a.Inner
 ) :=
 cL o3' Tryz.func32
theorem y4g a : eL (z1o a) (
 z0p a (a.length : Int) 0
 ) :=
 cL o1' Tryz.func163
theorem y4q a b c d : eL (z5c a b c d) (
 Option.bind (z25 a) fun x0 =>
 bif neB x0 0 then
 some x0
 else
 bif ltB b 0 then
 some 5
 else
 bif leB 10 b then
 some 5
 else
 bif ltB c 0 then
 some 1
 else
 bif ltB 1000000 c then
 some 1
 else
 bif ltB d 1 then
 some 1
 else
 bif ltB 1000 d then
 some 1
 else
 some 0
 ) :=
 cL o1' Tryz.func164
theorem y8h a b c d : eL (z50 a b c d) (
 Option.bind (z5e a b c d) fun x0 =>
 bif neB x0 0 then
 some (0, x0)
 else
 z1h b c d b 0 a.Threshold a.Nodes a.Inner
 ) :=
 cL o3' Tryz.func11
theorem y86 a b c d : eL (z5e a b c d) (
 Option.bind (z3j a) fun x0 =>
 bif neB x0 0 then
 some x0
 else
 bif ltB b 0 then
 some 5
 else
 bif leB 10 b then
 some 5
 else
 bif ltB c 0 then
 some 1
 else
 bif ltB 1000000 c then
 some 1
 else
 bif ltB d 1 then
 some 1
 else
 bif ltB 1000 d then
 some 1
 else
 some 0
 ) :=
 cL o1' Tryz.func52
theorem y4j a : eL (z3b a) (
 Option.bind (z48 a) fun x0 =>
 bif !x0 then
 some false
 else
 Option.bind (z25 a.Trust) fun x1 =>
 bif neB x1 0 then
 some false
 else
 bif (ltB 200 (a.Own.length : Int)) then
 some false
 else
 Option.bind (z2o a.Votes) fun x2 =>
 bif !x2 then
 some false
 else
 Option.bind (z2o a.Accepts) fun x3 =>
 bif !x3 then
 some false
 else
 Option.bind (z2o a.Candidates) fun x4 =>
 bif !x4 then
 some false
 else
 Option.bind (z19 a.Candidates a.Node a.Slot a.Round a.Seq a.Trust.Threshold a.Trust.Nodes a.Trust.Inner a.Own a.Votes a.Accepts a.Candidates a.Heard) fun x5 =>
 bif x5.1 then
 some false
 else
 z1q x5.2.2.2.2.2.2.2.2.2.2.2.2 (x5.2.2.2.2.2.2.2.2.2.2.2.2.length : Int) 0 x5.2.1 x5.2.2.1 x5.2.2.2.1 x5.2.2.2.2.1 x5.2.2.2.2.2.1 x5.2.2.2.2.2.2.1 x5.2.2.2.2.2.2.2.1 x5.2.2.2.2.2.2.2.2.1 x5.2.2.2.2.2.2.2.2.2.1 x5.2.2.2.2.2.2.2.2.2.2.1 x5.2.2.2.2.2.2.2.2.2.2.2.1 x5.2.2.2.2.2.2.2.2.2.2.2.2
 ) :=
 cL o0' Tryz.func30
end Go.Proofs.YtglokalgdbegeaaGreat
