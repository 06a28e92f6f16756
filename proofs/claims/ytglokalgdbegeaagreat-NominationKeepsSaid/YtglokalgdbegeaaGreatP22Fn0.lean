/- What the functions come to, printed by a program and checked by the kernel. -/
import Derived.Test.YtglokalgdbegeaaGreatP22Df
namespace Go.Proofs.YtglokalgdbegeaaGreat
open Go Go.Ab
set_option maxRecDepth 100000
theorem law22_NominationKeeps_le a : eL (law22_NominationKeeps a) (
 Option.bind (z5z a) fun x0 =>
 Option.bind (z2c 4 x0.2.1 x0.2.2) fun x1 =>
 Option.bind (z2c 100 x1.2.1 x1.2.2) fun x2 =>
 Option.bind (z5a 4 2 x2.2.1 x2.2.2) fun x3 =>
 Option.bind (z5v x3.2.1 x3.2.2) fun x4 =>
 Option.bind (z2p x1.1 x2.1 x3.1 x4.1) fun x5 =>
 bif neB x5.2 0 then
 some false
 else
 bif neB x5.1.Seq 1 then
 some false
 else
 z1r 1 x4.2.1 x4.2.2 x5.1.Node x5.1.Slot x5.1.Round x5.1.Seq x5.1.Trust.Threshold x5.1.Trust.Nodes x5.1.Trust.Inner x5.1.Own x5.1.Votes x5.1.Accepts x5.1.Candidates x5.1.Heard
 ) :=
 cL o0' Tryz.func5
theorem y2b a : eL (z5z a) (
 hiK (List.length a) (if 400 < (a.length : Int) then 400 else (a.length : Int)) fun b0 =>
 some ((), (List.drop 0 (List.take b0 a)), 0)
 ) :=
 cL o25' Tryz.func8
theorem qy1 a b c : eL (z2c a b c) (
 bif (leB (b.length : Int) c) then
 some (0, b, c)
 else
 nth b c fun y0 =>
 chk (a ≠ 0) <|
 bif ltB (remI .i64 y0 a) 0 then
 some ((addI .i64 (remI .i64 y0 a) a), b, (addI .i64 c 1))
 else
 some ((remI .i64 y0 a), b, (addI .i64 c 1))
 ) :=
 cL o15' Tryz.func10
theorem y1y a b c d : eL (z5a a b c d) (
 Option.bind (z5h a b c d) fun x0 =>
 Option.bind (z39 x0.1) fun x1 =>
 bif neB x1 0 then
 Option.bind (z2c a x0.2.1 x0.2.2) fun x2 =>
 some ((Trust.mk 1 ([x2.1] : List Int) []), x2.2.1, x2.2.2)
 else
 some ((Trust.mk x0.1.Threshold x0.1.Nodes x0.1.Inner), x0.2.1, x0.2.2)
 ) :=
 cL o10' Tryz.func27
theorem y7j a b : eL (z5v a b) (
 Option.bind (z2c 8 a b) fun x0 =>
 nth ([([97] : List UInt8), ([98] : List UInt8), ([97, 97] : List UInt8), ([97, 98] : List UInt8), ([99] : List UInt8), ([122, 122] : List UInt8), ([97, 98, 99] : List UInt8), ([98] : List UInt8)] : List (List UInt8)) x0.1 fun y1 =>
 some (y1, x0.2.1, x0.2.2)
 ) :=
 cL o26' Tryz.func18
theorem y85 a b c d : eL (z2p a b c d) (
 Option.bind (z3n a) fun x0 =>
 bif !x0 then
 some ((Nominator.mk 0 0 0 0 (Trust.mk 0 [] []) [] ([] : List (List UInt8)) ([] : List (List UInt8)) ([] : List (List UInt8)) []), 5)
 else
 bif ltB b 0 then
 some ((Nominator.mk 0 0 0 0 (Trust.mk 0 [] []) [] ([] : List (List UInt8)) ([] : List (List UInt8)) ([] : List (List UInt8)) []), 1)
 else
 bif ltB 1000000 b then
 some ((Nominator.mk 0 0 0 0 (Trust.mk 0 [] []) [] ([] : List (List UInt8)) ([] : List (List UInt8)) ([] : List (List UInt8)) []), 1)
 else
 Option.bind (z23 c) fun x1 =>
 bif neB x1 0 then
 some ((Nominator.mk 0 0 0 0 (Trust.mk 0 [] []) [] ([] : List (List UInt8)) ([] : List (List UInt8)) ([] : List (List UInt8)) []), x1)
 else
 bif (ltB 200 (d.length : Int)) then
 some ((Nominator.mk 0 0 0 0 (Trust.mk 0 [] []) [] ([] : List (List UInt8)) ([] : List (List UInt8)) ([] : List (List UInt8)) []), 3)
 else
 Option.bind (z2q (Nominator.mk a b 1 1 (Trust.mk c.Threshold c.Nodes c.Inner) d ([] : List (List UInt8)) ([] : List (List UInt8)) ([] : List (List UInt8)) [])) fun x2 =>
 Option.bind (z1j x2) fun x3 =>
 some ((Nominator.mk x3.Node x3.Slot x3.Round x3.Seq (Trust.mk x3.Trust.Threshold x3.Trust.Nodes x3.Trust.Inner) x3.Own x3.Votes x3.Accepts x3.Candidates x3.Heard), 0)
 ) :=
 cL o11' Tryz.func12
theorem y2f a b c d : eL (z5h a b c d) (
 Option.bind (z5b a c d) fun x0 =>
 Option.bind (z2f 1 (if 5 < a then 5 else a) x0.2.1 x0.2.2) fun x1 =>
 hiK (List.length x0.1) x1.1 fun b2 =>
 z49 a b (List.drop 0 (List.take b2 x0.1)) ((List.length (List.drop 0 (List.take b2 x0.1)) : Nat) : Int) 0 x1.2.1 x1.2.2 0 [] [] 0 [] []
 ) :=
 cL o10' Tryz.func74
theorem qrm a : eL (z39 a) (
 Option.bind (z5f a) fun x0 =>
 bif ltB 4 x0 then
 some 3
 else
 Option.bind (z5k a) fun x1 =>
 bif ltB 200 x1 then
 some 3
 else
 Option.bind (z3l a) fun x2 =>
 some x2
 ) :=
 cL o1' Tryz.func75
theorem y5h a : eL (z3n a) (
 bif leB 0 a then
 some (ltB a 10)
 else
 some false
 ) :=
 cL o0' Tryz.func55
theorem y73 a : eL (z23 a) (
 Option.bind (z4f a) fun x0 =>
 bif ltB 4 x0 then
 some 3
 else
 Option.bind (z4q a) fun x1 =>
 bif ltB 200 x1 then
 some 3
 else
 Option.bind (z4g a) fun x2 =>
 some x2
 ) :=
 cL o1' Tryz.func56
theorem y7q a : eL (z2q a) (
 bif (eqB (a.Candidates.length : Int) 0) then
 Option.bind (z4v a) fun x0 =>
 Option.bind (z4h (Nominator.mk a.Node a.Slot a.Round a.Seq (Trust.mk a.Trust.Threshold a.Trust.Nodes a.Trust.Inner) a.Own x0 a.Accepts a.Candidates a.Heard)) fun x1 =>
 Option.bind (z38 (Nominator.mk a.Node a.Slot a.Round a.Seq (Trust.mk a.Trust.Threshold a.Trust.Nodes a.Trust.Inner) a.Own x0 a.Accepts a.Candidates a.Heard) x1) fun x2 =>
 z28 x2.1 x2.2 a.Node a.Slot a.Round a.Seq a.Trust.Threshold a.Trust.Nodes a.Trust.Inner a.Own x0 a.Accepts a.Candidates a.Heard 0 0 0 0 0 [] [] [] ([] : List (List UInt8)) ([] : List (List UInt8)) ([] : List (List UInt8)) [] x1.Members
 else
 Option.bind (z4h a) fun x3 =>
 Option.bind (z38 a x3) fun x4 =>
 z28 x4.1 x4.2 a.Node a.Slot a.Round a.Seq a.Trust.Threshold a.Trust.Nodes a.Trust.Inner a.Own a.Votes a.Accepts a.Candidates a.Heard 0 0 0 0 0 [] [] [] ([] : List (List UInt8)) ([] : List (List UInt8)) ([] : List (List UInt8)) [] x3.Members
 ) :=
 cL o6' Tryz.func58
theorem y7z a : eL (z1j a) (
 Option.bind (z3c a.Trust) fun x0 =>
 Option.bind (z1b a.Votes) fun x1 =>
 Option.bind (z1b a.Accepts) fun x2 =>
 Option.bind (z1b a.Candidates) fun x3 =>
 z2j a.Heard (a.Heard.length : Int) 0 a.Node a.Slot a.Round a.Seq x0.Threshold x0.Nodes x0.Inner a.Own x1.2 x2.2 x3.2 [] 0 0 0 0 0 [] [] [] ([] : List (List UInt8)) ([] : List (List UInt8)) ([] : List (List UInt8)) []
 ) :=
 cL o6' Tryz.func57
theorem y8m a b c : eL (z5b a b c) (
 z3d a [] 0 b c
 ) :=
 cL o16' Tryz.func117
theorem y96 a b c d : eL (z2f a b c d) (
 Option.bind (z2c (addI .i64 (subI .i64 b a) 1) c d) fun x0 =>
 some ((addI .i64 a x0.1), x0.2.1, x0.2.2)
 ) :=
 cL o15' Tryz.func9
theorem y7k a : eL (z5f a) (
 z43 0 a.Inner (a.Inner.length : Int) 0 a.Threshold a.Nodes a.Inner
 ) :=
 cL o1' Tryz.func118
theorem y8g a : eL (z5k a) (
 z4j (addI .i64 (a.Nodes.length : Int) (a.Inner.length : Int)) a.Inner (a.Inner.length : Int) 0 a.Threshold a.Nodes a.Inner
 ) :=
 cL o1' Tryz.func119
theorem qrx a : eL (z3l a) (
 bif ltB a.Threshold 1 then
 some 4
 else
 bif (ltB (addI .i64 (a.Nodes.length : Int) (a.Inner.length : Int)) a.Threshold) then
 some 4
 else
 z1x a.Nodes (a.Nodes.length : Int) 0 a.Threshold a.Nodes a.Inner
 ) :=
 cL o1' Tryz.func120
theorem y7r a : eL (z4f a) (
 z2s 0 a.Inner (a.Inner.length : Int) 0 a.Threshold a.Nodes a.Inner
 ) :=
 cL o1' Tryz.func97
theorem y9h a : eL (z4q a) (
 z35 (addI .i64 (a.Nodes.length : Int) (a.Inner.length : Int)) a.Inner (a.Inner.length : Int) 0 a.Threshold a.Nodes a.Inner
 ) :=
 cL o1' Tryz.func98
theorem y5g a : eL (z4g a) (
 bif ltB a.Threshold 1 then
 some 4
 else
 bif (ltB (addI .i64 (a.Nodes.length : Int) (a.Inner.length : Int)) a.Threshold) then
 some 4
 else
 Option.bind (z1e a.Nodes) fun x0 =>
 bif x0 then
 some 5
 else
 Option.bind (z5s a.Nodes) fun x1 =>
 bif neB x1.2 0 then
 some x1.2
 else
 z2t a.Inner (a.Inner.length : Int) 0 a.Threshold a.Nodes a.Inner
 ) :=
 cL o1' Tryz.func99
theorem y6z a : eL (z4v a) (
 Option.bind (z4z a.Trust a.Node a.Slot a.Round) fun x0 =>
 Option.bind (z4y x0.1) fun x1 =>
 z1s a.Votes x1 (x1.length : Int) 0 a.Node a.Slot a.Round a.Seq a.Trust.Threshold a.Trust.Nodes a.Trust.Inner a.Own a.Votes a.Accepts a.Candidates a.Heard
 ) :=
 cL o5' Tryz.func102
theorem y9k a : eL (z4h a) (
 z2u [] a.Heard (a.Heard.length : Int) 0 a.Node a.Slot a.Round a.Seq a.Trust.Threshold a.Trust.Nodes a.Trust.Inner a.Own a.Votes a.Accepts a.Candidates a.Heard []
 ) :=
 cL o12' Tryz.func103
theorem y6h a b : eL (z38 a b) (
 Option.bind (z1g a.Heard) fun x0 =>
 Option.bind (z4r a) fun x1 =>
 capOk (List.length x0.2 + List.length ([(Nomination.mk x1.Node x1.Seq (Trust.mk x1.Trust.Threshold x1.Trust.Nodes x1.Trust.Inner) x1.Votes x1.Accepts)] : List Nomination)) <|
 Option.bind (z41 (x0.2 ++ ([(Nomination.mk x1.Node x1.Seq (Trust.mk x1.Trust.Threshold x1.Trust.Nodes x1.Trust.Inner) x1.Votes x1.Accepts)] : List Nomination))) fun x2 =>
 z24 (x0.2 ++ ([(Nomination.mk x1.Node x1.Seq (Trust.mk x1.Trust.Threshold x1.Trust.Nodes x1.Trust.Inner) x1.Votes x1.Accepts)] : List Nomination)) x2 (x2.length : Int) 0 a.Node a.Slot a.Round a.Seq a.Trust.Threshold a.Trust.Nodes a.Trust.Inner a.Own a.Votes a.Accepts a.Candidates a.Heard b.Members
 ) :=
 cL o13' Tryz.func104
theorem y9f a : eL (z3c a) (
 Option.bind (z32 a.Nodes) fun x0 =>
 z2l a.Inner (a.Inner.length : Int) 0 a.Threshold a.Nodes a.Inner 0 [] [] a.Threshold x0.2 []
 ) :=
 cL o14' Tryz.func100
theorem y8c (a : List (List UInt8)) : Le (
 capOk (List.length ([] : List (List UInt8)) + List.length a) <|
 some ((), (([] : List (List UInt8)) ++ a))
 ) (z1b a) :=
 qha (T := tn) (c := qea Tryz.f101) (rest := q0b Tryz.f101 [1,1]) (o := ⟨[.ref 0],[[.own .s false]]⟩) sigOk 100000 (by kernel_rfl) Tryz.func101 (by kernel_rfl) (by kernel_rfl) (by kernel_rfl) (by kernel_rfl) (fun hx r hr => by subst hx; cases hr; exact ⟨rfl, rfl⟩)
theorem y8d a : eL (z1e a) (
 Option.bind (z1l a) fun x0 =>
 some (leB 0 x0)
 ) :=
 cL o0' Tryz.func134
theorem y6a a : eL (z5s a) (
 z3a 0 a (a.length : Int) 0
 ) :=
 cL o3' Tryz.func137
theorem y7l a b c d : eL (z4z a b c d) (
 Option.bind (z5c a b c d) fun x0 =>
 bif neB x0 0 then
 some (0, x0)
 else
 z2v b c 0 d 0 a.Threshold a.Nodes a.Inner
 ) :=
 cL o3' Tryz.func139
theorem y6y a : eL (z4y a) (
 z2w a [] 0
 ) :=
 cL o17' Tryz.func140
theorem y78 (a : List Nomination) : Le (
 capOk (List.length ([] : List Nomination) + List.length a) <|
 some ((), (([] : List Nomination) ++ a))
 ) (z1g a) :=
 qha (T := tn) (c := qea Tryz.f71) (rest := q0b Tryz.f71 [1,1]) (o := ⟨[.ref 0],[[.own .Nomination false]]⟩) sigOk 100000 (by kernel_rfl) Tryz.func71 (by kernel_rfl) (by kernel_rfl) (by kernel_rfl) (by kernel_rfl) (fun hx r hr => by subst hx; cases hr; exact ⟨rfl, rfl⟩)
theorem y6b a : eL (z4r a) (
 some (Nomination.mk a.Node a.Seq (Trust.mk a.Trust.Threshold a.Trust.Nodes a.Trust.Inner) a.Votes a.Accepts)
 ) :=
 cL o18' Tryz.func65
theorem y8i a : eL (z41 a) (
 z36 ([] : List (List UInt8)) a (a.length : Int) 0
 ) :=
 cL o5' Tryz.func141
theorem y79 (a : List Int) : Le (
 capOk (List.length ([] : List Int) + List.length a) <|
 some ((), (([] : List Int) ++ a))
 ) (z32 a) :=
 qha (T := tn) (c := qea Tryz.f138) (rest := q0b Tryz.f138 [1,1]) (o := ⟨[.ref 0],[[.own .i64 false]]⟩) sigOk 100000 (by kernel_rfl) Tryz.func138 (by kernel_rfl) (by kernel_rfl) (by kernel_rfl) (by kernel_rfl) (fun hx r hr => by subst hx; cases hr; exact ⟨rfl, rfl⟩)
theorem y6d a : eL (z1l a) (
 z0p a (a.length : Int) 0
 ) :=
 cL o1' Tryz.func163
theorem y74 a b c d : eL (z5c a b c d) (
 Option.bind (z23 a) fun x0 =>
 bif neB x0 0 then
 some x0
 else
 bif ltB b 0 then
 some 5
 else
 bif leB 10 b then
 some 5
 else
 bif ltB c 0 then
 some 1
 else
 bif ltB 1000000 c then
 some 1
 else
 bif ltB d 1 then
 some 1
 else
 bif ltB 1000 d then
 some 1
 else
 some 0
 ) :=
 cL o1' Tryz.func164
theorem y1k a b c d e f g h i j k l m n o : eL (z1r a b c d e f g h i j k l m n o) (
 bif ltB a 9 then
 Option.bind (law22_step (Nominator.mk d e f g (Trust.mk h i j) k l m n o) 4 a b c) fun x0 =>
 bif neB x0.2.1 0 then
 z1r (addI .i64 a 1) x0.2.2.1 x0.2.2.2 d e f g h i j k l m n o
 else
 Option.bind (z5m x0.1) fun x1 =>
 bif !x1 then
 some false
 else
 Option.bind (z2r x0.1) fun x2 =>
 bif !x2 then
 some false
 else
 Option.bind (law22_kept l x0.1.Votes) fun x3 =>
 bif !x3 then
 some false
 else
 Option.bind (law22_kept m x0.1.Accepts) fun x4 =>
 bif !x4 then
 some false
 else
 Option.bind (law22_kept n x0.1.Candidates) fun x5 =>
 bif !x5 then
 some false
 else
 Option.bind (z5t (Nominator.mk d e 0 0 (Trust.mk h i j) k l m ([] : List (List UInt8)) []) (Nominator.mk x0.1.Node x0.1.Slot 0 0 (Trust.mk x0.1.Trust.Threshold x0.1.Trust.Nodes x0.1.Trust.Inner) x0.1.Own x0.1.Votes x0.1.Accepts ([] : List (List UInt8)) [])) fun x6 =>
 bif (!((eqB x0.1.Seq g) == x6)) then
 some false
 else
 bif ltB (addI .i64 g 1) x0.1.Seq then
 some false
 else
 bif ltB x0.1.Seq g then
 some false
 else
 z1r (addI .i64 a 1) x0.2.2.1 x0.2.2.2 x0.1.Node x0.1.Slot x0.1.Round x0.1.Seq x0.1.Trust.Threshold x0.1.Trust.Nodes x0.1.Trust.Inner x0.1.Own x0.1.Votes x0.1.Accepts x0.1.Candidates x0.1.Heard
 else
 Option.bind (law22_awake) fun x7 =>
 some x7
 ) :=
 gL o0' (q0b Tryz.f5 [1,1,1,1,0,1,0,0])
theorem law22_step_le a b c d e : eL (law22_step a b c d e) (
 Option.bind (z2c 6 d e) fun x0 =>
 bif eqB x0.1 0 then
 Option.bind (z50 a) fun x1 =>
 some ((Nominator.mk x1.1.Node x1.1.Slot x1.1.Round x1.1.Seq (Trust.mk x1.1.Trust.Threshold x1.1.Trust.Nodes x1.1.Trust.Inner) x1.1.Own x1.1.Votes x1.1.Accepts x1.1.Candidates x1.1.Heard), x1.2, x0.2.1, x0.2.2)
 else
 bif eqB x0.1 1 then
 Option.bind (z5a b 2 x0.2.1 x0.2.2) fun x2 =>
 Option.bind (z4b a x2.1) fun x3 =>
 some ((Nominator.mk x3.1.Node x3.1.Slot x3.1.Round x3.1.Seq (Trust.mk x3.1.Trust.Threshold x3.1.Trust.Nodes x3.1.Trust.Inner) x3.1.Own x3.1.Votes x3.1.Accepts x3.1.Candidates x3.1.Heard), x3.2, x2.2.1, x2.2.2)
 else
 Option.bind (z5d b x0.2.1 x0.2.2) fun x4 =>
 Option.bind (z51 a (Nomination.mk x4.1.Node (addI .i64 x4.1.Seq (mulI .i64 5 c)) (Trust.mk x4.1.Trust.Threshold x4.1.Trust.Nodes x4.1.Trust.Inner) x4.1.Votes x4.1.Accepts)) fun x5 =>
 some ((Nominator.mk x5.1.Node x5.1.Slot x5.1.Round x5.1.Seq (Trust.mk x5.1.Trust.Threshold x5.1.Trust.Nodes x5.1.Trust.Inner) x5.1.Own x5.1.Votes x5.1.Accepts x5.1.Candidates x5.1.Heard), x5.2, x4.2.1, x4.2.2)
 ) :=
 cL o27' Tryz.func28
theorem y76 a : eL (z5m a) (
 bif ltB a.Node 0 then
 some false
 else
 bif leB 10 a.Node then
 some false
 else
 bif ltB a.Slot 0 then
 some false
 else
 bif ltB 1000000 a.Slot then
 some false
 else
 bif ltB a.Round 1 then
 some false
 else
 bif ltB 1000 a.Round then
 some false
 else
 bif ltB a.Seq 1 then
 some false
 else
 bif ltB 1000000 a.Seq then
 some false
 else
 Option.bind (z39 a.Trust) fun x0 =>
 bif neB x0 0 then
 some false
 else
 bif (ltB 200 (a.Own.length : Int)) then
 some false
 else
 Option.bind (z48 a.Votes) fun x1 =>
 bif !x1 then
 some false
 else
 Option.bind (z48 a.Accepts) fun x2 =>
 bif !x2 then
 some false
 else
 Option.bind (z48 a.Candidates) fun x3 =>
 bif !x3 then
 some false
 else
 z3i a.Candidates (a.Candidates.length : Int) 0 a.Node a.Slot a.Round a.Seq a.Trust.Threshold a.Trust.Nodes a.Trust.Inner a.Own a.Votes a.Accepts a.Candidates a.Heard
 ) :=
 cL o0' Tryz.func29
theorem y5r a : eL (z2r a) (
 Option.bind (z4c a) fun x0 =>
 bif !x0 then
 some false
 else
 Option.bind (z23 a.Trust) fun x1 =>
 bif neB x1 0 then
 some false
 else
 bif (ltB 200 (a.Own.length : Int)) then
 some false
 else
 Option.bind (z2o a.Votes) fun x2 =>
 bif !x2 then
 some false
 else
 Option.bind (z2o a.Accepts) fun x3 =>
 bif !x3 then
 some false
 else
 Option.bind (z2o a.Candidates) fun x4 =>
 bif !x4 then
 some false
 else
 Option.bind (z18 a.Candidates a.Node a.Slot a.Round a.Seq a.Trust.Threshold a.Trust.Nodes a.Trust.Inner a.Own a.Votes a.Accepts a.Candidates a.Heard) fun x5 =>
 bif x5.1 then
 some false
 else
 z1n x5.2.2.2.2.2.2.2.2.2.2.2.2 (x5.2.2.2.2.2.2.2.2.2.2.2.2.length : Int) 0 x5.2.1 x5.2.2.1 x5.2.2.2.1 x5.2.2.2.2.1 x5.2.2.2.2.2.1 x5.2.2.2.2.2.2.1 x5.2.2.2.2.2.2.2.1 x5.2.2.2.2.2.2.2.2.1 x5.2.2.2.2.2.2.2.2.2.1 x5.2.2.2.2.2.2.2.2.2.2.1 x5.2.2.2.2.2.2.2.2.2.2.2.1 x5.2.2.2.2.2.2.2.2.2.2.2.2
 ) :=
 cL o0' Tryz.func30
theorem law22_kept_le a b : eL (law22_kept a b) (
 z3w b a (a.length : Int) 0
 ) :=
 cL o0' Tryz.func26
end Go.Proofs.YtglokalgdbegeaaGreat
