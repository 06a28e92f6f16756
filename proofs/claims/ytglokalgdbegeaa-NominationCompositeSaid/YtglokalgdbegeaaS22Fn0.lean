/- What the functions come to, printed by a program and checked by the kernel. -/
import Derived.Test.YtglokalgdbegeaaS22Df
namespace Go.Proofs.Ytglokalgdbegeaa
open Go Go.Ab
set_option maxRecDepth 100000
theorem law22_NominationComposite_le a b : eL (law22_NominationComposite a b) (
 bif (ltB 40 (a.length : Int)) then
 Option.bind (law22_awake) fun x0 =>
 some x0
 else
 bif (ltB 40 (b.length : Int)) then
 Option.bind (law22_awake) fun x1 =>
 some x1
 else
 capOk (List.length ([] : List (List UInt8)) + List.length a) <|
 capOk (List.length (([] : List (List UInt8)) ++ a) + List.length b) <|
 Option.bind (z1a ((([] : List (List UInt8)) ++ a) ++ b)) fun x2 =>
 capOk (List.length ([] : List (List UInt8)) + List.length b) <|
 capOk (List.length (([] : List (List UInt8)) ++ b) + List.length a) <|
 Option.bind (z1a ((([] : List (List UInt8)) ++ b) ++ a)) fun x3 =>
 Option.bind (z1a a) fun x4 =>
 Option.bind (z1a b) fun x5 =>
 Option.bind (z1a ([x4.1, x5.1] : List (List UInt8))) fun x6 =>
 bif !eqS x2.1 x3.1 then
 some false
 else
 bif !(x2.2 == x3.2) then
 some false
 else
 bif !eqS x2.1 x6.1 then
 some false
 else
 bif !(x2.2 == x6.2) then
 some false
 else
 bif x4.2 then
 bif !(x2.2 == true) then
 some false
 else
 bif !x2.2 then
 Option.bind (law22_awake) fun x7 =>
 some x7
 else
 capOk (List.length ([] : List (List UInt8)) + List.length a) <|
 capOk (List.length (([] : List (List UInt8)) ++ a) + List.length b) <|
 Option.bind (law22_kept ([x2.1] : List (List UInt8)) ((([] : List (List UInt8)) ++ a) ++ b)) fun x8 =>
 bif x8 then
 Option.bind (law22_awake) fun x9 =>
 some x9
 else
 some false
 else
 bif !(x2.2 == x5.2) then
 some false
 else
 bif !x2.2 then
 Option.bind (law22_awake) fun x10 =>
 some x10
 else
 capOk (List.length ([] : List (List UInt8)) + List.length a) <|
 capOk (List.length (([] : List (List UInt8)) ++ a) + List.length b) <|
 Option.bind (law22_kept ([x2.1] : List (List UInt8)) ((([] : List (List UInt8)) ++ a) ++ b)) fun x11 =>
 bif x11 then
 Option.bind (law22_awake) fun x12 =>
 some x12
 else
 some false
 ) :=
 cL o0' Try.func3
theorem law22_awake_le  : Le (
 Option.bind (z1a ([([98] : List UInt8), ([97, 97] : List UInt8), ([97, 98] : List UInt8)] : List (List UInt8))) fun x0 =>
 Option.bind (z2w 3 0 (Trust.mk 1 ([3] : List Int) ([] : List Trust)) ([109, 101] : List UInt8)) fun x1 =>
 bif x0.2 then
 bif eqS x0.1 ([97, 98] : List UInt8) then
 bif eqB x1.2 0 then
 bif (eqB (x1.1.Candidates.length : Int) 1) then
 nth x1.1.Candidates 0 fun y2 =>
 some (eqS y2 ([109, 101] : List UInt8))
 else
 some false
 else
 some false
 else
 some false
 else
 some false
 ) (law22_awake) :=
 cL o0' Try.func4
theorem qzx a : eL (z1a a) (
 z1d [] a (a.length : Int) 0
 ) :=
 cL o9' Try.func5
theorem law22_kept_le a b : eL (law22_kept a b) (
 z2t b a (a.length : Int) 0
 ) :=
 cL o0' Try.func6
theorem qzd a b c d : eL (z2w a b c d) (
 Option.bind (z3k a) fun x0 =>
 bif !x0 then
 some ((Nominator.mk 0 0 0 0 (Trust.mk 0 [] []) [] ([] : List (List UInt8)) ([] : List (List UInt8)) ([] : List (List UInt8)) []), 5)
 else
 bif ltB b 0 then
 some ((Nominator.mk 0 0 0 0 (Trust.mk 0 [] []) [] ([] : List (List UInt8)) ([] : List (List UInt8)) ([] : List (List UInt8)) []), 1)
 else
 bif ltB 1000000 b then
 some ((Nominator.mk 0 0 0 0 (Trust.mk 0 [] []) [] ([] : List (List UInt8)) ([] : List (List UInt8)) ([] : List (List UInt8)) []), 1)
 else
 Option.bind (z2d c) fun x1 =>
 bif neB x1 0 then
 some ((Nominator.mk 0 0 0 0 (Trust.mk 0 [] []) [] ([] : List (List UInt8)) ([] : List (List UInt8)) ([] : List (List UInt8)) []), x1)
 else
 bif (ltB 200 (d.length : Int)) then
 some ((Nominator.mk 0 0 0 0 (Trust.mk 0 [] []) [] ([] : List (List UInt8)) ([] : List (List UInt8)) ([] : List (List UInt8)) []), 3)
 else
 Option.bind (z2j (Nominator.mk a b 1 1 (Trust.mk c.Threshold c.Nodes c.Inner) d ([] : List (List UInt8)) ([] : List (List UInt8)) ([] : List (List UInt8)) [])) fun x2 =>
 Option.bind (z2x x2) fun x3 =>
 some ((Nominator.mk x3.Node x3.Slot x3.Round x3.Seq (Trust.mk x3.Trust.Threshold x3.Trust.Nodes x3.Trust.Inner) x3.Own x3.Votes x3.Accepts x3.Candidates x3.Heard), 0)
 ) :=
 cL o18' Try.func7
theorem y29 a : eL (z3k a) (
 bif leB 0 a then
 some (ltB a 10)
 else
 some false
 ) :=
 cL o0' Try.func10
theorem y1b a : eL (z2d a) (
 Option.bind (z33 a) fun x0 =>
 bif ltB 4 x0 then
 some 3
 else
 Option.bind (z3b a) fun x1 =>
 bif ltB 200 x1 then
 some 3
 else
 Option.bind (z34 a) fun x2 =>
 some x2
 ) :=
 cL o1' Try.func11
theorem y2c a : eL (z2j a) (
 bif (eqB (a.Candidates.length : Int) 0) then
 Option.bind (z3g a) fun x0 =>
 Option.bind (z35 (Nominator.mk a.Node a.Slot a.Round a.Seq (Trust.mk a.Trust.Threshold a.Trust.Nodes a.Trust.Inner) a.Own x0 a.Accepts a.Candidates a.Heard)) fun x1 =>
 Option.bind (z2e (Nominator.mk a.Node a.Slot a.Round a.Seq (Trust.mk a.Trust.Threshold a.Trust.Nodes a.Trust.Inner) a.Own x0 a.Accepts a.Candidates a.Heard) x1) fun x2 =>
 z1r x2.1 x2.2 a.Node a.Slot a.Round a.Seq a.Trust.Threshold a.Trust.Nodes a.Trust.Inner a.Own x0 a.Accepts a.Candidates a.Heard 0 0 0 0 0 [] [] [] ([] : List (List UInt8)) ([] : List (List UInt8)) ([] : List (List UInt8)) [] x1.Members
 else
 Option.bind (z35 a) fun x3 =>
 Option.bind (z2e a x3) fun x4 =>
 z1r x4.1 x4.2 a.Node a.Slot a.Round a.Seq a.Trust.Threshold a.Trust.Nodes a.Trust.Inner a.Own a.Votes a.Accepts a.Candidates a.Heard 0 0 0 0 0 [] [] [] ([] : List (List UInt8)) ([] : List (List UInt8)) ([] : List (List UInt8)) [] x3.Members
 ) :=
 cL o7' Try.func13
theorem y0z a : eL (z2x a) (
 Option.bind (z2g a.Trust) fun x0 =>
 Option.bind (z15 a.Votes) fun x1 =>
 Option.bind (z15 a.Accepts) fun x2 =>
 Option.bind (z15 a.Candidates) fun x3 =>
 z1x a.Heard (a.Heard.length : Int) 0 a.Node a.Slot a.Round a.Seq x0.Threshold x0.Nodes x0.Inner a.Own x1.2 x2.2 x3.2 [] 0 0 0 0 0 [] [] [] ([] : List (List UInt8)) ([] : List (List UInt8)) ([] : List (List UInt8)) []
 ) :=
 cL o7' Try.func12
theorem y2z a : eL (z33 a) (
 z22 0 a.Inner (a.Inner.length : Int) 0 a.Threshold a.Nodes a.Inner
 ) :=
 cL o1' Try.func17
theorem y1k a : eL (z3b a) (
 z2a (addI .i64 (a.Nodes.length : Int) (a.Inner.length : Int)) a.Inner (a.Inner.length : Int) 0 a.Threshold a.Nodes a.Inner
 ) :=
 cL o1' Try.func18
theorem y28 a : eL (z34 a) (
 bif ltB a.Threshold 1 then
 some 4
 else
 bif (ltB (addI .i64 (a.Nodes.length : Int) (a.Inner.length : Int)) a.Threshold) then
 some 4
 else
 Option.bind (z17 a.Nodes) fun x0 =>
 bif x0 then
 some 5
 else
 Option.bind (z3x a.Nodes) fun x1 =>
 bif neB x1.2 0 then
 some x1.2
 else
 z23 a.Inner (a.Inner.length : Int) 0 a.Threshold a.Nodes a.Inner
 ) :=
 cL o1' Try.func19
theorem y2i a : eL (z3g a) (
 Option.bind (z3l a.Trust a.Node a.Slot a.Round) fun x0 =>
 Option.bind (z3j x0.1) fun x1 =>
 z1h a.Votes x1 (x1.length : Int) 0 a.Node a.Slot a.Round a.Seq a.Trust.Threshold a.Trust.Nodes a.Trust.Inner a.Own a.Votes a.Accepts a.Candidates a.Heard
 ) :=
 cL o4' Try.func23
theorem y0c a : eL (z35 a) (
 z24 [] a.Heard (a.Heard.length : Int) 0 a.Node a.Slot a.Round a.Seq a.Trust.Threshold a.Trust.Nodes a.Trust.Inner a.Own a.Votes a.Accepts a.Candidates a.Heard []
 ) :=
 cL o10' Try.func24
theorem qzu a b : eL (z2e a b) (
 Option.bind (z1i a.Heard) fun x0 =>
 Option.bind (z3c a) fun x1 =>
 capOk (List.length x0.2 + List.length ([(Nomination.mk x1.Node x1.Seq (Trust.mk x1.Trust.Threshold x1.Trust.Nodes x1.Trust.Inner) x1.Votes x1.Accepts)] : List Nomination)) <|
 Option.bind (z2y (x0.2 ++ ([(Nomination.mk x1.Node x1.Seq (Trust.mk x1.Trust.Threshold x1.Trust.Nodes x1.Trust.Inner) x1.Votes x1.Accepts)] : List Nomination))) fun x2 =>
 z1n (x0.2 ++ ([(Nomination.mk x1.Node x1.Seq (Trust.mk x1.Trust.Threshold x1.Trust.Nodes x1.Trust.Inner) x1.Votes x1.Accepts)] : List Nomination)) x2 (x2.length : Int) 0 a.Node a.Slot a.Round a.Seq a.Trust.Threshold a.Trust.Nodes a.Trust.Inner a.Own a.Votes a.Accepts a.Candidates a.Heard b.Members
 ) :=
 cL o9' Try.func25
theorem y2e a : eL (z2g a) (
 Option.bind (z28 a.Nodes) fun x0 =>
 z1z a.Inner (a.Inner.length : Int) 0 a.Threshold a.Nodes a.Inner 0 [] [] a.Threshold x0.2 []
 ) :=
 cL o11' Try.func20
theorem y0n (a : List (List UInt8)) : Le (
 capOk (List.length ([] : List (List UInt8)) + List.length a) <|
 some ((), (([] : List (List UInt8)) ++ a))
 ) (z15 a) :=
 qfd (T := tn) (c := qdg Try.f21) (rest := q0c Try.f21 [1,1]) (o := ⟨[.ref 0],[[.own .s false]]⟩) sigOk 100000 (by kernel_rfl) Try.func21 (by kernel_rfl) (by kernel_rfl) (by kernel_rfl) (by kernel_rfl) (fun hx r hr => by subst hx; cases hr; exact ⟨rfl, rfl⟩)
theorem y08 a : eL (z17 a) (
 Option.bind (z1c a) fun x0 =>
 some (leB 0 x0)
 ) :=
 cL o0' Try.func33
theorem y0o a : eL (z3x a) (
 z2f 0 a (a.length : Int) 0
 ) :=
 cL o5' Try.func36
theorem y1o a b c d : eL (z3l a b c d) (
 Option.bind (z3u a b c d) fun x0 =>
 bif neB x0 0 then
 some (0, x0)
 else
 z25 b c 0 d 0 a.Threshold a.Nodes a.Inner
 ) :=
 cL o5' Try.func38
theorem qzh a : eL (z3j a) (
 z26 a [] 0
 ) :=
 cL o13' Try.func39
theorem qzf (a : List Nomination) : Le (
 capOk (List.length ([] : List Nomination) + List.length a) <|
 some ((), (([] : List Nomination) ++ a))
 ) (z1i a) :=
 qfd (T := tn) (c := qdg Try.f27) (rest := q0c Try.f27 [1,1]) (o := ⟨[.ref 0],[[.own .Nomination false]]⟩) sigOk 100000 (by kernel_rfl) Try.func27 (by kernel_rfl) (by kernel_rfl) (by kernel_rfl) (by kernel_rfl) (fun hx r hr => by subst hx; cases hr; exact ⟨rfl, rfl⟩)
theorem y2t a : eL (z3c a) (
 some (Nomination.mk a.Node a.Seq (Trust.mk a.Trust.Threshold a.Trust.Nodes a.Trust.Inner) a.Votes a.Accepts)
 ) :=
 cL o14' Try.func28
theorem y1l a : eL (z2y a) (
 z2b ([] : List (List UInt8)) a (a.length : Int) 0
 ) :=
 cL o4' Try.func40
theorem y2g (a : List Int) : Le (
 capOk (List.length ([] : List Int) + List.length a) <|
 some ((), (([] : List Int) ++ a))
 ) (z28 a) :=
 qfd (T := tn) (c := qdg Try.f37) (rest := q0c Try.f37 [1,1]) (o := ⟨[.ref 0],[[.own .i64 false]]⟩) sigOk 100000 (by kernel_rfl) Try.func37 (by kernel_rfl) (by kernel_rfl) (by kernel_rfl) (by kernel_rfl) (fun hx r hr => by subst hx; cases hr; exact ⟨rfl, rfl⟩)
theorem y0u a : eL (z1c a) (
 z0m a (a.length : Int) 0
 ) :=
 cL o1' Try.func48
theorem qza a b c d : eL (z3u a b c d) (
 Option.bind (z2d a) fun x0 =>
 bif neB x0 0 then
 some x0
 else
 bif ltB b 0 then
 some 5
 else
 bif leB 10 b then
 some 5
 else
 bif ltB c 0 then
 some 1
 else
 bif ltB 1000000 c then
 some 1
 else
 bif ltB d 1 then
 some 1
 else
 bif ltB 1000 d then
 some 1
 else
 some 0
 ) :=
 cL o1' Try.func49
theorem qxd a b c d : eL (z1d a b c d) (
 bif ltB d c then
 nth b d fun y0 =>
 Option.bind (z3h y0) fun x1 =>
 bif x1 then
 Option.bind (z06 y0 a) fun x2 =>
 bif ltB 0 x2 then
 z1d y0 b c (addI .i64 d 1)
 else
 z1d a b c (addI .i64 d 1)
 else
 z1d a b c (addI .i64 d 1)
 else
 some (a, (!eqS a []))
 ) :=
 gL o9' (q0c Try.f5 [1,1,0,1,0,0])
theorem y1d a : eL (z3h a) (
 bif (leB 1 (a.length : Int)) then
 some (leB (a.length : Int) 200)
 else
 some false
 ) :=
 cL o0' Try.func8
theorem y0v a b : eL (z06 a b) (
 Option.bind (z2h (a.length : Int) (b.length : Int)) fun x0 =>
 Option.bind (z2v a b) fun x1 =>
 Option.bind (z3v ([x0, x1] : List Int)) fun x2 =>
 some x2
 ) :=
 cL o1' Try.func9
theorem qzs a b : eL (z2h a b) (
 Option.bind (z3d a) fun x0 =>
 Option.bind (z3d b) fun x1 =>
 bif x0 then
 bif x1 then
 some 0
 else
 some (-1)
 else
 bif x1 then
 some 1
 else
 bif ltB a b then
 some (-1)
 else
 bif ltB b a then
 some 1
 else
 some 0
 ) :=
 cL o1' Try.func15
theorem y25 a b : eL (z2v a b) (
 Option.bind (z2q a) fun x0 =>
 Option.bind (z2q b) fun x1 =>
 bif x0 then
 bif x1 then
 some 0
 else
 some (-1)
 else
 bif x1 then
 some 1
 else
 bif ltS a b then
 some (-1)
 else
 bif !leS a b then
 some 1
 else
 some 0
 ) :=
 cL o1' Try.func16
theorem y1y a : eL (z3v a) (
 z31 0 a (a.length : Int) 0
 ) :=
 cL o1' Try.func14
theorem y2n a : eL (z3d a) (
 some (neB a a)
 ) :=
 cL o0' Try.func31
theorem y1z a : eL (z2q a) (
 some (!eqS a a)
 ) :=
 cL o0' Try.func32
theorem qx6 a b c d : eL (z2t a b c d) (
 bif ltB d c then
 nth b d fun y0 =>
 z2u a y0 false b c d a (a.length : Int) 0
 else
 some true
 ) :=
 gL o0' (q0c Try.f6 [1,0,1,0,0])
theorem y2v a b c d e f g h i j k l m n o p q r s t u v w x y z A : eL (z1r a b c d e f g h i j k l m n o p q r s t u v w x y z A) (
 bif b then
 Option.bind (z2k l a) fun x0 =>
 Option.bind (z2e (Nominator.mk c d e f (Trust.mk g h i) j k x0 m n) (Config.mk A)) fun x1 =>
 z1r x1.1 x1.2 c d e f g h i j k x0 m n o p q r s t u v w x y z A
 else
 Option.bind (z1i n) fun x2 =>
 Option.bind (z3c (Nominator.mk c d e f (Trust.mk g h i) j k l m n)) fun x3 =>
 capOk (List.length x2.2 + List.length ([(Nomination.mk x3.Node x3.Seq (Trust.mk x3.Trust.Threshold x3.Trust.Nodes x3.Trust.Inner) x3.Votes x3.Accepts)] : List Nomination)) <|
 z1m (x2.2 ++ ([(Nomination.mk x3.Node x3.Seq (Trust.mk x3.Trust.Threshold x3.Trust.Nodes x3.Trust.Inner) x3.Votes x3.Accepts)] : List Nomination)) l (l.length : Int) 0 c d e f g h i j k l m n o p q r s t u v w x y z A
 ) :=
 gL o7' (q0c Try.f13 [1,1,1,0,1,0,0])
theorem y1j a b : eL (z2k a b) (
 Option.bind (z0t a b) fun x0 =>
 bif x0.2 then
 some a
 else
 bif (leB 40 (a.length : Int)) then
 some a
 else
 Option.bind (z15 a) fun x1 =>
 Option.bind (z3m x0.1 ([b] : List (List UInt8)) x1.2) fun x2 =>
 some x2.1
 ) :=
 cL o4' Try.func26
theorem y09 a b : eL (z0t a b) (
 z0c a b (a.length : Int) 0 (a.length : Int)
 ) :=
 cL o12' Try.func44
theorem qwz a b c d e f g h i j k l m n o p q r s t u v w x y z A : eL (z1x a b c d e f g h i j k l m n o p q r s t u v w x y z A) (
 bif ltB c b then
 nth a c fun y0 =>
 Option.bind (z1t y0) fun x1 =>
 capOk (List.length o + List.length ([(Nomination.mk x1.Node x1.Seq (Trust.mk x1.Trust.Threshold x1.Trust.Nodes x1.Trust.Inner) x1.Votes x1.Accepts)] : List Nomination)) <|
 z1x a b (addI .i64 c 1) d e f g h i j k l m n (o ++ ([(Nomination.mk x1.Node x1.Seq (Trust.mk x1.Trust.Threshold x1.Trust.Nodes x1.Trust.Inner) x1.Votes x1.Accepts)] : List Nomination)) p q r s t u v w x y z A
 else
 some (Nominator.mk d e f g (Trust.mk h i j) k l m n o)
 ) :=
 gL o7' (q0c Try.f12 [1,1,1,1,0,1,0,0])
end Go.Proofs.Ytglokalgdbegeaa
