/- What the functions come to, printed by a program and checked by the kernel. -/
import Derived.Test.YtglokalgdbegeaaGreatP22Df
namespace Go.Proofs.YtglokalgdbegeaaGreat
open Go Go.Ab
set_option maxRecDepth 100000
theorem y5m a b : eL (z5t a b) (
 bif neB a.Node b.Node then
 some false
 else
 bif neB a.Slot b.Slot then
 some false
 else
 bif neB a.Round b.Round then
 some false
 else
 bif neB a.Seq b.Seq then
 some false
 else
 bif !eqS a.Own b.Own then
 some false
 else
 Option.bind (z3o a.Trust b.Trust) fun x0 =>
 bif !x0 then
 some false
 else
 Option.bind (z4p a.Votes b.Votes) fun x1 =>
 bif !x1 then
 some false
 else
 Option.bind (z4p a.Accepts b.Accepts) fun x2 =>
 bif !x2 then
 some false
 else
 Option.bind (z4p a.Candidates b.Candidates) fun x3 =>
 bif !x3 then
 some false
 else
 bif (neB (a.Heard.length : Int) (b.Heard.length : Int)) then
 some false
 else
 z3x (a.Heard.length : Int) 0 a.Node a.Slot a.Round a.Seq a.Trust.Threshold a.Trust.Nodes a.Trust.Inner a.Own a.Votes a.Accepts a.Candidates a.Heard b.Node b.Slot b.Round b.Seq b.Trust.Threshold b.Trust.Nodes b.Trust.Inner b.Own b.Votes b.Accepts b.Candidates b.Heard
 ) :=
 cL o0' Tryz.func31
theorem law22_awake_le  : Le (
 Option.bind (z30 ([([98] : List UInt8), ([97, 97] : List UInt8), ([97, 98] : List UInt8)] : List (List UInt8))) fun x0 =>
 Option.bind (z2p 3 0 (Trust.mk 1 ([3] : List Int) ([] : List Trust)) ([109, 101] : List UInt8)) fun x1 =>
 bif x0.2 then
 bif eqS x0.1 ([97, 98] : List UInt8) then
 bif eqB x1.2 0 then
 bif (eqB (x1.1.Candidates.length : Int) 1) then
 nth x1.1.Candidates 0 fun y2 =>
 some (eqS y2 ([109, 101] : List UInt8))
 else
 some false
 else
 some false
 else
 some false
 else
 some false
 ) (law22_awake) :=
 cL o0' Tryz.func14
theorem y5o a : eL (z50 a) (
 Option.bind (z2r a) fun x0 =>
 bif !x0 then
 some ((Nominator.mk 0 0 0 0 (Trust.mk 0 [] []) [] ([] : List (List UInt8)) ([] : List (List UInt8)) ([] : List (List UInt8)) []), 1)
 else
 bif eqB a.Round 1000 then
 some ((Nominator.mk 0 0 0 0 (Trust.mk 0 [] []) [] ([] : List (List UInt8)) ([] : List (List UInt8)) ([] : List (List UInt8)) []), 3)
 else
 Option.bind (z22 a (Nominator.mk a.Node a.Slot (addI .i64 a.Round 1) a.Seq (Trust.mk a.Trust.Threshold a.Trust.Nodes a.Trust.Inner) a.Own a.Votes a.Accepts a.Candidates a.Heard)) fun x1 =>
 some ((Nominator.mk x1.Node x1.Slot x1.Round x1.Seq (Trust.mk x1.Trust.Threshold x1.Trust.Nodes x1.Trust.Inner) x1.Own x1.Votes x1.Accepts x1.Candidates x1.Heard), 0)
 ) :=
 cL o11' Tryz.func19
theorem y92 a b : eL (z4b a b) (
 Option.bind (z2r a) fun x0 =>
 bif !x0 then
 some ((Nominator.mk 0 0 0 0 (Trust.mk 0 [] []) [] ([] : List (List UInt8)) ([] : List (List UInt8)) ([] : List (List UInt8)) []), 1)
 else
 Option.bind (z23 b) fun x1 =>
 bif neB x1 0 then
 some ((Nominator.mk 0 0 0 0 (Trust.mk 0 [] []) [] ([] : List (List UInt8)) ([] : List (List UInt8)) ([] : List (List UInt8)) []), x1)
 else
 Option.bind (z3g a.Trust b) fun x2 =>
 bif x2 then
 Option.bind (z1j a) fun x3 =>
 some ((Nominator.mk x3.Node x3.Slot x3.Round x3.Seq (Trust.mk x3.Trust.Threshold x3.Trust.Nodes x3.Trust.Inner) x3.Own x3.Votes x3.Accepts x3.Candidates x3.Heard), 0)
 else
 Option.bind (z22 a (Nominator.mk a.Node a.Slot a.Round a.Seq (Trust.mk b.Threshold b.Nodes b.Inner) a.Own a.Votes a.Accepts a.Candidates a.Heard)) fun x4 =>
 some ((Nominator.mk x4.Node x4.Slot x4.Round x4.Seq (Trust.mk x4.Trust.Threshold x4.Trust.Nodes x4.Trust.Inner) x4.Own x4.Votes x4.Accepts x4.Candidates x4.Heard), 0)
 ) :=
 cL o11' Tryz.func46
theorem y6e a b c : eL (z5d a b c) (
 Option.bind (z2c a b c) fun x0 =>
 Option.bind (z2f 1 5 x0.2.1 x0.2.2) fun x1 =>
 Option.bind (z5a a 2 x1.2.1 x1.2.2) fun x2 =>
 Option.bind (z5r 3 x2.2.1 x2.2.2) fun x3 =>
 Option.bind (z5r 2 x3.2.1 x3.2.2) fun x4 =>
 some ((Nomination.mk x0.1 x1.1 (Trust.mk x2.1.Threshold x2.1.Nodes x2.1.Inner) x3.1 x4.1), x4.2.1, x4.2.2)
 ) :=
 cL o28' Tryz.func22
theorem y89 a b : eL (z51 a b) (
 Option.bind (z2r a) fun x0 =>
 bif !x0 then
 some ((Nominator.mk 0 0 0 0 (Trust.mk 0 [] []) [] ([] : List (List UInt8)) ([] : List (List UInt8)) ([] : List (List UInt8)) []), 1)
 else
 Option.bind (z42 b) fun x1 =>
 bif !x1 then
 some ((Nominator.mk 0 0 0 0 (Trust.mk 0 [] []) [] ([] : List (List UInt8)) ([] : List (List UInt8)) ([] : List (List UInt8)) []), 1)
 else
 bif eqB b.Node a.Node then
 some ((Nominator.mk 0 0 0 0 (Trust.mk 0 [] []) [] ([] : List (List UInt8)) ([] : List (List UInt8)) ([] : List (List UInt8)) []), 1)
 else
 Option.bind (z14 a.Heard b.Node) fun x2 =>
 bif x2.2 then
 nth a.Heard x2.1 fun y3 =>
 bif leB b.Seq y3.Seq then
 some ((Nominator.mk 0 0 0 0 (Trust.mk 0 [] []) [] ([] : List (List UInt8)) ([] : List (List UInt8)) ([] : List (List UInt8)) []), 9)
 else
 Option.bind (z1g a.Heard) fun x4 =>
 bif x2.2 then
 nth x4.2 x2.1 fun _ =>
 nthN x4.2 (Int.toNat x2.1) fun _y5 =>
 Option.bind (z22 a (Nominator.mk a.Node a.Slot a.Round a.Seq (Trust.mk a.Trust.Threshold a.Trust.Nodes a.Trust.Inner) a.Own a.Votes a.Accepts a.Candidates (List.set x4.2 (Int.toNat x2.1) (Nomination.mk b.Node b.Seq (Trust.mk b.Trust.Threshold b.Trust.Nodes b.Trust.Inner) b.Votes b.Accepts)))) fun x6 =>
 some ((Nominator.mk x6.Node x6.Slot x6.Round x6.Seq (Trust.mk x6.Trust.Threshold x6.Trust.Nodes x6.Trust.Inner) x6.Own x6.Votes x6.Accepts x6.Candidates x6.Heard), 0)
 else
 Option.bind (z3p x2.1 ([(Nomination.mk b.Node b.Seq (Trust.mk b.Trust.Threshold b.Trust.Nodes b.Trust.Inner) b.Votes b.Accepts)] : List Nomination) x4.2) fun x7 =>
 Option.bind (z22 a (Nominator.mk a.Node a.Slot a.Round a.Seq (Trust.mk a.Trust.Threshold a.Trust.Nodes a.Trust.Inner) a.Own a.Votes a.Accepts a.Candidates x7.1)) fun x8 =>
 some ((Nominator.mk x8.Node x8.Slot x8.Round x8.Seq (Trust.mk x8.Trust.Threshold x8.Trust.Nodes x8.Trust.Inner) x8.Own x8.Votes x8.Accepts x8.Candidates x8.Heard), 0)
 else
 Option.bind (z1g a.Heard) fun x9 =>
 bif x2.2 then
 nth x9.2 x2.1 fun _ =>
 nthN x9.2 (Int.toNat x2.1) fun _y10 =>
 Option.bind (z22 a (Nominator.mk a.Node a.Slot a.Round a.Seq (Trust.mk a.Trust.Threshold a.Trust.Nodes a.Trust.Inner) a.Own a.Votes a.Accepts a.Candidates (List.set x9.2 (Int.toNat x2.1) (Nomination.mk b.Node b.Seq (Trust.mk b.Trust.Threshold b.Trust.Nodes b.Trust.Inner) b.Votes b.Accepts)))) fun x11 =>
 some ((Nominator.mk x11.Node x11.Slot x11.Round x11.Seq (Trust.mk x11.Trust.Threshold x11.Trust.Nodes x11.Trust.Inner) x11.Own x11.Votes x11.Accepts x11.Candidates x11.Heard), 0)
 else
 Option.bind (z3p x2.1 ([(Nomination.mk b.Node b.Seq (Trust.mk b.Trust.Threshold b.Trust.Nodes b.Trust.Inner) b.Votes b.Accepts)] : List Nomination) x9.2) fun x12 =>
 Option.bind (z22 a (Nominator.mk a.Node a.Slot a.Round a.Seq (Trust.mk a.Trust.Threshold a.Trust.Nodes a.Trust.Inner) a.Own a.Votes a.Accepts a.Candidates x12.1)) fun x13 =>
 some ((Nominator.mk x13.Node x13.Slot x13.Round x13.Seq (Trust.mk x13.Trust.Threshold x13.Trust.Nodes x13.Trust.Inner) x13.Own x13.Votes x13.Accepts x13.Candidates x13.Heard), 0)
 ) :=
 cL o11' Tryz.func23
theorem y5z a : eL (z48 a) (
 z2i a a (a.length : Int) 0
 ) :=
 cL o0' Tryz.func76
theorem y8w a : eL (z4c a) (
 Option.bind (z3n a.Node) fun x0 =>
 bif x0 then
 bif leB 0 a.Slot then
 bif leB a.Slot 1000000 then
 bif leB 1 a.Round then
 bif leB a.Round 1000 then
 bif leB 1 a.Seq then
 some (leB a.Seq 1000000)
 else
 some false
 else
 some false
 else
 some false
 else
 some false
 else
 some false
 else
 some false
 ) :=
 cL o0' Tryz.func78
theorem y9j a : eL (z2o a) (
 z1v a a (a.length : Int) 0
 ) :=
 cL o0' Tryz.func79
theorem y59 a b c d e f g h i j k l m : eL (z18 a b c d e f g h i j k l m) (
 Option.bind (z1c a b c d e f g h i j k l m) fun x0 =>
 some ((leB 0 x0.1), x0.2.1, x0.2.2.1, x0.2.2.2.1, x0.2.2.2.2.1, x0.2.2.2.2.2.1, x0.2.2.2.2.2.2.1, x0.2.2.2.2.2.2.2.1, x0.2.2.2.2.2.2.2.2.1, x0.2.2.2.2.2.2.2.2.2.1, x0.2.2.2.2.2.2.2.2.2.2.1, x0.2.2.2.2.2.2.2.2.2.2.2.1, x0.2.2.2.2.2.2.2.2.2.2.2.2)
 ) :=
 cL o19' Tryz.func80
theorem qs0 a b : eL (z3o a b) (
 bif neB a.Threshold b.Threshold then
 some false
 else
 Option.bind (z5l a.Nodes b.Nodes) fun x0 =>
 bif !x0 then
 some false
 else
 bif (neB (a.Inner.length : Int) (b.Inner.length : Int)) then
 some false
 else
 z3b (a.Inner.length : Int) 0 a.Threshold a.Nodes a.Inner b.Threshold b.Nodes b.Inner
 ) :=
 cL o0' Tryz.func83
theorem y5x a b : eL (z4p a b) (
 bif (neB (a.length : Int) (b.length : Int)) then
 some false
 else
 z4l a b (a.length : Int) 0
 ) :=
 cL o0' Tryz.func84
theorem y7h a : eL (z30 a) (
 z1m [] a (a.length : Int) 0
 ) :=
 cL o13' Tryz.func25
theorem y51 a b : eL (z22 a b) (
 Option.bind (z2q b) fun x0 =>
 Option.bind (z3g a.Trust x0.Trust) fun x1 =>
 bif !x1 then
 Option.bind (z1j (Nominator.mk x0.Node x0.Slot x0.Round (addI .i64 x0.Seq 1) (Trust.mk x0.Trust.Threshold x0.Trust.Nodes x0.Trust.Inner) x0.Own x0.Votes x0.Accepts x0.Candidates x0.Heard)) fun x2 =>
 some (Nominator.mk x2.Node x2.Slot x2.Round x2.Seq (Trust.mk x2.Trust.Threshold x2.Trust.Nodes x2.Trust.Inner) x2.Own x2.Votes x2.Accepts x2.Candidates x2.Heard)
 else
 Option.bind (z1u a.Votes x0.Votes) fun x3 =>
 bif !x3 then
 Option.bind (z1j (Nominator.mk x0.Node x0.Slot x0.Round (addI .i64 x0.Seq 1) (Trust.mk x0.Trust.Threshold x0.Trust.Nodes x0.Trust.Inner) x0.Own x0.Votes x0.Accepts x0.Candidates x0.Heard)) fun x4 =>
 some (Nominator.mk x4.Node x4.Slot x4.Round x4.Seq (Trust.mk x4.Trust.Threshold x4.Trust.Nodes x4.Trust.Inner) x4.Own x4.Votes x4.Accepts x4.Candidates x4.Heard)
 else
 Option.bind (z1u a.Accepts x0.Accepts) fun x5 =>
 bif !x5 then
 Option.bind (z1j (Nominator.mk x0.Node x0.Slot x0.Round (addI .i64 x0.Seq 1) (Trust.mk x0.Trust.Threshold x0.Trust.Nodes x0.Trust.Inner) x0.Own x0.Votes x0.Accepts x0.Candidates x0.Heard)) fun x6 =>
 some (Nominator.mk x6.Node x6.Slot x6.Round x6.Seq (Trust.mk x6.Trust.Threshold x6.Trust.Nodes x6.Trust.Inner) x6.Own x6.Votes x6.Accepts x6.Candidates x6.Heard)
 else
 Option.bind (z1j x0) fun x7 =>
 some (Nominator.mk x7.Node x7.Slot x7.Round x7.Seq (Trust.mk x7.Trust.Threshold x7.Trust.Nodes x7.Trust.Inner) x7.Own x7.Votes x7.Accepts x7.Candidates x7.Heard)
 ) :=
 cL o6' Tryz.func63
theorem y7x a b : eL (z3g a b) (
 bif eqB a.Threshold b.Threshold then
 Option.bind (z33 a.Nodes b.Nodes) fun x0 =>
 bif x0 then
 Option.bind (z19 a.Inner b.Inner) fun x1 =>
 some x1
 else
 some false
 else
 some false
 ) :=
 cL o0' Tryz.func92
theorem y7t a b c : eL (z5r a b c) (
 z2y a ([] : List (List UInt8)) ([([97] : List UInt8), ([98] : List UInt8), ([99] : List UInt8), ([97, 97] : List UInt8), ([97, 98] : List UInt8), ([122, 122] : List UInt8), ([97, 98, 99] : List UInt8)] : List (List UInt8)) ((List.length ([([97] : List UInt8), ([98] : List UInt8), ([99] : List UInt8), ([97, 97] : List UInt8), ([97, 98] : List UInt8), ([122, 122] : List UInt8), ([97, 98, 99] : List UInt8)] : List (List UInt8)) : Nat) : Int) 0 b c
 ) :=
 cL o20' Tryz.func67
theorem y9g a : eL (z42 a) (
 Option.bind (z3n a.Node) fun x0 =>
 bif x0 then
 bif leB 1 a.Seq then
 Option.bind (z23 a.Trust) fun x1 =>
 bif eqB x1 0 then
 Option.bind (z2o a.Votes) fun x2 =>
 bif x2 then
 Option.bind (z2o a.Accepts) fun x3 =>
 some x3
 else
 some false
 else
 some false
 else
 some false
 else
 some false
 ) :=
 cL o0' Tryz.func43
theorem y70 a b : eL (z14 a b) (
 z0f a b (a.length : Int) 0 (a.length : Int)
 ) :=
 cL o7' Tryz.func68
theorem y9a a b c d e f g h i j k l m : eL (z1c a b c d e f g h i j k l m) (
 z0g a (a.length : Int) 0 b c d e f g h i j k l m
 ) :=
 cL o21' Tryz.func121
theorem y2x a b : eL (z5l a b) (
 bif (neB (a.length : Int) (b.length : Int)) then
 some false
 else
 z3y a b (a.length : Int) 0
 ) :=
 cL o0' Tryz.func123
theorem y5d a b : eL (z1u a b) (
 bif (neB (a.length : Int) (b.length : Int)) then
 some false
 else
 z1h a b (a.length : Int) 0
 ) :=
 cL o0' Tryz.func89
theorem y8x a b : eL (z33 a b) (
 bif (neB (a.length : Int) (b.length : Int)) then
 some false
 else
 z1t a b (a.length : Int) 0
 ) :=
 cL o0' Tryz.func131
theorem y6g a b : eL (z19 a b) (
 bif (neB (a.length : Int) (b.length : Int)) then
 some false
 else
 z0k b a (a.length : Int) 0
 ) :=
 cL o0' Tryz.func132
theorem qx3 a b c d e f g h i j k l m : eL (z49 a b c d e f g h i j k l m) (
 bif ltB e d then
 nth c e fun y0 =>
 capOk (List.length l + List.length ([y0] : List Int)) <|
 z49 a b c d (addI .i64 e 1) f g h i j k (l ++ ([y0] : List Int)) m
 else
 bif ltB 1 b then
 Option.bind (z5i ([0, 0, 1, 1, 2, 3] : List Int) f g) fun x1 =>
 z4a a b x1.1 x1.2.1 x1.2.2 h i j k l m
 else
 Option.bind (z2f 1 (addI .i64 (l.length : Int) (m.length : Int)) f g) fun x2 =>
 some ((Trust.mk x2.1 l m), x2.2.1, x2.2.2)
 ) :=
 gL o10' (q0b Tryz.f74 [1,1,1,0,1,0,0])
theorem y7i a b c : eL (z5i a b c) (
 Option.bind (z2c (a.length : Int) b c) fun x0 =>
 nth a x0.1 fun y1 =>
 some (y1, x0.2.1, x0.2.2)
 ) :=
 cL o15' Tryz.func16
theorem y99 a b c d e f g h i j k l m n o p q r s t u v w x y z A : eL (z28 a b c d e f g h i j k l m n o p q r s t u v w x y z A) (
 bif b then
 Option.bind (z3h l a) fun x0 =>
 Option.bind (z38 (Nominator.mk c d e f (Trust.mk g h i) j k x0 m n) (Config.mk A)) fun x1 =>
 z28 x1.1 x1.2 c d e f g h i j k x0 m n o p q r s t u v w x y z A
 else
 Option.bind (z1g n) fun x2 =>
 Option.bind (z4r (Nominator.mk c d e f (Trust.mk g h i) j k l m n)) fun x3 =>
 capOk (List.length x2.2 + List.length ([(Nomination.mk x3.Node x3.Seq (Trust.mk x3.Trust.Threshold x3.Trust.Nodes x3.Trust.Inner) x3.Votes x3.Accepts)] : List Nomination)) <|
 z21 (x2.2 ++ ([(Nomination.mk x3.Node x3.Seq (Trust.mk x3.Trust.Threshold x3.Trust.Nodes x3.Trust.Inner) x3.Votes x3.Accepts)] : List Nomination)) l (l.length : Int) 0 c d e f g h i j k l m n o p q r s t u v w x y z A
 ) :=
 gL o6' (q0b Tryz.f58 [1,1,1,0,1,0,0])
theorem y9e a b : eL (z3h a b) (
 Option.bind (z0w a b) fun x0 =>
 bif x0.2 then
 some a
 else
 bif (leB 40 (a.length : Int)) then
 some a
 else
 Option.bind (z1b a) fun x1 =>
 Option.bind (z52 x0.1 ([b] : List (List UInt8)) x1.2) fun x2 =>
 some x2.1
 ) :=
 cL o5' Tryz.func105
theorem y8n a b : eL (z0w a b) (
 z0c a b (a.length : Int) 0 (a.length : Int)
 ) :=
 cL o7' Tryz.func144
theorem y2j a b c d e f g h i j k l m n o p q r s t u v w x y z A : eL (z2j a b c d e f g h i j k l m n o p q r s t u v w x y z A) (
 bif ltB c b then
 nth a c fun y0 =>
 Option.bind (z2d y0) fun x1 =>
 capOk (List.length o + List.length ([(Nomination.mk x1.Node x1.Seq (Trust.mk x1.Trust.Threshold x1.Trust.Nodes x1.Trust.Inner) x1.Votes x1.Accepts)] : List Nomination)) <|
 z2j a b (addI .i64 c 1) d e f g h i j k l m n (o ++ ([(Nomination.mk x1.Node x1.Seq (Trust.mk x1.Trust.Threshold x1.Trust.Nodes x1.Trust.Inner) x1.Votes x1.Accepts)] : List Nomination)) p q r s t u v w x y z A
 else
 some (Nominator.mk d e f g (Trust.mk h i j) k l m n o)
 ) :=
 gL o6' (q0b Tryz.f57 [1,1,1,1,0,1,0,0])
theorem y9d a : eL (z2d a) (
 Option.bind (z3c a.Trust) fun x0 =>
 Option.bind (z1b a.Votes) fun x1 =>
 Option.bind (z1b a.Accepts) fun x2 =>
 some (Nomination.mk a.Node a.Seq (Trust.mk x0.Threshold x0.Nodes x0.Inner) x1.2 x2.2)
 ) :=
 cL o18' Tryz.func64
theorem y2g a b c d e : eL (z3d a b c d e) (
 bif ltB c a then
 capOk (List.length b + List.length ([c] : List Int)) <|
 z3d a (b ++ ([c] : List Int)) (addI .i64 c 1) d e
 else
 z3e b (subI .i64 a 1) d e
 ) :=
 gL o16' (q0b Tryz.f117 [1,1,0,1,0,0])
theorem y1i a b c d e f g : eL (z43 a b c d e f g) (
 bif ltB d c then
 nth b d fun y0 =>
 Option.bind (z5f y0) fun x1 =>
 z43 (if x1 > a then x1 else a) b c (addI .i64 d 1) e f g
 else
 some (addI .i64 a 1)
 ) :=
 gL o1' (q0b Tryz.f118 [1,1,0,1,0,0])
theorem y3c a b c d e f g : eL (z4j a b c d e f g) (
 bif ltB d c then
 nth b d fun y0 =>
 Option.bind (z5k y0) fun x1 =>
 z4j (addI .i64 a x1) b c (addI .i64 d 1) e f g
 else
 some a
 ) :=
 gL o1' (q0b Tryz.f119 [1,1,0,1,0,0])
theorem qih a b c d e f : eL (z1x a b c d e f) (
 bif ltB c b then
 nth a c fun y0 =>
 bif ltB y0 0 then
 some 5
 else
 bif leB 10 y0 then
 some 5
 else
 z1x a b (addI .i64 c 1) d e f
 else
 Option.bind (z5q e) fun x1 =>
 bif neB x1.2 0 then
 some x1.2
 else
 z1y f (f.length : Int) 0 d e f
 ) :=
 gL o1' (q0b Tryz.f120 [1,1,0,1,0,0])
theorem y2y a : eL (z5q a) (
 z2a 0 a (a.length : Int) 0
 ) :=
 cL o3' Tryz.func157
theorem y2h a b c d e f g : eL (z2s a b c d e f g) (
 bif ltB d c then
 nth b d fun y0 =>
 Option.bind (z4f y0) fun x1 =>
 z2s (if x1 > a then x1 else a) b c (addI .i64 d 1) e f g
 else
 some (addI .i64 a 1)
 ) :=
 gL o1' (q0b Tryz.f97 [1,1,0,1,0,0])
theorem y1f a b c d e f g : eL (z35 a b c d e f g) (
 bif ltB d c then
 nth b d fun y0 =>
 Option.bind (z4q y0) fun x1 =>
 z35 (addI .i64 a x1) b c (addI .i64 d 1) e f g
 else
 some a
 ) :=
 gL o1' (q0b Tryz.f98 [1,1,0,1,0,0])
theorem y1o a b c d e f : eL (z2t a b c d e f) (
 bif ltB c b then
 nth a c fun y0 =>
 Option.bind (z4g y0) fun x1 =>
 bif neB x1 0 then
 some x1
 else
 z2t a b (addI .i64 c 1) d e f
 else
 some 0
 ) :=
 gL o1' (q0b Tryz.f99 [1,1,1,1,0,1,0,0])
theorem y1q a b c d e f g h i j k l m n o p : eL (z1s a b c d e f g h i j k l m n o p) (
 bif ltB d c then
 nth b d fun y0 =>
 bif eqB y0 e then
 bif !eqS l [] then
 Option.bind (z3h a l) fun x1 =>
 z1s x1 b c (addI .i64 d 1) e f g h i j k l m n o p
 else
 z1s a b c (addI .i64 d 1) e f g h i j k l m n o p
 else
 z20 a y0 b c d p (p.length : Int) 0 e f g h i j k l m n o p
 else
 some a
 ) :=
 gL o5' (q0b Tryz.f102 [1,1,1,0,1,0,0])
theorem y36 a b c d e f g h i j k l m n o p q : eL (z2u a b c d e f g h i j k l m n o p q) (
 bif ltB d c then
 nth b d fun y0 =>
 capOk (List.length a + List.length ([(Message.mk y0.Node y0.Seq (Trust.mk y0.Trust.Threshold y0.Trust.Nodes y0.Trust.Inner) [] [])] : List Message)) <|
 z2u (a ++ ([(Message.mk y0.Node y0.Seq (Trust.mk y0.Trust.Threshold y0.Trust.Nodes y0.Trust.Inner) [] [])] : List Message)) b c (addI .i64 d 1) e f g h i j k l m n o p q
 else
 Option.bind (z56 e (Trust.mk i j k) a) fun x1 =>
 some (Config.mk x1.Members)
 ) :=
 gL o12' (q0b Tryz.f103 [1,1,0,1,0,0])
end Go.Proofs.YtglokalgdbegeaaGreat
