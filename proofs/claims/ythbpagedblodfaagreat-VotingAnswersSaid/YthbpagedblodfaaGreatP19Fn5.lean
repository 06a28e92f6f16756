/- What the functions come to, printed by a program and checked by the kernel. -/
import Derived.Test.YthbpagedblodfaaGreatP19Df
namespace Go.Proofs.YthbpagedblodfaaGreat
open Go Go.Ab
set_option maxRecDepth 100000
theorem yag a b c : eL (z5t a b c) (
 Option.bind (z5u a c) fun x0 =>
 Option.bind (z5n x0 b) fun x1 =>
 some x1
 ) :=
 cL o0' Tryz.func22
theorem ya9 a b : eL (z5u a b) (
 Option.bind (z3q b) fun x0 =>
 bif !x0 then
 some 0
 else
 Option.bind (z4u a) fun x1 =>
 Option.bind (z5h a b) fun x2 =>
 z4k (andI .i64 b x1) x2 (x2.length : Int) 0 a.Members
 ) :=
 cL o1' Tryz.func71
theorem y8g a b : eL (z5n a b) (
 Option.bind (z3q a) fun x0 =>
 bif x0 then
 bif leB 0 b then
 bif ltB b 10 then
 chk (0 <= b) <|
 some (eqB (andI .i64 (shrI .i64 a b) 1) 1)
 else
 some false
 else
 some false
 else
 some false
 ) :=
 cL o0' Tryz.func70
theorem y7f a : eL (z3q a) (
 bif leB 0 a then
 some (leB a 1023)
 else
 some false
 ) :=
 cL o0' Tryz.func109
theorem y6w a : eL (z4u a) (
 z2g 0 a.Members (a.Members.length : Int) 0 a.Members
 ) :=
 cL o1' Tryz.func111
theorem y6v a b : eL (z5h a b) (
 Option.bind (z3q b) fun x0 =>
 bif !x0 then
 some []
 else
 Option.bind (z4u a) fun x1 =>
 z2r (andI .i64 b x1) [] true a.Members
 ) :=
 cL o8' Tryz.func112
theorem y2w a b c d e f g h i j k l m n : eL (z55 a b c d e f g h i j k l m n) (
 bif ltB c b then
 nth a c fun y0 =>
 Option.bind (z3x (Claim.mk m n) y0) fun x1 =>
 bif x1 then
 some false
 else
 z55 a b (addI .i64 c 1) d e f g h i j k l m n
 else
 Option.bind (z6k (Voter.mk d e (Trust.mk f g h) i j k l)) fun x2 =>
 Option.bind (z65 d (Trust.mk f g h) l) fun x3 =>
 Option.bind (z7d x2 (Claim.mk m n)) fun x4 =>
 Option.bind (z5s x2 (Claim.mk m n)) fun x5 =>
 Option.bind (z61 x3 d x4 x5) fun x6 =>
 some x6
 ) :=
 gL o0' (q09 Tryz.f20 [1,1,0,1,0,0])
theorem y6d a b : eL (z3x a b) (
 bif eqB a.Topic b.Topic then
 some (neB a.Value b.Value)
 else
 some false
 ) :=
 cL o0' Tryz.func67
theorem ya6 a b : eL (z7d a b) (
 z3i 0 a (a.length : Int) 0 b.Topic b.Value
 ) :=
 cL o1' Tryz.func69
theorem y61 a b c d : eL (z61 a b c d) (
 Option.bind (z3q c) fun x0 =>
 bif !x0 then
 some false
 else
 Option.bind (z3q d) fun x1 =>
 bif !x1 then
 some false
 else
 Option.bind (z6j a b d) fun x2 =>
 bif x2 then
 some true
 else
 Option.bind (z5u a (orI .i64 c d)) fun x3 =>
 Option.bind (z5n x3 b) fun x4 =>
 some x4
 ) :=
 cL o0' Tryz.func68
theorem y77 a b c : eL (z6j a b c) (
 Option.bind (z3q c) fun x0 =>
 bif !x0 then
 some false
 else
 Option.bind (z4u a) fun x1 =>
 Option.bind (z5n x1 b) fun x2 =>
 bif !x2 then
 some false
 else
 chk (0 <= b) <|
 nth a.Members b fun y3 =>
 Option.bind (z4d y3.Trust (orI .i64 (subI .i64 1023 c) (shlI .i64 1 b))) fun x4 =>
 some (!x4)
 ) :=
 cL o0' Tryz.func110
theorem y8f a b : eL (z4d a b) (
 Option.bind (z3q b) fun x0 =>
 bif !x0 then
 some false
 else
 z2p b 0 a.Nodes (a.Nodes.length : Int) 0 a.Threshold a.Nodes a.Inner
 ) :=
 cL o0' Tryz.func131
theorem y2e a b c d e : eL (z5x a b c d e) (
 bif ltB c b then
 nth a c fun y0 =>
 bif ((eqB d y0.Topic) && ((eqB e y0.Value) && true)) then
 some true
 else
 z5x a b (addI .i64 c 1) d e
 else
 some false
 ) :=
 gL o0' (q09 Tryz.f25 [1,0,1,0,0])
theorem y3m a b c d e f g h i j k l m n o p q r s t u v w : eL (z4p a b c d e f g h i j k l m n o p q r s t u v w) (
 bif ltB c b then
 nth a c fun y0 =>
 Option.bind (z3x (Claim.mk m n) y0) fun x1 =>
 bif x1 then
 some ((Voter.mk 0 0 (Trust.mk 0 [] []) [] [] [] []), 14)
 else
 z4p a b (addI .i64 c 1) d e f g h i j k l m n o p q r s t u v w
 else
 Option.bind (z5m i (Claim.mk m n)) fun x2 =>
 bif x2 then
 some ((Voter.mk d e (Trust.mk f g h) i j k l), 0)
 else
 Option.bind (z72 i (Claim.mk m n)) fun x3 =>
 Option.bind (z4l (Voter.mk d e (Trust.mk f g h) i j k l) (Voter.mk d e (Trust.mk f g h) x3 j k l)) fun x4 =>
 some ((Voter.mk x4.Node x4.Seq (Trust.mk x4.Trust.Threshold x4.Trust.Nodes x4.Trust.Inner) x4.Votes x4.Accepts x4.Confirms x4.Heard), 0)
 ) :=
 gL o5' (q09 Tryz.f40 [1,1,0,1,0,0])
theorem y9z a b : eL (z72 a b) (
 capOk (List.length ([] : List Claim) + List.length a) <|
 capOk (List.length (([] : List Claim) ++ a) + List.length ([b] : List Claim)) <|
 Option.bind (z3o ((([] : List Claim) ++ a) ++ ([b] : List Claim))) fun x0 =>
 some x0
 ) :=
 cL o2' Tryz.func91
theorem y0r a b c d e f g h i j k l m n o p q r s t u v w x y z A B C D E F G H I J K L : eL (z3d a b c d e f g h i j k l m n o p q r s t u v w x y z A B C D E F G H I J K L) (
 bif ltB d c then
 nth b d fun y0 =>
 bif eqB y0.Node n then
 bif leB o y0.Seq then
 some ((Voter.mk 0 0 (Trust.mk 0 [] []) [] [] [] []), 9)
 else
 z3d a b c (addI .i64 d 1) e f g h i j k l m n o p q r s t u v w x y z A B C D E F G H I J K L
 else
 bif ltB n y0.Node then
 bif !a then
 capOk (List.length L + List.length ([(Message.mk n o (Trust.mk p q r) s t)] : List Message)) <|
 capOk (List.length (L ++ ([(Message.mk n o (Trust.mk p q r) s t)] : List Message)) + List.length ([(Message.mk y0.Node y0.Seq (Trust.mk y0.Trust.Threshold y0.Trust.Nodes y0.Trust.Inner) y0.Votes y0.Accepts)] : List Message)) <|
 z3d true b c (addI .i64 d 1) e f g h i j k l m n o p q r s t u v w x y z A B C D E F G H I J K ((L ++ ([(Message.mk n o (Trust.mk p q r) s t)] : List Message)) ++ ([(Message.mk y0.Node y0.Seq (Trust.mk y0.Trust.Threshold y0.Trust.Nodes y0.Trust.Inner) y0.Votes y0.Accepts)] : List Message))
 else
 capOk (List.length L + List.length ([(Message.mk y0.Node y0.Seq (Trust.mk y0.Trust.Threshold y0.Trust.Nodes y0.Trust.Inner) y0.Votes y0.Accepts)] : List Message)) <|
 z3d a b c (addI .i64 d 1) e f g h i j k l m n o p q r s t u v w x y z A B C D E F G H I J K (L ++ ([(Message.mk y0.Node y0.Seq (Trust.mk y0.Trust.Threshold y0.Trust.Nodes y0.Trust.Inner) y0.Votes y0.Accepts)] : List Message))
 else
 capOk (List.length L + List.length ([(Message.mk y0.Node y0.Seq (Trust.mk y0.Trust.Threshold y0.Trust.Nodes y0.Trust.Inner) y0.Votes y0.Accepts)] : List Message)) <|
 z3d a b c (addI .i64 d 1) e f g h i j k l m n o p q r s t u v w x y z A B C D E F G H I J K (L ++ ([(Message.mk y0.Node y0.Seq (Trust.mk y0.Trust.Threshold y0.Trust.Nodes y0.Trust.Inner) y0.Votes y0.Accepts)] : List Message))
 else
 bif !a then
 capOk (List.length L + List.length ([(Message.mk n o (Trust.mk p q r) s t)] : List Message)) <|
 Option.bind (z4l (Voter.mk e f (Trust.mk g h i) j k l m) (Voter.mk D E (Trust.mk F G H) I J K (L ++ ([(Message.mk n o (Trust.mk p q r) s t)] : List Message)))) fun x1 =>
 some ((Voter.mk x1.Node x1.Seq (Trust.mk x1.Trust.Threshold x1.Trust.Nodes x1.Trust.Inner) x1.Votes x1.Accepts x1.Confirms x1.Heard), 0)
 else
 Option.bind (z4l (Voter.mk e f (Trust.mk g h i) j k l m) (Voter.mk D E (Trust.mk F G H) I J K L)) fun x2 =>
 some ((Voter.mk x2.Node x2.Seq (Trust.mk x2.Trust.Threshold x2.Trust.Nodes x2.Trust.Inner) x2.Votes x2.Accepts x2.Confirms x2.Heard), 0)
 ) :=
 gL o5' (q09 Tryz.f42 [1,1,1,1,1,0,1,0,0])
theorem y7z a b c d e f g h i j k l m n o p q r s t u v w x y z A B : eL (z3y a b c d e f g h i j k l m n o p q r s t u v w x y z A B) (
 bif a then
 Option.bind (z6s (Voter.mk k l (Trust.mk m n o) p q r s)) fun x0 =>
 z38 false x0 (x0.length : Int) 0 b c d e f g h i j k l m n o p q r s t u v w x y z A B
 else
 Option.bind (z6k (Voter.mk k l (Trust.mk m n o) p q r s)) fun x1 =>
 z2s x1 q (q.length : Int) 0 b c d e f g h i j k l m n o p q r s t u v w x y z A B
 ) :=
 gL o4' (q09 Tryz.f92 [1,0,1,0,0])
theorem qvr a b c d : eL (z2l a b c d) (
 bif leB d 15 then
 Option.bind (z5m a (Claim.mk c d)) fun x0 =>
 bif x0 then
 capOk (List.length b + List.length ([(Claim.mk c d)] : List Claim)) <|
 z2l a (b ++ ([(Claim.mk c d)] : List Claim)) c (addI .i64 d 1)
 else
 z2l a b c (addI .i64 d 1)
 else
 z33 a b (addI .i64 c 1)
 ) :=
 gL o2' (q09 Tryz.f18 [1,1,0,1,0,0,1,0,0,1,0,0])
theorem y2n a b c d e f g h i j k l m : eL (z4v a b c d e f g h i j k l m) (
 bif ltB d c then
 nth b d fun y0 =>
 Option.bind (z4y y0.Votes y0.Accepts) fun x1 =>
 Option.bind (z4y a x1) fun x2 =>
 z4v x2 b c (addI .i64 d 1) e f g h i j k l m
 else
 some a
 ) :=
 gL o2' (q09 Tryz.f19 [1,1,0,1,0,0])
theorem y1g a b c d e f g h i j k l : eL (z4e a b c d e f g h i j k l) (
 bif ltB 0 a then
 z4e (subI .i64 a 1) b c d e f g h i 1 [] ([(Trust.mk j k l)] : List Trust)
 else
 some ((Trust.mk j k l), b, c)
 ) :=
 gL o6' (q09 Tryz.f80 [1,1,0,1,0,1,1,1,1,1,1,1,1,1,0,1,0,1,0,0])
theorem qrk a b c d e f g h i j k : eL (z51 a b c d e f g h i j k) (
 bif ltB 0 c then
 Option.bind (z6z a (subI .i64 b 1) d e) fun x0 =>
 capOk (List.length k + List.length ([(Trust.mk x0.1.Threshold x0.1.Nodes x0.1.Inner)] : List Trust)) <|
 z51 a b (subI .i64 c 1) x0.2.1 x0.2.2 f g h i j (k ++ ([(Trust.mk x0.1.Threshold x0.1.Nodes x0.1.Inner)] : List Trust))
 else
 bif (ltB 0 (k.length : Int)) then
 Option.bind (z1p 3 d e) fun x1 =>
 bif eqB x1.1 0 then
 Option.bind (z24 1 (addI .i64 ((List.length ([] : List Int) : Nat) : Int) (k.length : Int)) x1.2.1 x1.2.2) fun x2 =>
 some ((Trust.mk x2.1 [] k), x2.2.1, x2.2.2)
 else
 Option.bind (z24 1 (addI .i64 (j.length : Int) (k.length : Int)) x1.2.1 x1.2.2) fun x3 =>
 some ((Trust.mk x3.1 j k), x3.2.1, x3.2.2)
 else
 Option.bind (z24 1 (addI .i64 (j.length : Int) (k.length : Int)) d e) fun x4 =>
 some ((Trust.mk x4.1 j k), x4.2.1, x4.2.2)
 ) :=
 gL o6' (q09 Tryz.f47 [1,1,1,1,0,1,0,0,1,0,0])
theorem y2t a b c d : eL (z3z a b c d) (
 bif ltB 0 b then
 Option.bind (z1p (addI .i64 b 1) c d) fun x0 =>
 nth a x0.1 fun _ =>
 nth a b fun _ =>
 nthN a (Int.toNat x0.1) fun y1 =>
 nthN a (Int.toNat b) fun y2 =>
 nth a b fun _ =>
 nthN a (Int.toNat b) fun _y3 =>
 nth (List.set a (Int.toNat b) y1) x0.1 fun _ =>
 nthN (List.set a (Int.toNat b) y1) (Int.toNat x0.1) fun _y4 =>
 z3z (List.set (List.set a (Int.toNat b) y1) (Int.toNat x0.1) y2) (subI .i64 b 1) x0.2.1 x0.2.2
 else
 some (a, c, d)
 ) :=
 gL o18' (q09 Tryz.f13 [1,1,1,0,1,0,0])
theorem qmj a b c d e f : eL (z23 a b c d e f) (
 bif ltB c b then
 nth a c fun y0 =>
 Option.bind (z45 y0) fun x1 =>
 bif neB x1 0 then
 some x1
 else
 z23 a b (addI .i64 c 1) d e f
 else
 some 0
 ) :=
 gL o1' (q09 Tryz.f99 [1,1,1,1,0,1,0,0])
theorem qfj a b c d : eL (z2m a b c d) (
 bif ltB d c then
 nth b d fun y0 =>
 bif ltB y0 0 then
 some (0, 5)
 else
 bif leB 10 y0 then
 some (0, 5)
 else
 Option.bind (z5n a y0) fun x1 =>
 bif x1 then
 some (0, 6)
 else
 chk (0 <= y0) <|
 z2m (orI .i64 a (shlI .i64 1 y0)) b c (addI .i64 d 1)
 else
 some (a, 0)
 ) :=
 gL o14' (q09 Tryz.f122 [1,1,0,1,0,0])
theorem qye a b c d : eL (z4w a b c d) (
 bif ltB d c then
 nth b d fun y0 =>
 bif neB y0 a then
 some y0
 else
 z4w a b c (addI .i64 d 1)
 else
 some a
 ) :=
 gL o1' (q09 Tryz.f133 [1,1,0,1,0,0])
theorem y1h a b c d e f g h i j k l m n o p q r s t u v w x y : eL (z2y a b c d e f g h i j k l m n o p q r s t u v w x y) (
 bif ltB d c then
 nth b d fun y0 =>
 Option.bind (z40 a y0) fun x1 =>
 Option.bind (z43 (Config.mk w) e x1) fun x2 =>
 bif x2 then
 Option.bind (z6l l y0) fun x3 =>
 z2y a b c (addI .i64 d 1) e f g h i j k x3 m n o p q r s t u v w x y
 else
 z2y a b c (addI .i64 d 1) e f g h i j k l m n o p q r s t u v w x y
 else
 some (Voter.mk e f (Trust.mk g h i) j k l m)
 ) :=
 gL o4' (q09 Tryz.f104 [1,1,1,1,0,1,0,0])
theorem y8h a b c : eL (z43 a b c) (
 Option.bind (z4t a c) fun x0 =>
 Option.bind (z46 x0 b) fun x1 =>
 some x1
 ) :=
 cL o0' Tryz.func128
theorem y0o a b c d e f g h i j k l : eL (z30 a b c d e f g h i j k l) (
 bif ltB c b then
 nth a c fun y0 =>
 Option.bind (z3w y0) fun x1 =>
 capOk (List.length l + List.length ([(Trust.mk x1.Threshold x1.Nodes x1.Inner)] : List Trust)) <|
 z30 a b (addI .i64 c 1) d e f g h i j k (l ++ ([(Trust.mk x1.Threshold x1.Nodes x1.Inner)] : List Trust))
 else
 some (Trust.mk j k l)
 ) :=
 gL o12' (q09 Tryz.f141 [1,1,0,1,0,0])
theorem y2z a b c d e f : eL (z16 a b c d e f) (
 bif ltB d c then
 nth b d fun y0 =>
 Option.bind (z32 y0) fun x1 =>
 bif x1 then
 Option.bind (z5i y0) fun x2 =>
 Option.bind (z5j x2 (Claim.mk e f)) fun x3 =>
 bif x3 then
 chk (0 <= y0.Node) <|
 z16 (orI .i64 a (shlI .i64 1 y0.Node)) b c (addI .i64 d 1) e f
 else
 z16 a b c (addI .i64 d 1) e f
 else
 z16 a b c (addI .i64 d 1) e f
 else
 some a
 ) :=
 gL o1' (q09 Tryz.f146 [1,1,0,1,0,0])
theorem y5y a : eL (z5i a) (
 some a.Votes
 ) :=
 cL o2' Tryz.func153
theorem y28 a b c d e f : eL (z0w a b c d e f) (
 bif ltB d c then
 nth b d fun y0 =>
 Option.bind (z32 y0) fun x1 =>
 bif x1 then
 Option.bind (z4f y0) fun x2 =>
 Option.bind (z5j x2 (Claim.mk e f)) fun x3 =>
 bif x3 then
 chk (0 <= y0.Node) <|
 z0w (orI .i64 a (shlI .i64 1 y0.Node)) b c (addI .i64 d 1) e f
 else
 z0w a b c (addI .i64 d 1) e f
 else
 z0w a b c (addI .i64 d 1) e f
 else
 some a
 ) :=
 gL o1' (q09 Tryz.f146 [1,1,0,1,0,0])
theorem y5p a : eL (z4f a) (
 some a.Accepts
 ) :=
 cL o2' Tryz.func147
theorem y0q a b c d e : eL (z1o a b c d e) (
 bif ltB d c then
 nth b d fun y0 =>
 bif y0.Declared then
 bif ltB d 10 then
 chk (0 <= d) <|
 z1o (orI .i64 a (shlI .i64 1 d)) b c (addI .i64 d 1) e
 else
 z1o a b c (addI .i64 d 1) e
 else
 z1o a b c (addI .i64 d 1) e
 else
 some a
 ) :=
 gL o1' (q09 Tryz.f166 [1,1,0,1,0,0])
theorem y1k a b c d e f g h : eL (z21 a b c d e f g h) (
 bif ltB e d then
 nth c e fun y0 =>
 Option.bind (z46 a y0) fun x1 =>
 bif x1 then
 z21 a (addI .i64 b 1) c d (addI .i64 e 1) f g h
 else
 z21 a b c d (addI .i64 e 1) f g h
 else
 z1x a b h (h.length : Int) 0 f g h
 ) :=
 gL o0' (q09 Tryz.f167 [1,1,1,0,1,0,0])
theorem y0t a b c : eL (z2q a b c) (
 Option.bind (z66 (Config.mk c) a) fun x0 =>
 bif !x0.2 then
 some (a, b)
 else
 capOk (List.length b + List.length ([x0.1] : List Int)) <|
 chk (0 <= x0.1) <|
 z2q (qiw .i64 a (shlI .i64 1 x0.1)) (b ++ ([x0.1] : List Int)) c
 ) :=
 gL o27' (q09 Tryz.f154 [1,1,1,1,0,0])
theorem y6a a b : eL (z66 a b) (
 Option.bind (z6r b) fun x0 =>
 z39 b x0 (x0.length : Int) 0 a.Members
 ) :=
 cL o13' Tryz.func168
theorem y76 a : eL (z6r a) (
 z3a a [] 0
 ) :=
 cL o8' Tryz.func174
theorem y8b a b c d : eL (z0d a b c d) (
 bif ltB c b then
 z0h a b c c d
 else
 some d
 ) :=
 gL o3' (q09 Tryz.f156 [1,0,0])
theorem y0u a b c d e : eL (z0q a b c d e) (
 bif leB 0 d then
 Option.bind (z17 d c a e) fun x0 =>
 z0q a b c (subI .i64 d 1) x0
 else
 z0r a b (subI .i64 c 1) e
 ) :=
 gL o3' (q09 Tryz.f157 [1,1,1,0,1,0,0])
theorem y71 a b c d : eL (z17 a b c d) (
 z0c b c a d
 ) :=
 cL o3' Tryz.func169
end Go.Proofs.YthbpagedblodfaaGreat
