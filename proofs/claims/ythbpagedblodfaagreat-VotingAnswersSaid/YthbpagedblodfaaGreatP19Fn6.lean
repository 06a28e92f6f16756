/- What the functions come to, printed by a program and checked by the kernel. -/
import Derived.Test.YthbpagedblodfaaGreatP19Df
namespace Go.Proofs.YthbpagedblodfaaGreat
open Go Go.Ab
set_option maxRecDepth 100000
theorem y3o a b c d e f : eL (z0b a b c d e f) (
 bif (leB d (addI .i64 (addI .i64 a (mulI .i64 (quoI .i64 b 4) 2)) 1)) then
 Option.bind (z4g f) fun x0 =>
 bif (leB b (IntKind.wrap .i64 (andI .u64 x0.1 (subI .u64 c 1)))) then
 nth e (addI .i64 a (subI .i64 (IntKind.wrap .i64 (andI .u64 x0.1 (subI .u64 c 1))) b)) fun _ =>
 nth e d fun _ =>
 nthN e (Int.toNat (addI .i64 a (subI .i64 (IntKind.wrap .i64 (andI .u64 x0.1 (subI .u64 c 1))) b))) fun y1 =>
 nthN e (Int.toNat d) fun y2 =>
 nth e d fun _ =>
 nthN e (Int.toNat d) fun _y3 =>
 nth (List.set e (Int.toNat d) y1) (addI .i64 a (subI .i64 (IntKind.wrap .i64 (andI .u64 x0.1 (subI .u64 c 1))) b)) fun _ =>
 nthN (List.set e (Int.toNat d) y1) (Int.toNat (addI .i64 a (subI .i64 (IntKind.wrap .i64 (andI .u64 x0.1 (subI .u64 c 1))) b))) fun _y4 =>
 z0b a b c (addI .i64 d 1) (List.set (List.set e (Int.toNat d) y1) (Int.toNat (addI .i64 a (subI .i64 (IntKind.wrap .i64 (andI .u64 x0.1 (subI .u64 c 1))) b))) y2) x0.2
 else
 nth e (addI .i64 a (IntKind.wrap .i64 (andI .u64 x0.1 (subI .u64 c 1)))) fun _ =>
 nth e d fun _ =>
 nthN e (Int.toNat (addI .i64 a (IntKind.wrap .i64 (andI .u64 x0.1 (subI .u64 c 1))))) fun y5 =>
 nthN e (Int.toNat d) fun y6 =>
 nth e d fun _ =>
 nthN e (Int.toNat d) fun _y7 =>
 nth (List.set e (Int.toNat d) y5) (addI .i64 a (IntKind.wrap .i64 (andI .u64 x0.1 (subI .u64 c 1)))) fun _ =>
 nthN (List.set e (Int.toNat d) y5) (Int.toNat (addI .i64 a (IntKind.wrap .i64 (andI .u64 x0.1 (subI .u64 c 1))))) fun _y8 =>
 z0b a b c (addI .i64 d 1) (List.set (List.set e (Int.toNat d) y5) (Int.toNat (addI .i64 a (IntKind.wrap .i64 (andI .u64 x0.1 (subI .u64 c 1))))) y6) x0.2
 else
 some e
 ) :=
 gL o3' (q09 Tryz.f158 [1,1,0,1,1,1,0,0])
theorem y5v a : eL (z4g a) (
 some ((xorI .u64 (xorI .u64 (xorI .u64 a (shlI .u64 a 13)) (shrI .u64 (xorI .u64 a (shlI .u64 a 13)) 7)) (shlI .u64 (xorI .u64 (xorI .u64 a (shlI .u64 a 13)) (shrI .u64 (xorI .u64 a (shlI .u64 a 13)) 7)) 17)), (xorI .u64 (xorI .u64 (xorI .u64 a (shlI .u64 a 13)) (shrI .u64 (xorI .u64 a (shlI .u64 a 13)) 7)) (shlI .u64 (xorI .u64 (xorI .u64 a (shlI .u64 a 13)) (shrI .u64 (xorI .u64 a (shlI .u64 a 13)) 7)) 17)))
 ) :=
 cL o33' Tryz.func171
theorem y5c a b c : eL (z0x a b c) (
 bif ltB a b then
 nth c b fun _ =>
 nth c a fun _ =>
 nthN c (Int.toNat b) fun y0 =>
 nthN c (Int.toNat a) fun y1 =>
 nth c a fun _ =>
 nthN c (Int.toNat a) fun _y2 =>
 nth (List.set c (Int.toNat a) y0) b fun _ =>
 nthN (List.set c (Int.toNat a) y0) (Int.toNat b) fun _y3 =>
 z0x (addI .i64 a 1) (subI .i64 b 1) (List.set (List.set c (Int.toNat a) y0) (Int.toNat b) y1)
 else
 some c
 ) :=
 gL o3' (q09 Tryz.f160 [1,1,0,0])
theorem y0v a b c d e : eL (z03 a b c d e) (
 bif ltB d 5 then
 z0z a b c d true e
 else
 some (false, e)
 ) :=
 gL o10' (q09 Tryz.f161 [1,1,0,1,0,0])
theorem y6l a b c d : eL (z0a a b c d) (
 z0t a b c d
 ) :=
 gL o9' (q09 Tryz.f162 [1,1,1,0,0,0])
theorem y8k a b c d : eL (z12 a b c d) (
 bif leB b c then
 nth d b fun _ =>
 nth d a fun _ =>
 nthN d (Int.toNat b) fun y0 =>
 nthN d (Int.toNat a) fun y1 =>
 Option.bind (z09 y0 y1) fun x2 =>
 bif ltB x2 0 then
 z12 a (addI .i64 b 1) c d
 else
 z0n a b c false d
 else
 z0n a b c false d
 ) :=
 gL o7' (q09 Tryz.f163 [1,1,1,0,0,0])
theorem y1a a b c d e f g h i j k l m n o p q r s t u v w x y z A B C D E F G H I J K L M N O P Q R S T U V W X Y Z bb bc bd : eL (z2a a b c d e f g h i j k l m n o p q r s t u v w x y z A B C D E F G H I J K L M N O P Q R S T U V W X Y Z bb bc bd) (
 bif ltB g f then
 nth e g fun y0 =>
 Option.bind (z7b (Voter.mk U V (Trust.mk W X Y) Z bb bc bd) y0) fun x1 =>
 Option.bind (z79 (Voter.mk U V (Trust.mk W X Y) Z bb bc bd) y0) fun x2 =>
 bif neB x1.2 x2.2 then
 some false
 else
 Option.bind (z48 x1.1 x2.1) fun x3 =>
 bif !x3 then
 some false
 else
 z2a a b c d e f (addI .i64 g 1) h i j k l m n o p q r s t u v w x y z A B C D E F G H I J K L M N O P Q R S T U V W X Y Z bb bc bd
 else
 Option.bind (z68 4 2 C D) fun x4 =>
 z2b a b c d ([(Trust.mk z A B), (Trust.mk x4.1.Threshold x4.1.Nodes x4.1.Inner), (Trust.mk W X Y)] : List Trust) ((List.length ([(Trust.mk z A B), (Trust.mk x4.1.Threshold x4.1.Nodes x4.1.Inner), (Trust.mk W X Y)] : List Trust) : Nat) : Int) 0 h i j k l m n o p q r s t u v w x y z A B x4.2.1 x4.2.2 E F G H I J K L M N O P Q R S T U V W X Y Z bb bc bd
 ) :=
 gL o0' (q09 Tryz.f7 [1,1,1,1,1,1,0,1,0,0,1,1,0,0,1,1,1,0,1,0,0])
theorem qt3 a b c d e f g h i j k l : eL (z2i a b c d e f g h i j k l) (
 bif ltB c b then
 nth a c fun y0 =>
 Option.bind (z4z y0) fun x1 =>
 bif !x1 then
 some false
 else
 bif eqB y0.Node d then
 some false
 else
 bif ltB 0 c then
 nth l (subI .i64 c 1) fun y2 =>
 bif leB y0.Node y2.Node then
 some false
 else
 z2i a b (addI .i64 c 1) d e f g h i j k l
 else
 z2i a b (addI .i64 c 1) d e f g h i j k l
 else
 some true
 ) :=
 gL o0' (q09 Tryz.f35 [1,1,1,1,0,1,0,0])
theorem y0z a b c d e f g h i : eL (z2d a b c d e f g h i) (
 bif ltB g f then
 nth e g fun y0 =>
 Option.bind (z3x (Claim.mk h i) y0) fun x1 =>
 bif x1 then
 some false
 else
 z2d a b c d e f (addI .i64 g 1) h i
 else
 z25 a b c (addI .i64 d 1)
 ) :=
 gL o0' (q09 Tryz.f64 [1,0,1,0,0,1,1,0,0,1,1,0,0])
theorem y1v a b c d e f g h i : eL (z4q a b c d e f g h i) (
 bif ltB d c then
 nth b d fun y0 =>
 Option.bind (z4z y0) fun x1 =>
 bif x1 then
 nth i y0.Node fun _ =>
 nthN i (Int.toNat y0.Node) fun _y2 =>
 z4q a b c (addI .i64 d 1) e f g h (List.set i (Int.toNat y0.Node) (Member.mk true (Trust.mk y0.Trust.Threshold y0.Trust.Nodes y0.Trust.Inner)))
 else
 z4q a b c (addI .i64 d 1) e f g h i
 else
 bif leB 0 a then
 bif ltB a 10 then
 nth i a fun _ =>
 nthN i (Int.toNat a) fun _y3 =>
 Option.bind (z2j (Trust.mk e f g)) fun x4 =>
 bif eqB x4 0 then
 nth (List.set i (Int.toNat a) (Member.mk false (Trust.mk 0 [] []))) a fun _ =>
 nthN (List.set i (Int.toNat a) (Member.mk false (Trust.mk 0 [] []))) (Int.toNat a) fun _y5 =>
 some (Config.mk (List.set (List.set i (Int.toNat a) (Member.mk false (Trust.mk 0 [] []))) (Int.toNat a) (Member.mk true (Trust.mk e f g))))
 else
 some (Config.mk (List.set i (Int.toNat a) (Member.mk false (Trust.mk 0 [] []))))
 else
 some (Config.mk i)
 else
 some (Config.mk i)
 ) :=
 gL o15' (q09 Tryz.f23 [1,1,0,1,0,0])
theorem y1p a b c d e f : eL (z2f a b c d e f) (
 bif ltB d c then
 nth b d fun y0 =>
 Option.bind (z4z y0) fun x1 =>
 bif x1 then
 Option.bind (z5m y0.Accepts (Claim.mk e f)) fun x2 =>
 bif x2 then
 chk (0 <= y0.Node) <|
 z2f (orI .i64 a (shlI .i64 1 y0.Node)) b c (addI .i64 d 1) e f
 else
 z2f a b c (addI .i64 d 1) e f
 else
 z2f a b c (addI .i64 d 1) e f
 else
 some a
 ) :=
 gL o1' (q09 Tryz.f24 [1,1,0,1,0,0])
theorem y8a a b c d e : eL (z4k a b c d e) (
 bif ltB d c then
 nth b d fun y0 =>
 chk (0 <= y0) <|
 z4k (subI .i64 a (shlI .i64 1 y0)) b c (addI .i64 d 1) e
 else
 some a
 ) :=
 gL o1' (q09 Tryz.f71 [1,1,1,0,1,0,0])
theorem y2x a b c d e : eL (z2g a b c d e) (
 bif ltB d c then
 nth b d fun y0 =>
 bif ltB d 10 then
 bif y0.Declared then
 chk (0 <= d) <|
 z2g (orI .i64 a (shlI .i64 1 d)) b c (addI .i64 d 1) e
 else
 z2g a b c (addI .i64 d 1) e
 else
 z2g a b c (addI .i64 d 1) e
 else
 some a
 ) :=
 gL o1' (q09 Tryz.f111 [1,1,0,1,0,0])
theorem y9s a b c d : eL (z2r a b c d) (
 bif c then
 Option.bind (z6x a) fun x0 =>
 z27 a b false x0 (x0.length : Int) 0 d
 else
 some b
 ) :=
 gL o8' (q09 Tryz.f112 [1,1,1,1,0,1,0,0])
theorem yak a : eL (z6x a) (
 z44 a [] 0
 ) :=
 cL o8' Tryz.func132
theorem y1s a b c d e f : eL (z3i a b c d e f) (
 bif ltB d c then
 nth b d fun y0 =>
 Option.bind (z4z y0) fun x1 =>
 bif x1 then
 Option.bind (z5m y0.Votes (Claim.mk e f)) fun x2 =>
 bif x2 then
 chk (0 <= y0.Node) <|
 z3i (orI .i64 a (shlI .i64 1 y0.Node)) b c (addI .i64 d 1) e f
 else
 z3i a b c (addI .i64 d 1) e f
 else
 z3i a b c (addI .i64 d 1) e f
 else
 some a
 ) :=
 gL o1' (q09 Tryz.f69 [1,1,0,1,0,0])
theorem y2s a b c d e f g h : eL (z2p a b c d e f g h) (
 bif ltB e d then
 nth c e fun y0 =>
 Option.bind (z5n a y0) fun x1 =>
 bif x1 then
 z2p a (addI .i64 b 1) c d (addI .i64 e 1) f g h
 else
 z2p a b c d (addI .i64 e 1) f g h
 else
 z28 a b h (h.length : Int) 0 f g h
 ) :=
 gL o0' (q09 Tryz.f131 [1,1,1,0,1,0,0])
theorem y0m a b c d e f g h i j k l m n o p q r s t u v w x y z A B C D E : eL (z38 a b c d e f g h i j k l m n o p q r s t u v w x y z A B C D E) (
 bif ltB d c then
 nth b d fun y0 =>
 Option.bind (z7j (Voter.mk n o (Trust.mk p q r) s t u v) y0) fun x1 =>
 bif x1 then
 Option.bind (z72 t y0) fun x2 =>
 z3y true e f g h i j k l m n o p q r s x2 u v w x y z A B C D E
 else
 z38 a b c (addI .i64 d 1) e f g h i j k l m n o p q r s t u v w x y z A B C D E
 else
 z6m a b c d false e f g h i j k l m n o p q r s t u v w x y z A B C D E
 ) :=
 gL o4' (q09 Tryz.f92 [1,0,1,0,0,1,0,1,1,0,0])
theorem y3h a b c d e f g h i j k l m n o p q r s t u v w x y z A B C D E : eL (z2s a b c d e f g h i j k l m n o p q r s t u v w x y z A B C D E) (
 bif ltB d c then
 nth b d fun y0 =>
 Option.bind (z65 n (Trust.mk p q r) v) fun x1 =>
 Option.bind (z5s a y0) fun x2 =>
 Option.bind (z5t x1 n x2) fun x3 =>
 bif x3 then
 Option.bind (z72 u y0) fun x4 =>
 z2s a b c (addI .i64 d 1) e f g h i j k l m n o p q r s t x4 v w x y z A B C D E
 else
 z2s a b c (addI .i64 d 1) e f g h i j k l m n o p q r s t u v w x y z A B C D E
 else
 Option.bind (z49 j s) fun x5 =>
 bif !x5 then
 some (Voter.mk n (addI .i64 f 1) (Trust.mk p q r) s t u v)
 else
 Option.bind (z49 k t) fun x6 =>
 bif !x6 then
 some (Voter.mk n (addI .i64 f 1) (Trust.mk p q r) s t u v)
 else
 Option.bind (z3g (Trust.mk g h i) (Trust.mk p q r)) fun x7 =>
 bif !x7 then
 some (Voter.mk n (addI .i64 f 1) (Trust.mk p q r) s t u v)
 else
 some (Voter.mk n o (Trust.mk p q r) s t u v)
 ) :=
 gL o4' (q09 Tryz.f92 [1,1,1,0,1,0,0])
theorem y3k a b c d e f g h : eL (z1x a b c d e f g h) (
 bif ltB e d then
 nth c e fun y0 =>
 Option.bind (z2z y0 a) fun x1 =>
 bif x1 then
 z1x a (addI .i64 b 1) c d (addI .i64 e 1) f g h
 else
 z1x a b c d (addI .i64 e 1) f g h
 else
 some (leB f b)
 ) :=
 gL o0' (q09 Tryz.f167 [1,1,1,1,0,1,0,0])
theorem y1n a b c d e : eL (z39 a b c d e) (
 bif ltB d c then
 nth b d fun y0 =>
 Option.bind (z67 (Config.mk e) y0 a) fun x1 =>
 bif !x1 then
 some (y0, true)
 else
 z39 a b c (addI .i64 d 1) e
 else
 some (0, false)
 ) :=
 gL o13' (q09 Tryz.f168 [1,0,1,0,0])
theorem y8n a b c : eL (z67 a b c) (
 nth a.Members b fun y0 =>
 Option.bind (z2z y0.Trust c) fun x1 =>
 some x1
 ) :=
 cL o0' Tryz.func175
theorem y2d a b c : eL (z3a a b c) (
 bif ltB c 10 then
 Option.bind (z46 a c) fun x0 =>
 bif x0 then
 capOk (List.length b + List.length ([c] : List Int)) <|
 z3a a (b ++ ([c] : List Int)) (addI .i64 c 1)
 else
 z3a a b (addI .i64 c 1)
 else
 some b
 ) :=
 gL o8' (q09 Tryz.f174 [1,1,0,1,0,0])
theorem y2c a b c d e : eL (z0h a b c d e) (
 bif ltB a d then
 nth e d fun _ =>
 nth e (subI .i64 d 1) fun _ =>
 nthN e (Int.toNat d) fun y0 =>
 nthN e (Int.toNat (subI .i64 d 1)) fun y1 =>
 Option.bind (z09 y0 y1) fun x2 =>
 bif ltB x2 0 then
 nth e (subI .i64 d 1) fun _ =>
 nth e d fun _ =>
 nthN e (Int.toNat (subI .i64 d 1)) fun y3 =>
 nthN e (Int.toNat d) fun y4 =>
 nth e d fun _ =>
 nthN e (Int.toNat d) fun _y5 =>
 nth (List.set e (Int.toNat d) y3) (subI .i64 d 1) fun _ =>
 nthN (List.set e (Int.toNat d) y3) (Int.toNat (subI .i64 d 1)) fun _y6 =>
 z0h a b c (subI .i64 d 1) (List.set (List.set e (Int.toNat d) y3) (Int.toNat (subI .i64 d 1)) y4)
 else
 z0d a b (addI .i64 c 1) e
 else
 z0d a b (addI .i64 c 1) e
 ) :=
 gL o3' (q09 Tryz.f156 [1,0,0,1,0,0,1,0,0])
theorem y2g a b c d : eL (z0r a b c d) (
 bif leB 0 c then
 nth d (addI .i64 a c) fun _ =>
 nth d a fun _ =>
 nthN d (Int.toNat (addI .i64 a c)) fun y0 =>
 nthN d (Int.toNat a) fun y1 =>
 nth d a fun _ =>
 nthN d (Int.toNat a) fun _y2 =>
 nth (List.set d (Int.toNat a) y0) (addI .i64 a c) fun _ =>
 nthN (List.set d (Int.toNat a) y0) (Int.toNat (addI .i64 a c)) fun _y3 =>
 Option.bind (z17 b c a (List.set (List.set d (Int.toNat a) y0) (Int.toNat (addI .i64 a c)) y1)) fun x4 =>
 z0r a b (subI .i64 c 1) x4
 else
 some d
 ) :=
 gL o3' (q09 Tryz.f157 [1,1,1,1,1,0,0])
theorem y92 a b c d : eL (z0c a b c d) (
 bif (leB a (addI .i64 (mulI .i64 2 c) 1)) then
 some d
 else
 bif (ltB (addI .i64 (addI .i64 (mulI .i64 2 c) 1) 1) a) then
 nth d (addI .i64 b (addI .i64 (mulI .i64 2 c) 1)) fun _ =>
 nth d (addI .i64 (addI .i64 b (addI .i64 (mulI .i64 2 c) 1)) 1) fun _ =>
 nthN d (Int.toNat (addI .i64 b (addI .i64 (mulI .i64 2 c) 1))) fun y0 =>
 nthN d (Int.toNat (addI .i64 (addI .i64 b (addI .i64 (mulI .i64 2 c) 1)) 1)) fun y1 =>
 Option.bind (z09 y0 y1) fun x2 =>
 bif ltB x2 0 then
 nth d (addI .i64 b c) fun _ =>
 nth d (addI .i64 b (addI .i64 (addI .i64 (mulI .i64 2 c) 1) 1)) fun _ =>
 nthN d (Int.toNat (addI .i64 b c)) fun y3 =>
 nthN d (Int.toNat (addI .i64 b (addI .i64 (addI .i64 (mulI .i64 2 c) 1) 1))) fun y4 =>
 Option.bind (z09 y3 y4) fun x5 =>
 bif !(ltB x5 0) then
 some d
 else
 nth d (addI .i64 b (addI .i64 (addI .i64 (mulI .i64 2 c) 1) 1)) fun _ =>
 nth d (addI .i64 b c) fun _ =>
 nthN d (Int.toNat (addI .i64 b (addI .i64 (addI .i64 (mulI .i64 2 c) 1) 1))) fun y6 =>
 nthN d (Int.toNat (addI .i64 b c)) fun y7 =>
 nth d (addI .i64 b c) fun _ =>
 nthN d (Int.toNat (addI .i64 b c)) fun _y8 =>
 nth (List.set d (Int.toNat (addI .i64 b c)) y6) (addI .i64 b (addI .i64 (addI .i64 (mulI .i64 2 c) 1) 1)) fun _ =>
 nthN (List.set d (Int.toNat (addI .i64 b c)) y6) (Int.toNat (addI .i64 b (addI .i64 (addI .i64 (mulI .i64 2 c) 1) 1))) fun _y9 =>
 z0c a b (addI .i64 (addI .i64 (mulI .i64 2 c) 1) 1) (List.set (List.set d (Int.toNat (addI .i64 b c)) y6) (Int.toNat (addI .i64 b (addI .i64 (addI .i64 (mulI .i64 2 c) 1) 1))) y7)
 else
 nth d (addI .i64 b c) fun _ =>
 nth d (addI .i64 b (addI .i64 (mulI .i64 2 c) 1)) fun _ =>
 nthN d (Int.toNat (addI .i64 b c)) fun y10 =>
 nthN d (Int.toNat (addI .i64 b (addI .i64 (mulI .i64 2 c) 1))) fun y11 =>
 Option.bind (z09 y10 y11) fun x12 =>
 bif !(ltB x12 0) then
 some d
 else
 nth d (addI .i64 b (addI .i64 (mulI .i64 2 c) 1)) fun _ =>
 nth d (addI .i64 b c) fun _ =>
 nthN d (Int.toNat (addI .i64 b (addI .i64 (mulI .i64 2 c) 1))) fun y13 =>
 nthN d (Int.toNat (addI .i64 b c)) fun y14 =>
 nth d (addI .i64 b c) fun _ =>
 nthN d (Int.toNat (addI .i64 b c)) fun _y15 =>
 nth (List.set d (Int.toNat (addI .i64 b c)) y13) (addI .i64 b (addI .i64 (mulI .i64 2 c) 1)) fun _ =>
 nthN (List.set d (Int.toNat (addI .i64 b c)) y13) (Int.toNat (addI .i64 b (addI .i64 (mulI .i64 2 c) 1))) fun _y16 =>
 z0c a b (addI .i64 (mulI .i64 2 c) 1) (List.set (List.set d (Int.toNat (addI .i64 b c)) y13) (Int.toNat (addI .i64 b (addI .i64 (mulI .i64 2 c) 1))) y14)
 else
 nth d (addI .i64 b c) fun _ =>
 nth d (addI .i64 b (addI .i64 (mulI .i64 2 c) 1)) fun _ =>
 nthN d (Int.toNat (addI .i64 b c)) fun y17 =>
 nthN d (Int.toNat (addI .i64 b (addI .i64 (mulI .i64 2 c) 1))) fun y18 =>
 Option.bind (z09 y17 y18) fun x19 =>
 bif !(ltB x19 0) then
 some d
 else
 nth d (addI .i64 b (addI .i64 (mulI .i64 2 c) 1)) fun _ =>
 nth d (addI .i64 b c) fun _ =>
 nthN d (Int.toNat (addI .i64 b (addI .i64 (mulI .i64 2 c) 1))) fun y20 =>
 nthN d (Int.toNat (addI .i64 b c)) fun y21 =>
 nth d (addI .i64 b c) fun _ =>
 nthN d (Int.toNat (addI .i64 b c)) fun _y22 =>
 nth (List.set d (Int.toNat (addI .i64 b c)) y20) (addI .i64 b (addI .i64 (mulI .i64 2 c) 1)) fun _ =>
 nthN (List.set d (Int.toNat (addI .i64 b c)) y20) (Int.toNat (addI .i64 b (addI .i64 (mulI .i64 2 c) 1))) fun _y23 =>
 z0c a b (addI .i64 (mulI .i64 2 c) 1) (List.set (List.set d (Int.toNat (addI .i64 b c)) y20) (Int.toNat (addI .i64 b (addI .i64 (mulI .i64 2 c) 1))) y21)
 ) :=
 gL o3' (q09 Tryz.f169 [1,0,0])
theorem ya3 a b c d e f : eL (z0z a b c d e f) (
 bif ltB c b then
 nth f c fun _ =>
 nth f (subI .i64 c 1) fun _ =>
 nthN f (Int.toNat c) fun y0 =>
 nthN f (Int.toNat (subI .i64 c 1)) fun y1 =>
 Option.bind (z09 y0 y1) fun x2 =>
 bif !(ltB x2 0) then
 z0j a b (addI .i64 c 1) d f
 else
 bif eqB c b then
 some (true, f)
 else
 bif ltB (subI .i64 b a) 50 then
 some (false, f)
 else
 nth f (subI .i64 c 1) fun _ =>
 nth f c fun _ =>
 nthN f (Int.toNat (subI .i64 c 1)) fun y3 =>
 nthN f (Int.toNat c) fun y4 =>
 nth f c fun _ =>
 nthN f (Int.toNat c) fun _y5 =>
 nth (List.set f (Int.toNat c) y3) (subI .i64 c 1) fun _ =>
 nthN (List.set f (Int.toNat c) y3) (Int.toNat (subI .i64 c 1)) fun _y6 =>
 bif leB 2 (subI .i64 c a) then
 z07 a b c d (subI .i64 c 1) (List.set (List.set f (Int.toNat c) y3) (Int.toNat (subI .i64 c 1)) y4)
 else
 bif leB 2 (subI .i64 b c) then
 z05 a b c d (addI .i64 c 1) (List.set (List.set f (Int.toNat c) y3) (Int.toNat (subI .i64 c 1)) y4)
 else
 z03 a b c (addI .i64 d 1) (List.set (List.set f (Int.toNat c) y3) (Int.toNat (subI .i64 c 1)) y4)
 else
 bif eqB c b then
 some (true, f)
 else
 bif ltB (subI .i64 b a) 50 then
 some (false, f)
 else
 nth f (subI .i64 c 1) fun _ =>
 nth f c fun _ =>
 nthN f (Int.toNat (subI .i64 c 1)) fun y7 =>
 nthN f (Int.toNat c) fun y8 =>
 nth f c fun _ =>
 nthN f (Int.toNat c) fun _y9 =>
 nth (List.set f (Int.toNat c) y7) (subI .i64 c 1) fun _ =>
 nthN (List.set f (Int.toNat c) y7) (Int.toNat (subI .i64 c 1)) fun _y10 =>
 bif leB 2 (subI .i64 c a) then
 z07 a b c d (subI .i64 c 1) (List.set (List.set f (Int.toNat c) y7) (Int.toNat (subI .i64 c 1)) y8)
 else
 bif leB 2 (subI .i64 b c) then
 z05 a b c d (addI .i64 c 1) (List.set (List.set f (Int.toNat c) y7) (Int.toNat (subI .i64 c 1)) y8)
 else
 z03 a b c (addI .i64 d 1) (List.set (List.set f (Int.toNat c) y7) (Int.toNat (subI .i64 c 1)) y8)
 ) :=
 gL o10' (q09 Tryz.f161 [1,1,0,1,0,0,1,0,0,0,0,0])
theorem y5j a b c d : eL (z0t a b c d) (
 bif leB b c then
 nth d a fun _ =>
 nth d b fun _ =>
 nthN d (Int.toNat a) fun y0 =>
 nthN d (Int.toNat b) fun y1 =>
 Option.bind (z09 y0 y1) fun x2 =>
 bif !(ltB x2 0) then
 z0t a (addI .i64 b 1) c d
 else
 z0f a b c false d
 else
 z0f a b c false d
 ) :=
 gL o9' (q09 Tryz.f162 [1,1,1,0,0,0,0,0,0,0])
theorem y8p a b c d e : eL (z0n a b c d e) (
 bif leB b c then
 nth e c fun _ =>
 nth e a fun _ =>
 nthN e (Int.toNat c) fun y0 =>
 nthN e (Int.toNat a) fun y1 =>
 Option.bind (z09 y0 y1) fun x2 =>
 bif !(ltB x2 0) then
 z13 a b (subI .i64 c 1) e
 else
 bif ltB c b then
 nth e a fun _ =>
 nth e c fun _ =>
 nthN e (Int.toNat a) fun y3 =>
 nthN e (Int.toNat c) fun y4 =>
 nth e c fun _ =>
 nthN e (Int.toNat c) fun _y5 =>
 nth (List.set e (Int.toNat c) y3) a fun _ =>
 nthN (List.set e (Int.toNat c) y3) (Int.toNat a) fun _y6 =>
 some (c, true, (List.set (List.set e (Int.toNat c) y3) (Int.toNat a) y4))
 else
 nth e c fun _ =>
 nth e b fun _ =>
 nthN e (Int.toNat c) fun y7 =>
 nthN e (Int.toNat b) fun y8 =>
 nth e b fun _ =>
 nthN e (Int.toNat b) fun _y9 =>
 nth (List.set e (Int.toNat b) y7) c fun _ =>
 nthN (List.set e (Int.toNat b) y7) (Int.toNat c) fun _y10 =>
 z06 a (addI .i64 b 1) (subI .i64 c 1) (List.set (List.set e (Int.toNat b) y7) (Int.toNat c) y8)
 else
 bif ltB c b then
 nth e a fun _ =>
 nth e c fun _ =>
 nthN e (Int.toNat a) fun y11 =>
 nthN e (Int.toNat c) fun y12 =>
 nth e c fun _ =>
 nthN e (Int.toNat c) fun _y13 =>
 nth (List.set e (Int.toNat c) y11) a fun _ =>
 nthN (List.set e (Int.toNat c) y11) (Int.toNat a) fun _y14 =>
 some (c, true, (List.set (List.set e (Int.toNat c) y11) (Int.toNat a) y12))
 else
 nth e c fun _ =>
 nth e b fun _ =>
 nthN e (Int.toNat c) fun y15 =>
 nthN e (Int.toNat b) fun y16 =>
 nth e b fun _ =>
 nthN e (Int.toNat b) fun _y17 =>
 nth (List.set e (Int.toNat b) y15) c fun _ =>
 nthN (List.set e (Int.toNat b) y15) (Int.toNat c) fun _y18 =>
 z06 a (addI .i64 b 1) (subI .i64 c 1) (List.set (List.set e (Int.toNat b) y15) (Int.toNat c) y16)
 ) :=
 gL o7' (q09 Tryz.f163 [1,1,1,1,0,0,0])
theorem y2y a b c d e f g h i j k l m n o p q r s t u v w x y z A B C D E F G H I J K L M N O P Q R S T U V W X Y Z bb bc bd : eL (z2b a b c d e f g h i j k l m n o p q r s t u v w x y z A B C D E F G H I J K L M N O P Q R S T U V W X Y Z bb bc bd) (
 bif ltB g f then
 nth e g fun y0 =>
 Option.bind (z6g (Voter.mk U V (Trust.mk W X Y) Z bb bc bd) y0) fun x1 =>
 Option.bind (z5z (Voter.mk U V (Trust.mk W X Y) Z bb bc bd) y0) fun x2 =>
 bif neB x1.2 x2.2 then
 some false
 else
 Option.bind (z48 x1.1 x2.1) fun x3 =>
 bif !x3 then
 some false
 else
 z2b a b c d e f (addI .i64 g 1) h i j k l m n o p q r s t u v w x y z A B C D E F G H I J K L M N O P Q R S T U V W X Y Z bb bc bd
 else
 z1r a b c (addI .i64 d 1) h i j k l m n o p q r s t u v w x y z A B C D E F G H I J K L M N O P Q R S T
 ) :=
 gL o0' (q09 Tryz.f7 [1,1,1,1,1,1,0,1,0,0,1,1,0,0,1,1,1,1,1,0,0])
theorem y3e a b c d e f g : eL (z27 a b c d e f g) (
 bif ltB f e then
 nth d f fun y0 =>
 nth g y0 fun y1 =>
 Option.bind (z4d y1.Trust a) fun x2 =>
 bif !x2 then
 chk (0 <= y0) <|
 capOk (List.length b + List.length ([y0] : List Int)) <|
 z2r (subI .i64 a (shlI .i64 1 y0)) (b ++ ([y0] : List Int)) true g
 else
 z27 a b c d e (addI .i64 f 1) g
 else
 z4h a b c d e f false g
 ) :=
 gL o8' (q09 Tryz.f112 [1,1,1,1,0,1,0,0,1,0,1,1,0,0])
theorem y36 a b c : eL (z44 a b c) (
 bif ltB c 10 then
 Option.bind (z5n a c) fun x0 =>
 bif x0 then
 capOk (List.length b + List.length ([c] : List Int)) <|
 z44 a (b ++ ([c] : List Int)) (addI .i64 c 1)
 else
 z44 a b (addI .i64 c 1)
 else
 some b
 ) :=
 gL o8' (q09 Tryz.f132 [1,1,0,1,0,0])
theorem y22 a b c d e f g h : eL (z28 a b c d e f g h) (
 bif ltB e d then
 nth c e fun y0 =>
 Option.bind (z4d y0 a) fun x1 =>
 bif x1 then
 z28 a (addI .i64 b 1) c d (addI .i64 e 1) f g h
 else
 z28 a b c d (addI .i64 e 1) f g h
 else
 some (leB f b)
 ) :=
 gL o0' (q09 Tryz.f131 [1,1,1,1,0,1,0,0])
theorem y69 a b c d e f g h i j k l m n o p q r s t u v w x y z A B C D E F : eL (z6m a b c d e f g h i j k l m n o p q r s t u v w x y z A B C D E F) (
 bif a then
 Option.bind (z6s (Voter.mk o p (Trust.mk q r s) t u v w)) fun x0 =>
 z38 false x0 (x0.length : Int) 0 f g h i j k l m n o p q r s t u v w x y z A B C D E F
 else
 Option.bind (z6k (Voter.mk o p (Trust.mk q r s) t u v w)) fun x1 =>
 z2s x1 u (u.length : Int) 0 f g h i j k l m n o p q r s t u v w x y z A B C D E F
 ) :=
 gL o4' (q09 Tryz.f92 [1,0,1,0,0])
theorem y56 a b c d e : eL (z0j a b c d e) (
 bif ltB c b then
 nth e c fun _ =>
 nth e (subI .i64 c 1) fun _ =>
 nthN e (Int.toNat c) fun y0 =>
 nthN e (Int.toNat (subI .i64 c 1)) fun y1 =>
 Option.bind (z09 y0 y1) fun x2 =>
 bif !(ltB x2 0) then
 z0j a b (addI .i64 c 1) d e
 else
 bif eqB c b then
 some (true, e)
 else
 bif ltB (subI .i64 b a) 50 then
 some (false, e)
 else
 nth e (subI .i64 c 1) fun _ =>
 nth e c fun _ =>
 nthN e (Int.toNat (subI .i64 c 1)) fun y3 =>
 nthN e (Int.toNat c) fun y4 =>
 nth e c fun _ =>
 nthN e (Int.toNat c) fun _y5 =>
 nth (List.set e (Int.toNat c) y3) (subI .i64 c 1) fun _ =>
 nthN (List.set e (Int.toNat c) y3) (Int.toNat (subI .i64 c 1)) fun _y6 =>
 bif leB 2 (subI .i64 c a) then
 z07 a b c d (subI .i64 c 1) (List.set (List.set e (Int.toNat c) y3) (Int.toNat (subI .i64 c 1)) y4)
 else
 bif leB 2 (subI .i64 b c) then
 z05 a b c d (addI .i64 c 1) (List.set (List.set e (Int.toNat c) y3) (Int.toNat (subI .i64 c 1)) y4)
 else
 z03 a b c (addI .i64 d 1) (List.set (List.set e (Int.toNat c) y3) (Int.toNat (subI .i64 c 1)) y4)
 else
 bif eqB c b then
 some (true, e)
 else
 bif ltB (subI .i64 b a) 50 then
 some (false, e)
 else
 nth e (subI .i64 c 1) fun _ =>
 nth e c fun _ =>
 nthN e (Int.toNat (subI .i64 c 1)) fun y7 =>
 nthN e (Int.toNat c) fun y8 =>
 nth e c fun _ =>
 nthN e (Int.toNat c) fun _y9 =>
 nth (List.set e (Int.toNat c) y7) (subI .i64 c 1) fun _ =>
 nthN (List.set e (Int.toNat c) y7) (Int.toNat (subI .i64 c 1)) fun _y10 =>
 bif leB 2 (subI .i64 c a) then
 z07 a b c d (subI .i64 c 1) (List.set (List.set e (Int.toNat c) y7) (Int.toNat (subI .i64 c 1)) y8)
 else
 bif leB 2 (subI .i64 b c) then
 z05 a b c d (addI .i64 c 1) (List.set (List.set e (Int.toNat c) y7) (Int.toNat (subI .i64 c 1)) y8)
 else
 z03 a b c (addI .i64 d 1) (List.set (List.set e (Int.toNat c) y7) (Int.toNat (subI .i64 c 1)) y8)
 ) :=
 gL o10' (q09 Tryz.f161 [1,1,0,1,0,0,1,0,0,0,0,0])
theorem y1l a b c d e f : eL (z07 a b c d e f) (
 bif leB 1 e then
 nth f e fun _ =>
 nth f (subI .i64 e 1) fun _ =>
 nthN f (Int.toNat e) fun y0 =>
 nthN f (Int.toNat (subI .i64 e 1)) fun y1 =>
 Option.bind (z09 y0 y1) fun x2 =>
 bif !(ltB x2 0) then
 bif leB 2 (subI .i64 b c) then
 z05 a b c d (addI .i64 c 1) f
 else
 z03 a b c (addI .i64 d 1) f
 else
 nth f (subI .i64 e 1) fun _ =>
 nth f e fun _ =>
 nthN f (Int.toNat (subI .i64 e 1)) fun y3 =>
 nthN f (Int.toNat e) fun y4 =>
 nth f e fun _ =>
 nthN f (Int.toNat e) fun _y5 =>
 nth (List.set f (Int.toNat e) y3) (subI .i64 e 1) fun _ =>
 nthN (List.set f (Int.toNat e) y3) (Int.toNat (subI .i64 e 1)) fun _y6 =>
 z07 a b c d (subI .i64 e 1) (List.set (List.set f (Int.toNat e) y3) (Int.toNat (subI .i64 e 1)) y4)
 else
 bif leB 2 (subI .i64 b c) then
 z05 a b c d (addI .i64 c 1) f
 else
 z03 a b c (addI .i64 d 1) f
 ) :=
 gL o10' (q09 Tryz.f161 [1,1,0,1,0,0,1,0,0,1,1,1,1,0,1,0,1,0,0])
theorem y6m a b c d e f : eL (z05 a b c d e f) (
 bif ltB e b then
 nth f e fun _ =>
 nth f (subI .i64 e 1) fun _ =>
 nthN f (Int.toNat e) fun y0 =>
 nthN f (Int.toNat (subI .i64 e 1)) fun y1 =>
 Option.bind (z09 y0 y1) fun x2 =>
 bif !(ltB x2 0) then
 z03 a b c (addI .i64 d 1) f
 else
 nth f (subI .i64 e 1) fun _ =>
 nth f e fun _ =>
 nthN f (Int.toNat (subI .i64 e 1)) fun y3 =>
 nthN f (Int.toNat e) fun y4 =>
 nth f e fun _ =>
 nthN f (Int.toNat e) fun _y5 =>
 nth (List.set f (Int.toNat e) y3) (subI .i64 e 1) fun _ =>
 nthN (List.set f (Int.toNat e) y3) (Int.toNat (subI .i64 e 1)) fun _y6 =>
 z05 a b c d (addI .i64 e 1) (List.set (List.set f (Int.toNat e) y3) (Int.toNat (subI .i64 e 1)) y4)
 else
 z03 a b c (addI .i64 d 1) f
 ) :=
 gL o10' (q09 Tryz.f161 [1,1,0,1,0,0,1,0,0,1,1,1,1,1,1,0,1,0,0])
theorem y9l a b c d e : eL (z0f a b c d e) (
 bif leB b c then
 nth e a fun _ =>
 nth e c fun _ =>
 nthN e (Int.toNat a) fun y0 =>
 nthN e (Int.toNat c) fun y1 =>
 Option.bind (z09 y0 y1) fun x2 =>
 bif ltB x2 0 then
 z0u a b (subI .i64 c 1) e
 else
 bif ltB c b then
 some (b, e)
 else
 nth e c fun _ =>
 nth e b fun _ =>
 nthN e (Int.toNat c) fun y3 =>
 nthN e (Int.toNat b) fun y4 =>
 nth e b fun _ =>
 nthN e (Int.toNat b) fun _y5 =>
 nth (List.set e (Int.toNat b) y3) c fun _ =>
 nthN (List.set e (Int.toNat b) y3) (Int.toNat c) fun _y6 =>
 z0a a (addI .i64 b 1) (subI .i64 c 1) (List.set (List.set e (Int.toNat b) y3) (Int.toNat c) y4)
 else
 bif ltB c b then
 some (b, e)
 else
 nth e c fun _ =>
 nth e b fun _ =>
 nthN e (Int.toNat c) fun y7 =>
 nthN e (Int.toNat b) fun y8 =>
 nth e b fun _ =>
 nthN e (Int.toNat b) fun _y9 =>
 nth (List.set e (Int.toNat b) y7) c fun _ =>
 nthN (List.set e (Int.toNat b) y7) (Int.toNat c) fun _y10 =>
 z0a a (addI .i64 b 1) (subI .i64 c 1) (List.set (List.set e (Int.toNat b) y7) (Int.toNat c) y8)
 ) :=
 gL o9' (q09 Tryz.f162 [1,1,1,0,0,0,0,1,0,0,0])
theorem y8z a b c d : eL (z13 a b c d) (
 bif leB b c then
 nth d c fun _ =>
 nth d a fun _ =>
 nthN d (Int.toNat c) fun y0 =>
 nthN d (Int.toNat a) fun y1 =>
 Option.bind (z09 y0 y1) fun x2 =>
 bif !(ltB x2 0) then
 z13 a b (subI .i64 c 1) d
 else
 bif ltB c b then
 nth d a fun _ =>
 nth d c fun _ =>
 nthN d (Int.toNat a) fun y3 =>
 nthN d (Int.toNat c) fun y4 =>
 nth d c fun _ =>
 nthN d (Int.toNat c) fun _y5 =>
 nth (List.set d (Int.toNat c) y3) a fun _ =>
 nthN (List.set d (Int.toNat c) y3) (Int.toNat a) fun _y6 =>
 some (c, true, (List.set (List.set d (Int.toNat c) y3) (Int.toNat a) y4))
 else
 nth d c fun _ =>
 nth d b fun _ =>
 nthN d (Int.toNat c) fun y7 =>
 nthN d (Int.toNat b) fun y8 =>
 nth d b fun _ =>
 nthN d (Int.toNat b) fun _y9 =>
 nth (List.set d (Int.toNat b) y7) c fun _ =>
 nthN (List.set d (Int.toNat b) y7) (Int.toNat c) fun _y10 =>
 z06 a (addI .i64 b 1) (subI .i64 c 1) (List.set (List.set d (Int.toNat b) y7) (Int.toNat c) y8)
 else
 bif ltB c b then
 nth d a fun _ =>
 nth d c fun _ =>
 nthN d (Int.toNat a) fun y11 =>
 nthN d (Int.toNat c) fun y12 =>
 nth d c fun _ =>
 nthN d (Int.toNat c) fun _y13 =>
 nth (List.set d (Int.toNat c) y11) a fun _ =>
 nthN (List.set d (Int.toNat c) y11) (Int.toNat a) fun _y14 =>
 some (c, true, (List.set (List.set d (Int.toNat c) y11) (Int.toNat a) y12))
 else
 nth d c fun _ =>
 nth d b fun _ =>
 nthN d (Int.toNat c) fun y15 =>
 nthN d (Int.toNat b) fun y16 =>
 nth d b fun _ =>
 nthN d (Int.toNat b) fun _y17 =>
 nth (List.set d (Int.toNat b) y15) c fun _ =>
 nthN (List.set d (Int.toNat b) y15) (Int.toNat c) fun _y18 =>
 z06 a (addI .i64 b 1) (subI .i64 c 1) (List.set (List.set d (Int.toNat b) y15) (Int.toNat c) y16)
 ) :=
 gL o7' (q09 Tryz.f163 [1,1,1,1,0,0,0])
end Go.Proofs.YthbpagedblodfaaGreat
