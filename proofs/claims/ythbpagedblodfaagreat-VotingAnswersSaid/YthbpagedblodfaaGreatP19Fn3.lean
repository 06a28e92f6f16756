/- What the functions come to, printed by a program and checked by the kernel. -/
import Derived.Test.YthbpagedblodfaaGreatP19Df
namespace Go.Proofs.YthbpagedblodfaaGreat
open Go Go.Ab
set_option maxRecDepth 100000
theorem y3b a b c d e f g h i j k l : eL (z4a a b c d e f g h i j k l) (
 bif ltB c b then
 nth a c fun y0 =>
 Option.bind (z52 y0) fun x1 =>
 capOk (List.length l + List.length ([(Trust.mk x1.Threshold x1.Nodes x1.Inner)] : List Trust)) <|
 z4a a b (addI .i64 c 1) d e f g h i j k (l ++ ([(Trust.mk x1.Threshold x1.Nodes x1.Inner)] : List Trust))
 else
 some (Trust.mk j k l)
 ) :=
 gL o12' (q09 Tryz.f46 [1,1,0,1,0,0])
theorem qrv a b c d e f g h i j k l : eL (z26 a b c d e f g h i j k l) (
 bif ltB c b then
 nth a c fun y0 =>
 Option.bind (z32 y0) fun x1 =>
 bif !x1 then
 some false
 else
 bif eqB y0.Node d then
 some false
 else
 bif ltB 0 c then
 nth l (subI .i64 c 1) fun y2 =>
 bif leB y0.Node y2.Node then
 some false
 else
 z26 a b (addI .i64 c 1) d e f g h i j k l
 else
 z26 a b (addI .i64 c 1) d e f g h i j k l
 else
 some true
 ) :=
 gL o0' (q09 Tryz.f34 [1,1,1,1,0,1,0,0])
theorem y33 a b c d e f g h i j k l m n o p q r s t u : eL (z4b a b c d e f g h i j k l m n o p q r s t u) (
 bif ltB c b then
 nth a c fun y0 =>
 Option.bind (z3e y0) fun x1 =>
 capOk (List.length l + List.length ([(Message.mk x1.Node x1.Seq (Trust.mk x1.Trust.Threshold x1.Trust.Nodes x1.Trust.Inner) x1.Votes x1.Accepts)] : List Message)) <|
 z4b a b (addI .i64 c 1) d e f g h i j k (l ++ ([(Message.mk x1.Node x1.Seq (Trust.mk x1.Trust.Threshold x1.Trust.Nodes x1.Trust.Inner) x1.Votes x1.Accepts)] : List Message)) m n o p q r s t u
 else
 some (Voter.mk d e (Trust.mk f g h) i j k l)
 ) :=
 gL o4' (q09 Tryz.f54 [1,1,1,1,0,1,0,0])
theorem y6f a b c d e : eL (z0g a b c d e) (
 bif ltB d e then
 nth a (IntKind.wrap .i64 (shrI .u64 (IntKind.wrap .u64 (addI .i64 d e)) 1)) fun y0 =>
 Option.bind (z60 y0 b) fun x1 =>
 bif ltB x1 0 then
 z0g a b c (addI .i64 (IntKind.wrap .i64 (shrI .u64 (IntKind.wrap .u64 (addI .i64 d e)) 1)) 1) e
 else
 z0g a b c d (IntKind.wrap .i64 (shrI .u64 (IntKind.wrap .u64 (addI .i64 d e)) 1))
 else
 bif ltB d c then
 nth a d fun y2 =>
 Option.bind (z60 y2 b) fun x3 =>
 some (d, (eqB x3 0))
 else
 some (d, false)
 ) :=
 gL o13' (q09 Tryz.f58 [1,1,1,0,0,0])
theorem y6h a b : eL (z60 a b) (
 Option.bind (z3u a.Node b) fun x0 =>
 some x0
 ) :=
 cL o1' Tryz.func59
theorem y83 a b : eL (z3u a b) (
 Option.bind (z5r a) fun x0 =>
 Option.bind (z5r b) fun x1 =>
 bif x0 then
 bif x1 then
 some 0
 else
 some (-1)
 else
 bif x1 then
 some 1
 else
 bif ltB a b then
 some (-1)
 else
 bif ltB b a then
 some 1
 else
 some 0
 ) :=
 cL o1' Tryz.func60
theorem y8d a : eL (z5r a) (
 some (neB a a)
 ) :=
 cL o0' Tryz.func106
theorem y3f a b c d e : eL (z3v a b c d e) (
 bif ltB c a then
 capOk (List.length b + List.length ([c] : List Int)) <|
 z3v a (b ++ ([c] : List Int)) (addI .i64 c 1) d e
 else
 z3z b (subI .i64 a 1) d e
 ) :=
 gL o18' (q09 Tryz.f13 [1,1,0,1,0,0])
theorem y3n a b c d e f g : eL (z4s a b c d e f g) (
 bif ltB d c then
 nth b d fun y0 =>
 Option.bind (z6u y0) fun x1 =>
 z4s (if x1 > a then x1 else a) b c (addI .i64 d 1) e f g
 else
 some (addI .i64 a 1)
 ) :=
 gL o1' (q09 Tryz.f97 [1,1,0,1,0,0])
theorem y1f a b c d e f g : eL (z5a a b c d e f g) (
 bif ltB d c then
 nth b d fun y0 =>
 Option.bind (z75 y0) fun x1 =>
 z5a (addI .i64 a x1) b c (addI .i64 d 1) e f g
 else
 some a
 ) :=
 gL o1' (q09 Tryz.f98 [1,1,0,1,0,0])
theorem qgq a b c d e f : eL (z22 a b c d e f) (
 bif ltB c b then
 nth a c fun y0 =>
 bif ltB y0 0 then
 some 5
 else
 bif leB 10 y0 then
 some 5
 else
 z22 a b (addI .i64 c 1) d e f
 else
 Option.bind (z7e e) fun x1 =>
 bif neB x1.2 0 then
 some x1.2
 else
 z23 f (f.length : Int) 0 d e f
 ) :=
 gL o1' (q09 Tryz.f99 [1,1,0,1,0,0])
theorem y3j a : eL (z7e a) (
 z2m 0 a (a.length : Int) 0
 ) :=
 cL o14' Tryz.func122
theorem y1t a b c d e f g : eL (z36 a b c d e f g) (
 bif ltB d c then
 nth b d fun y0 =>
 Option.bind (z56 y0) fun x1 =>
 z36 (if x1 > a then x1 else a) b c (addI .i64 d 1) e f g
 else
 some (addI .i64 a 1)
 ) :=
 gL o1' (q09 Tryz.f93 [1,1,0,1,0,0])
theorem y0n a b c d e f g : eL (z3l a b c d e f g) (
 bif ltB d c then
 nth b d fun y0 =>
 Option.bind (z5o y0) fun x1 =>
 z3l (addI .i64 a x1) b c (addI .i64 d 1) e f g
 else
 some a
 ) :=
 gL o1' (q09 Tryz.f94 [1,1,0,1,0,0])
theorem y2o a b c d e f : eL (z37 a b c d e f) (
 bif ltB c b then
 nth a c fun y0 =>
 Option.bind (z57 y0) fun x1 =>
 bif neB x1 0 then
 some x1
 else
 z37 a b (addI .i64 c 1) d e f
 else
 some 0
 ) :=
 gL o1' (q09 Tryz.f95 [1,1,1,1,0,1,0,0])
theorem qrg a b c d : eL (z2k a b c d) (
 bif ltB d c then
 nth b d fun y0 =>
 Option.bind (z5v y0) fun x1 =>
 bif !x1 then
 some false
 else
 bif ltB 0 d then
 nth a (subI .i64 d 1) fun y2 =>
 Option.bind (z09 y2 y0) fun x3 =>
 bif leB 0 x3 then
 some false
 else
 z2k a b c (addI .i64 d 1)
 else
 z2k a b c (addI .i64 d 1)
 else
 some true
 ) :=
 gL o0' (q09 Tryz.f81 [1,0,1,0,0])
theorem y5a a b : eL (z09 a b) (
 Option.bind (z3u a.Topic b.Topic) fun x0 =>
 Option.bind (z3u a.Value b.Value) fun x1 =>
 Option.bind (z7c ([x0, x1] : List Int)) fun x2 =>
 some x2
 ) :=
 cL o1' Tryz.func116
theorem y60 a : eL (z7c a) (
 z4w 0 a (a.length : Int) 0
 ) :=
 cL o1' Tryz.func133
theorem qwr a b c d e : eL (z0v a b c d e) (
 bif ltB c b then
 nth a c fun y0 =>
 Option.bind (z6p y0 d e) fun x1 =>
 bif x1.1 then
 some (c, x1.2.1, x1.2.2)
 else
 z0v a b (addI .i64 c 1) x1.2.1 x1.2.2
 else
 some ((-1), d, e)
 ) :=
 gL o24' (q09 Tryz.f100 [1,0,1,0,0])
theorem y7g a b c : eL (z6p a b c) (
 Option.bind (z5d (Claim.mk b c) a) fun x0 =>
 some (x0, b, c)
 ) :=
 cL o22' Tryz.func50
theorem ya7 a b : eL (z5d a b) (
 bif eqB a.Topic b.Topic then
 some (neB a.Value b.Value)
 else
 some false
 ) :=
 cL o0' Tryz.func51
theorem yaj a b c d e f g h i j k l m n o p q r s t u v : eL (z4i a b c d e f g h i j k l m n o p q r s t u v) (
 bif a then
 Option.bind (z6l h (Claim.mk u v)) fun x0 =>
 Option.bind (z6a (Voter.mk b c (Trust.mk d e f) g x0 i j) (Config.mk t)) fun x1 =>
 z4i x1.2 b c d e f g x0 i j k l m n o p q r s t x1.1.Topic x1.1.Value
 else
 Option.bind (z1u j) fun x2 =>
 Option.bind (z5k (Voter.mk b c (Trust.mk d e f) g h i j)) fun x3 =>
 capOk (List.length x2.2 + List.length ([(Message.mk x3.Node x3.Seq (Trust.mk x3.Trust.Threshold x3.Trust.Nodes x3.Trust.Inner) x3.Votes x3.Accepts)] : List Message)) <|
 z2y (x2.2 ++ ([(Message.mk x3.Node x3.Seq (Trust.mk x3.Trust.Threshold x3.Trust.Nodes x3.Trust.Inner) x3.Votes x3.Accepts)] : List Message)) h (h.length : Int) 0 b c d e f g h i j k l m n o p q r s t u v
 ) :=
 gL o4' (q09 Tryz.f104 [1,1,0,1,0,0])
theorem y31 a b c d : eL (z1y a b c d) (
 bif ltB d c then
 nth a d fun y0 =>
 nth b d fun y1 =>
 bif (!((eqB y0.Topic y1.Topic) && ((eqB y0.Value y1.Value) && true))) then
 some false
 else
 z1y a b c (addI .i64 d 1)
 else
 some true
 ) :=
 gL o0' (q09 Tryz.f88 [1,1,0,1,0,0])
theorem qs1 a b c d : eL (z3r a b c d) (
 bif ltB d c then
 nth b d fun y0 =>
 bif ltB y0 0 then
 some (0, 5)
 else
 bif leB 10 y0 then
 some (0, 5)
 else
 Option.bind (z46 a y0) fun x1 =>
 bif x1 then
 some (0, 6)
 else
 chk (0 <= y0) <|
 z3r (orI .i64 a (shlI .i64 1 y0)) b c (addI .i64 d 1)
 else
 some (a, 0)
 ) :=
 gL o14' (q09 Tryz.f121 [1,1,0,1,0,0])
theorem y7u a b : eL (z46 a b) (
 Option.bind (z2h a) fun x0 =>
 bif x0 then
 bif leB 0 b then
 bif ltB b 10 then
 chk (0 <= b) <|
 some (neB (andI .i64 a (shlI .i64 1 b)) 0)
 else
 some false
 else
 some false
 else
 some false
 ) :=
 cL o0' Tryz.func135
theorem y2v a : eL (z2h a) (
 Option.bind (z5b a 10) fun x0 =>
 some x0
 ) :=
 cL o0' Tryz.func149
theorem y1b a b : eL (z5b a b) (
 bif leB 0 a then
 chk (0 <= b) <|
 some (ltB a (shlI .i64 1 b))
 else
 some false
 ) :=
 cL o0' Tryz.func155
theorem qxq a b c d e f g h i j k l : eL (z0s a b c d e f g h i j k l) (
 bif ltB c b then
 nth a c fun y0 =>
 Option.bind (z6h y0 d e f g h i j k l) fun x1 =>
 bif x1.1 then
 some (c, x1.2.1, x1.2.2.1, x1.2.2.2.1, x1.2.2.2.2.1, x1.2.2.2.2.2.1, x1.2.2.2.2.2.2.1, x1.2.2.2.2.2.2.2.1, x1.2.2.2.2.2.2.2.2.1, x1.2.2.2.2.2.2.2.2.2)
 else
 z0s a b (addI .i64 c 1) x1.2.1 x1.2.2.1 x1.2.2.2.1 x1.2.2.2.2.1 x1.2.2.2.2.2.1 x1.2.2.2.2.2.2.1 x1.2.2.2.2.2.2.2.1 x1.2.2.2.2.2.2.2.2.1 x1.2.2.2.2.2.2.2.2.2
 else
 some ((-1), d, e, f, g, h, i, j, k, l)
 ) :=
 gL o25' (q09 Tryz.f100 [1,0,1,0,0])
theorem y9d a b c d e f g h i j : eL (z6h a b c d e f g h i j) (
 Option.bind (z5j h a) fun x0 =>
 some ((!x0), b, c, d, e, f, g, h, i, j)
 ) :=
 cL o23' Tryz.func83
theorem qyg a b c d e : eL (z1q a b c d e) (
 bif ltB c b then
 nth a c fun y0 =>
 bif ((eqB d y0.Topic) && ((eqB e y0.Value) && true)) then
 some c
 else
 z1q a b (addI .i64 c 1) d e
 else
 some (-1)
 ) :=
 gL o1' (q09 Tryz.f123 [1,0,1,0,0])
theorem y35 a b c d e f g h i : eL (z2e a b c d e f g h i) (
 bif ltB d c then
 nth b d fun y0 =>
 bif neB y0.Node a then
 Option.bind (z32 y0) fun x1 =>
 bif x1 then
 Option.bind (z3w y0.Trust) fun x2 =>
 nth i y0.Node fun _ =>
 nthN i (Int.toNat y0.Node) fun _y3 =>
 z2e a b c (addI .i64 d 1) e f g h (List.set i (Int.toNat y0.Node) (Member.mk true (Trust.mk x2.Threshold x2.Nodes x2.Inner)))
 else
 z2e a b c (addI .i64 d 1) e f g h i
 else
 z2e a b c (addI .i64 d 1) e f g h i
 else
 Option.bind (z5p a) fun x4 =>
 bif x4 then
 Option.bind (z31 (Trust.mk e f g)) fun x5 =>
 bif eqB x5 0 then
 Option.bind (z3w (Trust.mk e f g)) fun x6 =>
 nth i a fun _ =>
 nthN i (Int.toNat a) fun _y7 =>
 some (Config.mk (List.set i (Int.toNat a) (Member.mk true (Trust.mk x6.Threshold x6.Nodes x6.Inner))))
 else
 some (Config.mk i)
 else
 some (Config.mk i)
 ) :=
 gL o15' (q09 Tryz.f126 [1,1,0,1,0,0])
theorem y7c a : eL (z3w a) (
 capOk (List.length ([] : List Int) + List.length a.Nodes) <|
 z30 a.Inner (a.Inner.length : Int) 0 a.Threshold a.Nodes a.Inner 0 [] [] a.Threshold (([] : List Int) ++ a.Nodes) []
 ) :=
 cL o12' Tryz.func141
theorem y0x a b c d e f g h i j k l m n o p : eL (z3h a b c d e f g h i j k l m n o p) (
 bif ltB d c then
 nth b d fun y0 =>
 Option.bind (z5j k y0) fun x1 =>
 bif x1 then
 z3h a b c (addI .i64 d 1) e f g h i j k l m n o p
 else
 Option.bind (z1a k) fun x2 =>
 capOk (List.length x2.2 + List.length ([y0] : List Claim)) <|
 Option.bind (z6b (x2.2 ++ ([y0] : List Claim))) fun x3 =>
 bif !x3 then
 z3h a b c (addI .i64 d 1) e f g h i j k l m n o p
 else
 Option.bind (z63 a y0) fun x4 =>
 Option.bind (z40 a y0) fun x5 =>
 Option.bind (z4j (Config.mk n) e x4 x5) fun x6 =>
 bif x6 then
 some (y0, true)
 else
 z3h a b c (addI .i64 d 1) e f g h i j k l m n o p
 else
 some ((Claim.mk 0 0), false)
 ) :=
 gL o26' (q09 Tryz.f127 [1,1,0,1,0,0])
theorem ya5 a b : eL (z63 a b) (
 Option.bind (z1z a b) fun x0 =>
 some x0
 ) :=
 cL o1' Tryz.func144
theorem y6y a b : eL (z40 a b) (
 Option.bind (z1w a b) fun x0 =>
 some x0
 ) :=
 cL o1' Tryz.func129
theorem y8v a b c d : eL (z4j a b c d) (
 Option.bind (z2h c) fun x0 =>
 bif !x0 then
 some false
 else
 Option.bind (z2h d) fun x1 =>
 bif !x1 then
 some false
 else
 Option.bind (z58 a b d) fun x2 =>
 bif x2 then
 some true
 else
 Option.bind (z4t a (orI .i64 c d)) fun x3 =>
 Option.bind (z46 x3 b) fun x4 =>
 some x4
 ) :=
 cL o0' Tryz.func143
theorem y96 a b : eL (z1z a b) (
 z16 0 a (a.length : Int) 0 b.Topic b.Value
 ) :=
 cL o1' Tryz.func146
theorem yao a b : eL (z1w a b) (
 z0w 0 a (a.length : Int) 0 b.Topic b.Value
 ) :=
 cL o1' Tryz.func146
theorem y7j a b c : eL (z58 a b c) (
 Option.bind (z2h c) fun x0 =>
 bif !x0 then
 some false
 else
 Option.bind (z2w a) fun x1 =>
 Option.bind (z46 x1 b) fun x2 =>
 bif !x2 then
 some false
 else
 chk (0 <= b) <|
 nth a.Members b fun y3 =>
 Option.bind (z2z y3.Trust (orI .i64 (qiw .i64 1023 c) (shlI .i64 1 b))) fun x4 =>
 some (!x4)
 ) :=
 cL o0' Tryz.func152
theorem y6q a b : eL (z4t a b) (
 Option.bind (z5e a b) fun x0 =>
 some x0.1
 ) :=
 cL o1' Tryz.func145
end Go.Proofs.YthbpagedblodfaaGreat
