/- What the functions come to, printed by a program and checked by the kernel. -/
import Derived.Test.YtglokalgdbegeaaGreatP22Df
namespace Go.Proofs.YtglokalgdbegeaaGreat
open Go Go.Ab
set_option maxRecDepth 100000
theorem yb1 a b c : eL (z16 a b c) (
 z0e a b (addI .i64 a 1) c
 ) :=
 cL o2' Tryz.func201
theorem y9g a b c : eL (z1d a b c) (
 z0r a 0 (subI .i64 b a) (quoI .i64 (subI .i64 (subI .i64 b a) 1) 2) c
 ) :=
 cL o2' Tryz.func202
theorem y9r a b c : eL (z17 a b c) (
 bif leB 8 (subI .i64 b a) then
 Option.bind (z3e (subI .i64 b a)) fun x0 =>
 z0b a (subI .i64 b a) x0 (subI .i64 (addI .i64 a (mulI .i64 (quoI .i64 (subI .i64 b a) 4) 2)) 1) c (IntKind.wrap .u64 (subI .i64 b a))
 else
 some c
 ) :=
 cL o2' Tryz.func203
theorem y6s a b c : eL (z0q a b c) (
 bif leB 8 (subI .i64 b a) then
 bif leB 50 (subI .i64 b a) then
 Option.bind (z0l (addI .i64 a (mulI .i64 (quoI .i64 (subI .i64 b a) 4) 1)) c 0) fun x0 =>
 Option.bind (z0l (addI .i64 a (mulI .i64 (quoI .i64 (subI .i64 b a) 4) 2)) x0.2.1 x0.2.2) fun x1 =>
 Option.bind (z0l (addI .i64 a (mulI .i64 (quoI .i64 (subI .i64 b a) 4) 3)) x1.2.1 x1.2.2) fun x2 =>
 Option.bind (z0y x0.1 x1.1 x2.1 x2.2.1 x2.2.2) fun x3 =>
 bif eqB x3.2.2 0 then
 some (x3.1, 1, x3.2.1)
 else
 bif eqB x3.2.2 12 then
 some (x3.1, 2, x3.2.1)
 else
 some (x3.1, 0, x3.2.1)
 else
 Option.bind (z0y (addI .i64 a (mulI .i64 (quoI .i64 (subI .i64 b a) 4) 1)) (addI .i64 a (mulI .i64 (quoI .i64 (subI .i64 b a) 4) 2)) (addI .i64 a (mulI .i64 (quoI .i64 (subI .i64 b a) 4) 3)) c 0) fun x4 =>
 bif eqB x4.2.2 0 then
 some (x4.1, 1, x4.2.1)
 else
 bif eqB x4.2.2 12 then
 some (x4.1, 2, x4.2.1)
 else
 some (x4.1, 0, x4.2.1)
 else
 some ((addI .i64 a (mulI .i64 (quoI .i64 (subI .i64 b a) 4) 2)), 1, c)
 ) :=
 cL o25' Tryz.func204
theorem y7b a b c : eL (z0m a b c) (
 z0v a (subI .i64 b 1) c
 ) :=
 cL o2' Tryz.func205
theorem y7x a b c : eL (z09 a b c) (
 z03 a b (addI .i64 a 1) 0 c
 ) :=
 cL o8' Tryz.func206
theorem y84 a b c d : eL (z04 a b c d) (
 nth d c fun _ =>
 nth d a fun _ =>
 nthN d (Int.toNat c) fun y0 =>
 nthN d (Int.toNat a) fun y1 =>
 nth d a fun _ =>
 nthN d (Int.toNat a) fun _y2 =>
 nth (List.set d (Int.toNat a) y0) c fun _ =>
 nthN (List.set d (Int.toNat a) y0) (Int.toNat c) fun _y3 =>
 z0a a (addI .i64 a 1) (subI .i64 b 1) (List.set (List.set d (Int.toNat a) y0) (Int.toNat c) y1)
 ) :=
 cL o10' Tryz.func207
theorem yao a b c d : eL (z02 a b c d) (
 nth d c fun _ =>
 nth d a fun _ =>
 nthN d (Int.toNat c) fun y0 =>
 nthN d (Int.toNat a) fun y1 =>
 nth d a fun _ =>
 nthN d (Int.toNat a) fun _y2 =>
 nth (List.set d (Int.toNat a) y0) c fun _ =>
 nthN (List.set d (Int.toNat a) y0) (Int.toNat c) fun _y3 =>
 z10 a (addI .i64 a 1) (subI .i64 b 1) (List.set (List.set d (Int.toNat a) y0) (Int.toNat c) y1)
 ) :=
 cL o4' Tryz.func208
theorem ya6 a : eL (z3e a) (
 Option.bind (z5l (IntKind.wrap .u64 a)) fun x0 =>
 chk (0 <= x0) <|
 some (shlI .u64 1 x0)
 ) :=
 cL ⟨[.lf (.i .u64)],[]⟩ Tryz.func220
theorem y9t a b c : eL (z0l a b c) (
 Option.bind (z0y (subI .i64 a 1) a (addI .i64 a 1) b c) fun x0 =>
 some (x0.1, x0.2.1, x0.2.2)
 ) :=
 cL o23' Tryz.func222
theorem yb6 a b c d e : eL (z0y a b c d e) (
 Option.bind (z0z a b d e) fun x0 =>
 Option.bind (z0z x0.2.1 c x0.2.2.1 x0.2.2.2) fun x1 =>
 Option.bind (z0z x0.1 x1.1 x1.2.2.1 x1.2.2.2) fun x2 =>
 some (x2.2.1, x2.2.2.1, x2.2.2.2)
 ) :=
 cL o23' Tryz.func223
theorem y92 a b c d : eL (z0z a b c d) (
 nth c b fun _ =>
 nth c a fun _ =>
 nthN c (Int.toNat b) fun y0 =>
 nthN c (Int.toNat a) fun y1 =>
 Option.bind (z06 y0 y1) fun x2 =>
 bif ltB x2 0 then
 some (b, a, c, (addI .i64 d 1))
 else
 some (a, b, c, d)
 ) :=
 cL o26' Tryz.func225
theorem y4n a b c d e f g h i j : eL (z3l a b c d e f g h i j) (
 bif ltB e d then
 nth c e fun y0 =>
 bif eqB y0 a then
 some ((Frac.mk f b), true)
 else
 z3l a b c d (addI .i64 e 1) f g h i j
 else
 z3n a b h (h.length : Int) 0 f g h i j
 ) :=
 gL o9' (q0b Tryz.f96 [1,1,0,1,0,0])
theorem y86 a b c : eL (z36 a b c) (
 bif ltB c 200 then
 z37 a b c false (b.length : Int) 0
 else
 some (b, false)
 ) :=
 gL o14' (q0b Tryz.f13 [1,1,0,1,0,0])
theorem y4k a b c d e f g h i : eL (z26 a b c d e f g h i) (
 bif ltB d c then
 nth b d fun y0 =>
 bif (neB (y0.Candidates.length : Int) 1) then
 some false
 else
 nth y0.Candidates 0 fun y1 =>
 bif !eqS y1 a then
 some false
 else
 bif (neB (y0.Votes.length : Int) 1) then
 some false
 else
 z26 a b c (addI .i64 d 1) e f g h i
 else
 Option.bind (law22_awake) fun x2 =>
 some x2
 ) :=
 gL o0' (q0b Tryz.f3 [1,1,1,1,1,1,1,1,1,1,1,1,0,1,0,0])
theorem y2z a b c d e f g h i j k l m n o p q r s t u v w x y z A B C D : eL (z2k a b c d e f g h i j k l m n o p q r s t u v w x y z A B C D) (
 bif ltB k j then
 nth i k fun y0 =>
 Option.bind (z3a a y0) fun x1 =>
 z2k x1 b c d e f g h i j (addI .i64 k 1) l m n o p q r s t u v w x y z A B C D
 else
 z21 a b c d e f g (addI .i64 h 1) l m n o p q r s t u v w
 ) :=
 gL o5' (q0b Tryz.f102 [1,1,1,0,1,0,0,1,1,0,0,1,1,1,0,0,1,1,0,0,1,1,1,0,0])
theorem y41 a b c d e f g h i j k l : eL (z2l a b c d e f g h i j k l) (
 bif ltB c b then
 nth a c fun y0 =>
 Option.bind (z39 y0) fun x1 =>
 capOk (List.length l + List.length ([(Trust.mk x1.Threshold x1.Nodes x1.Inner)] : List Trust)) <|
 z2l a b (addI .i64 c 1) d e f g h i j k (l ++ ([(Trust.mk x1.Threshold x1.Nodes x1.Inner)] : List Trust))
 else
 some (Trust.mk j k l)
 ) :=
 gL o13' (q0b Tryz.f169 [1,1,0,1,0,0])
theorem qte a b c d : eL (z2c a b c d) (
 bif ltB d c then
 nth b d fun y0 =>
 Option.bind (z5c y0) fun x1 =>
 bif !x1 then
 some false
 else
 bif ltB 0 d then
 nth a (subI .i64 d 1) fun y2 =>
 Option.bind (z53 y2 y0) fun x3 =>
 bif leB 0 x3 then
 some false
 else
 z2c a b c (addI .i64 d 1)
 else
 z2c a b c (addI .i64 d 1)
 else
 some true
 ) :=
 gL o0' (q0b Tryz.f190 [1,0,1,0,0])
theorem y77 a : eL (z5c a) (
 bif leB 0 a.Topic then
 bif ltB a.Topic 8 then
 bif leB 0 a.Value then
 some (leB a.Value 15)
 else
 some false
 else
 some false
 else
 some false
 ) :=
 cL o0' Tryz.func211
theorem y6r a b : eL (z53 a b) (
 Option.bind (z2o a.Topic b.Topic) fun x0 =>
 Option.bind (z2o a.Value b.Value) fun x1 =>
 Option.bind (z5b ([x0, x1] : List Int)) fun x2 =>
 some x2
 ) :=
 cL o1' Tryz.func212
theorem y36 a b c d e f g h : eL (z1s a b c d e f g h) (
 bif ltB e d then
 nth c e fun y0 =>
 Option.bind (z2i y0 a) fun x1 =>
 bif x1 then
 z1s a (addI .i64 b 1) c d (addI .i64 e 1) f g h
 else
 z1s a b c d (addI .i64 e 1) f g h
 else
 some (leB f b)
 ) :=
 gL o0' (q0b Tryz.f193 [1,1,1,1,0,1,0,0])
theorem y2x a b c d e : eL (z2u a b c d e) (
 bif ltB d c then
 nth b d fun y0 =>
 Option.bind (z4x (Config.mk e) y0 a) fun x1 =>
 bif !x1 then
 some (y0, true)
 else
 z2u a b c (addI .i64 d 1) e
 else
 some (0, false)
 ) :=
 gL o7' (q0b Tryz.f195 [1,0,1,0,0])
theorem ya7 a b c : eL (z4x a b c) (
 nth a.Members b fun y0 =>
 Option.bind (z2i y0.Trust c) fun x1 =>
 some x1
 ) :=
 cL o0' Tryz.func214
theorem y42 a b c d e f g h i j k : eL (z32 a b c d e f g h i j k) (
 bif ltB d c then
 nth b d fun y0 =>
 Option.bind (z4m y0 a) fun x1 =>
 bif x1.2 then
 some ((Frac.mk (mulI .i64 j x1.1.Num) (mulI .i64 k x1.1.Den)), true)
 else
 z32 a b c (addI .i64 d 1) e f g h i j k
 else
 some ((Frac.mk 0 0), false)
 ) :=
 gL o9' (q0b Tryz.f200 [1,1,1,0,1,0,0])
end Go.Proofs.YtglokalgdbegeaaGreat
