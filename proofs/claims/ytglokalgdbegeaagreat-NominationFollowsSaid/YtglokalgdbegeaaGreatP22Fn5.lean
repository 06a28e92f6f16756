/- What the functions come to, printed by a program and checked by the kernel. -/
import Derived.Test.YtglokalgdbegeaaGreatP22Df
namespace Go.Proofs.YtglokalgdbegeaaGreat
open Go Go.Ab
set_option maxRecDepth 100000
theorem y7i a b c d : eL (z58 a b c d) (
 some (IntKind.wrap .u32 (shrI .u64 (xorI .u64 (mulI .u64 (xorI .u64 (mulI .u64 (xorI .u64 (addI .u64 (xorI .u64 (xorI .u64 (xorI .u64 (shlI .u64 (IntKind.wrap .u64 a) 56) (shlI .u64 (IntKind.wrap .u64 b) 24)) (shlI .u64 (IntKind.wrap .u64 c) 8)) (IntKind.wrap .u64 d)) 11400714819323198485) (shrI .u64 (addI .u64 (xorI .u64 (xorI .u64 (xorI .u64 (shlI .u64 (IntKind.wrap .u64 a) 56) (shlI .u64 (IntKind.wrap .u64 b) 24)) (shlI .u64 (IntKind.wrap .u64 c) 8)) (IntKind.wrap .u64 d)) 11400714819323198485) 30)) 13787848793156543929) (shrI .u64 (mulI .u64 (xorI .u64 (addI .u64 (xorI .u64 (xorI .u64 (xorI .u64 (shlI .u64 (IntKind.wrap .u64 a) 56) (shlI .u64 (IntKind.wrap .u64 b) 24)) (shlI .u64 (IntKind.wrap .u64 c) 8)) (IntKind.wrap .u64 d)) 11400714819323198485) (shrI .u64 (addI .u64 (xorI .u64 (xorI .u64 (xorI .u64 (shlI .u64 (IntKind.wrap .u64 a) 56) (shlI .u64 (IntKind.wrap .u64 b) 24)) (shlI .u64 (IntKind.wrap .u64 c) 8)) (IntKind.wrap .u64 d)) 11400714819323198485) 30)) 13787848793156543929) 27)) 10723151780598845931) (shrI .u64 (mulI .u64 (xorI .u64 (mulI .u64 (xorI .u64 (addI .u64 (xorI .u64 (xorI .u64 (xorI .u64 (shlI .u64 (IntKind.wrap .u64 a) 56) (shlI .u64 (IntKind.wrap .u64 b) 24)) (shlI .u64 (IntKind.wrap .u64 c) 8)) (IntKind.wrap .u64 d)) 11400714819323198485) (shrI .u64 (addI .u64 (xorI .u64 (xorI .u64 (xorI .u64 (shlI .u64 (IntKind.wrap .u64 a) 56) (shlI .u64 (IntKind.wrap .u64 b) 24)) (shlI .u64 (IntKind.wrap .u64 c) 8)) (IntKind.wrap .u64 d)) 11400714819323198485) 30)) 13787848793156543929) (shrI .u64 (mulI .u64 (xorI .u64 (addI .u64 (xorI .u64 (xorI .u64 (xorI .u64 (shlI .u64 (IntKind.wrap .u64 a) 56) (shlI .u64 (IntKind.wrap .u64 b) 24)) (shlI .u64 (IntKind.wrap .u64 c) 8)) (IntKind.wrap .u64 d)) 11400714819323198485) (shrI .u64 (addI .u64 (xorI .u64 (xorI .u64 (xorI .u64 (shlI .u64 (IntKind.wrap .u64 a) 56) (shlI .u64 (IntKind.wrap .u64 b) 24)) (shlI .u64 (IntKind.wrap .u64 c) 8)) (IntKind.wrap .u64 d)) 11400714819323198485) 30)) 13787848793156543929) 27)) 10723151780598845931) 31)) 32))
 ) :=
 cL o24' Tryz.func54
theorem y5s a b : eL (z53 a b) (
 z3p b (addI .i64 (a.Nodes.length : Int) (a.Inner.length : Int)) a.Nodes (a.Nodes.length : Int) 0 a.Threshold a.Nodes a.Inner 0 0
 ) :=
 cL o9' Tryz.func96
theorem qs0 a b c d e f g h i j k l m n o : eL (z1q a b c d e f g h i j k l m n o) (
 bif ltB c b then
 nth a c fun y0 =>
 Option.bind (z40 y0) fun x1 =>
 bif !x1 then
 some false
 else
 bif eqB y0.Node d then
 some false
 else
 bif ltB 0 c then
 nth o (subI .i64 c 1) fun y2 =>
 bif leB y0.Node y2.Node then
 some false
 else
 z1q a b (addI .i64 c 1) d e f g h i j k l m n o
 else
 z1q a b (addI .i64 c 1) d e f g h i j k l m n o
 else
 some true
 ) :=
 gL o0' (q0b Tryz.f30 [1,1,1,1,0,1,0,0])
theorem qs6 a b c d : eL (z1x a b c d) (
 bif ltB d c then
 nth b d fun y0 =>
 Option.bind (z41 y0) fun x1 =>
 bif !x1 then
 some false
 else
 bif ltB 0 d then
 nth a (subI .i64 d 1) fun y2 =>
 Option.bind (z06 y2 y0) fun x3 =>
 bif leB 0 x3 then
 some false
 else
 z1x a b c (addI .i64 d 1)
 else
 z1x a b c (addI .i64 d 1)
 else
 some (leB (a.length : Int) 40)
 ) :=
 gL o0' (q0b Tryz.f79 [1,0,1,0,0])
theorem y2j a b c d : eL (z1k a b c d) (
 bif ltB d c then
 nth a d fun y0 =>
 nth b d fun y1 =>
 bif !eqS y0 y1 then
 some false
 else
 z1k a b c (addI .i64 d 1)
 else
 some true
 ) :=
 gL o0' (q0b Tryz.f89 [1,1,0,1,0,0])
theorem qwp a b c d e f g h i j k l m n o : eL (z0g a b c d e f g h i j k l m n o) (
 bif ltB c b then
 nth a c fun y0 =>
 Option.bind (z4a y0 d e f g h i j k l m n o) fun x1 =>
 bif x1.1 then
 some (c, x1.2.1, x1.2.2.1, x1.2.2.2.1, x1.2.2.2.2.1, x1.2.2.2.2.2.1, x1.2.2.2.2.2.2.1, x1.2.2.2.2.2.2.2.1, x1.2.2.2.2.2.2.2.2.1, x1.2.2.2.2.2.2.2.2.2.1, x1.2.2.2.2.2.2.2.2.2.2.1, x1.2.2.2.2.2.2.2.2.2.2.2.1, x1.2.2.2.2.2.2.2.2.2.2.2.2)
 else
 z0g a b (addI .i64 c 1) x1.2.1 x1.2.2.1 x1.2.2.2.1 x1.2.2.2.2.1 x1.2.2.2.2.2.1 x1.2.2.2.2.2.2.1 x1.2.2.2.2.2.2.2.1 x1.2.2.2.2.2.2.2.2.1 x1.2.2.2.2.2.2.2.2.2.1 x1.2.2.2.2.2.2.2.2.2.2.1 x1.2.2.2.2.2.2.2.2.2.2.2.1 x1.2.2.2.2.2.2.2.2.2.2.2.2
 else
 some ((-1), d, e, f, g, h, i, j, k, l, m, n, o)
 ) :=
 gL o22' (q0b Tryz.f121 [1,0,1,0,0])
theorem y8a a b c d e f g h i j k l m : eL (z4a a b c d e f g h i j k l m) (
 Option.bind (z31 k a) fun x0 =>
 some ((!x0), b, c, d, e, f, g, h, i, j, k, l, m)
 ) :=
 cL o21' Tryz.func81
theorem y2e a b c d : eL (z1v a b c d) (
 bif ltB d c then
 nth a d fun y0 =>
 nth b d fun y1 =>
 bif neB y0 y1 then
 some false
 else
 z1v a b c (addI .i64 d 1)
 else
 some true
 ) :=
 gL o0' (q0b Tryz.f131 [1,1,0,1,0,0])
theorem y19 a b c d : eL (z0k a b c d) (
 bif ltB d c then
 nth b d fun y0 =>
 nth a d fun y1 =>
 Option.bind (z3f y0 y1) fun x2 =>
 bif !x2 then
 some false
 else
 z0k a b c (addI .i64 d 1)
 else
 some true
 ) :=
 gL o0' (q0b Tryz.f132 [1,1,0,1,0,0])
theorem y1w a b c d e f g h i j k l m n o p q r s t u v w x y z A B C D E F : eL (z1j a b c d e f g h i j k l m n o p q r s t u v w x y z A B C D E F) (
 bif ltB f e then
 nth d f fun y0 =>
 Option.bind (z56 c y0.Node) fun x1 =>
 bif x1 then
 capOk (List.length b + List.length y0.Votes) <|
 capOk (List.length (b ++ y0.Votes) + List.length y0.Accepts) <|
 z1j a ((b ++ y0.Votes) ++ y0.Accepts) c d e (addI .i64 f 1) g h i j k l m n o p q r s t u v w x y z A B C D E F
 else
 z1j a b c d e (addI .i64 f 1) g h i j k l m n o p q r s t u v w x y z A B C D E F
 else
 Option.bind (law22_kept C b) fun x2 =>
 bif !x2 then
 some false
 else
 bif (ltB 0 (s.length : Int)) then
 bif (neB ((List.length C : Nat) : Int) (q.length : Int)) then
 some false
 else
 bif (eqB (s.length : Int) 0) then
 capOk (List.length ([[]] : List (List UInt8)) + List.length C) <|
 Option.bind (law22_kept b (([[]] : List (List UInt8)) ++ C)) fun x3 =>
 bif !x3 then
 some false
 else
 z18 (addI .i64 a 1) g h u v w x y z A B C D E F
 else
 z18 (addI .i64 a 1) g h u v w x y z A B C D E F
 else
 bif (eqB (s.length : Int) 0) then
 capOk (List.length ([[]] : List (List UInt8)) + List.length C) <|
 Option.bind (law22_kept b (([[]] : List (List UInt8)) ++ C)) fun x4 =>
 bif !x4 then
 some false
 else
 z18 (addI .i64 a 1) g h u v w x y z A B C D E F
 else
 z18 (addI .i64 a 1) g h u v w x y z A B C D E F
 ) :=
 gL o0' (q0b Tryz.f6 [1,1,1,1,0,1,0,0,1,0,0,1,1,1,1,1,0,1,0,0])
theorem law22_kept_le a b : eL (law22_kept a b) (
 z3w b a (a.length : Int) 0
 ) :=
 cL o0' Tryz.func26
theorem y5v a b c d e : eL (z0f a b c d e) (
 bif ltB d e then
 nth a (IntKind.wrap .i64 (shrI .u64 (IntKind.wrap .u64 (addI .i64 d e)) 1)) fun y0 =>
 Option.bind (z3v y0 b) fun x1 =>
 bif ltB x1 0 then
 z0f a b c (addI .i64 (IntKind.wrap .i64 (shrI .u64 (IntKind.wrap .u64 (addI .i64 d e)) 1)) 1) e
 else
 z0f a b c d (IntKind.wrap .i64 (shrI .u64 (IntKind.wrap .u64 (addI .i64 d e)) 1))
 else
 bif ltB d c then
 nth a d fun y2 =>
 Option.bind (z3v y2 b) fun x3 =>
 some (d, (eqB x3 0))
 else
 some (d, false)
 ) :=
 gL o7' (q0b Tryz.f68 [1,1,1,0,0,0])
theorem y64 a b : eL (z3v a b) (
 Option.bind (z2r a.Node b) fun x0 =>
 some x0
 ) :=
 cL o1' Tryz.func69
theorem qwq a b c d : eL (z45 a b c d) (
 bif ltB d c then
 nth b d fun y0 =>
 bif neB y0 a then
 some y0
 else
 z45 a b c (addI .i64 d 1)
 else
 some a
 ) :=
 gL o1' (q0b Tryz.f94 [1,1,0,1,0,0])
theorem qro a b c d e f g h i j k : eL (z47 a b c d e f g h i j k) (
 bif ltB 0 c then
 Option.bind (z5h a (subI .i64 b 1) d e) fun x0 =>
 capOk (List.length k + List.length ([(Trust.mk x0.1.Threshold x0.1.Nodes x0.1.Inner)] : List Trust)) <|
 z47 a b (subI .i64 c 1) x0.2.1 x0.2.2 f g h i j (k ++ ([(Trust.mk x0.1.Threshold x0.1.Nodes x0.1.Inner)] : List Trust))
 else
 bif (ltB 0 (k.length : Int)) then
 Option.bind (z2d 3 d e) fun x1 =>
 bif eqB x1.1 0 then
 Option.bind (z2g 1 (addI .i64 ((List.length ([] : List Int) : Nat) : Int) (k.length : Int)) x1.2.1 x1.2.2) fun x2 =>
 some ((Trust.mk x2.1 [] k), x2.2.1, x2.2.2)
 else
 Option.bind (z2g 1 (addI .i64 (j.length : Int) (k.length : Int)) x1.2.1 x1.2.2) fun x3 =>
 some ((Trust.mk x3.1 j k), x3.2.1, x3.2.2)
 else
 Option.bind (z2g 1 (addI .i64 (j.length : Int) (k.length : Int)) d e) fun x4 =>
 some ((Trust.mk x4.1 j k), x4.2.1, x4.2.2)
 ) :=
 gL o11' (q0b Tryz.f74 [1,1,1,1,0,1,0,0,1,0,0])
theorem y23 a b c d e f g h i j k l m n o p q r s t u v w x y z A B C : eL (z23 a b c d e f g h i j k l m n o p q r s t u v w x y z A B C) (
 bif ltB d c then
 nth b d fun y0 =>
 Option.bind (z3t a y0) fun x1 =>
 Option.bind (z3h (Config.mk C) e x1.2) fun x2 =>
 bif x2 then
 Option.bind (z3g o y0) fun x3 =>
 z23 a b c (addI .i64 d 1) e f g h i j k l m n x3 p q r s t u v w x y z A B C
 else
 z23 a b c (addI .i64 d 1) e f g h i j k l m n o p q r s t u v w x y z A B C
 else
 some (Nominator.mk e f g h (Trust.mk i j k) l m n o p)
 ) :=
 gL o6' (q0b Tryz.f58 [1,1,1,1,1,0,1,0,0])
theorem y8f a b c : eL (z3h a b c) (
 Option.bind (z43 a c) fun x0 =>
 Option.bind (z3l x0 b) fun x1 =>
 some x1
 ) :=
 cL o0' Tryz.func107
theorem y83 a b c d e : eL (z0c a b c d e) (
 bif ltB d e then
 nth a (IntKind.wrap .i64 (shrI .u64 (IntKind.wrap .u64 (addI .i64 d e)) 1)) fun y0 =>
 Option.bind (z06 y0 b) fun x1 =>
 bif ltB x1 0 then
 z0c a b c (addI .i64 (IntKind.wrap .i64 (shrI .u64 (IntKind.wrap .u64 (addI .i64 d e)) 1)) 1) e
 else
 z0c a b c d (IntKind.wrap .i64 (shrI .u64 (IntKind.wrap .u64 (addI .i64 d e)) 1))
 else
 bif ltB d c then
 nth a d fun y2 =>
 Option.bind (z06 y2 b) fun x3 =>
 some (d, (eqB x3 0))
 else
 some (d, false)
 ) :=
 gL o7' (q0b Tryz.f144 [1,1,1,0,0,0])
end Go.Proofs.YtglokalgdbegeaaGreat
