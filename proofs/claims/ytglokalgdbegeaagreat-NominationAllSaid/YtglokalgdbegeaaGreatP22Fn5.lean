/- What the functions come to, printed by a program and checked by the kernel. -/
import Derived.Test.YtglokalgdbegeaaGreatP22Df
namespace Go.Proofs.YtglokalgdbegeaaGreat
open Go Go.Ab
set_option maxRecDepth 100000
theorem y8t a b c d : eL (z55 a b c d) (
 some (IntKind.wrap .u32 (shrI .u64 (xorI .u64 (mulI .u64 (xorI .u64 (mulI .u64 (xorI .u64 (addI .u64 (xorI .u64 (xorI .u64 (xorI .u64 (shlI .u64 (IntKind.wrap .u64 a) 56) (shlI .u64 (IntKind.wrap .u64 b) 24)) (shlI .u64 (IntKind.wrap .u64 c) 8)) (IntKind.wrap .u64 d)) 11400714819323198485) (shrI .u64 (addI .u64 (xorI .u64 (xorI .u64 (xorI .u64 (shlI .u64 (IntKind.wrap .u64 a) 56) (shlI .u64 (IntKind.wrap .u64 b) 24)) (shlI .u64 (IntKind.wrap .u64 c) 8)) (IntKind.wrap .u64 d)) 11400714819323198485) 30)) 13787848793156543929) (shrI .u64 (mulI .u64 (xorI .u64 (addI .u64 (xorI .u64 (xorI .u64 (xorI .u64 (shlI .u64 (IntKind.wrap .u64 a) 56) (shlI .u64 (IntKind.wrap .u64 b) 24)) (shlI .u64 (IntKind.wrap .u64 c) 8)) (IntKind.wrap .u64 d)) 11400714819323198485) (shrI .u64 (addI .u64 (xorI .u64 (xorI .u64 (xorI .u64 (shlI .u64 (IntKind.wrap .u64 a) 56) (shlI .u64 (IntKind.wrap .u64 b) 24)) (shlI .u64 (IntKind.wrap .u64 c) 8)) (IntKind.wrap .u64 d)) 11400714819323198485) 30)) 13787848793156543929) 27)) 10723151780598845931) (shrI .u64 (mulI .u64 (xorI .u64 (mulI .u64 (xorI .u64 (addI .u64 (xorI .u64 (xorI .u64 (xorI .u64 (shlI .u64 (IntKind.wrap .u64 a) 56) (shlI .u64 (IntKind.wrap .u64 b) 24)) (shlI .u64 (IntKind.wrap .u64 c) 8)) (IntKind.wrap .u64 d)) 11400714819323198485) (shrI .u64 (addI .u64 (xorI .u64 (xorI .u64 (xorI .u64 (shlI .u64 (IntKind.wrap .u64 a) 56) (shlI .u64 (IntKind.wrap .u64 b) 24)) (shlI .u64 (IntKind.wrap .u64 c) 8)) (IntKind.wrap .u64 d)) 11400714819323198485) 30)) 13787848793156543929) (shrI .u64 (mulI .u64 (xorI .u64 (addI .u64 (xorI .u64 (xorI .u64 (xorI .u64 (shlI .u64 (IntKind.wrap .u64 a) 56) (shlI .u64 (IntKind.wrap .u64 b) 24)) (shlI .u64 (IntKind.wrap .u64 c) 8)) (IntKind.wrap .u64 d)) 11400714819323198485) (shrI .u64 (addI .u64 (xorI .u64 (xorI .u64 (xorI .u64 (shlI .u64 (IntKind.wrap .u64 a) 56) (shlI .u64 (IntKind.wrap .u64 b) 24)) (shlI .u64 (IntKind.wrap .u64 c) 8)) (IntKind.wrap .u64 d)) 11400714819323198485) 30)) 13787848793156543929) 27)) 10723151780598845931) 31)) 32))
 ) :=
 cL o22' Tryz.func54
theorem yay a b : eL (z51 a b) (
 z3l b (addI .i64 (a.Nodes.length : Int) (a.Inner.length : Int)) a.Nodes (a.Nodes.length : Int) 0 a.Threshold a.Nodes a.Inner 0 0
 ) :=
 cL o9' Tryz.func96
theorem law22_calm_le a b : eL (law22_calm a b) (
 capOk (List.length ([] : List Nominator) + List.length a) <|
 z36 b (([] : List Nominator) ++ a) 0
 ) :=
 cL o14' Tryz.func13
theorem y4f a b c d e f g h i j k : eL (z1x a b c d e f g h i j k) (
 bif ltB f a then
 nth ([([97] : List UInt8), ([98] : List UInt8), ([97, 97] : List UInt8), ([97, 98] : List UInt8), ([99] : List UInt8)] : List (List UInt8)) f fun y0 =>
 bif eqB f c then
 Option.bind (z25 f b (Trust.mk i j k) y0) fun x1 =>
 bif neB x1.2 0 then
 some false
 else
 capOk (List.length d + List.length ([(Nominator.mk x1.1.Node x1.1.Slot x1.1.Round x1.1.Seq (Trust.mk x1.1.Trust.Threshold x1.1.Trust.Nodes x1.1.Trust.Inner) x1.1.Own x1.1.Votes x1.1.Accepts x1.1.Candidates x1.1.Heard)] : List Nominator)) <|
 z1x a b c (d ++ ([(Nominator.mk x1.1.Node x1.1.Slot x1.1.Round x1.1.Seq (Trust.mk x1.1.Trust.Threshold x1.1.Trust.Nodes x1.1.Trust.Inner) x1.1.Own x1.1.Votes x1.1.Accepts x1.1.Candidates x1.1.Heard)] : List Nominator)) y0 (addI .i64 f 1) g h i j k
 else
 Option.bind (z25 f b (Trust.mk i j k) y0) fun x2 =>
 bif neB x2.2 0 then
 some false
 else
 capOk (List.length d + List.length ([(Nominator.mk x2.1.Node x2.1.Slot x2.1.Round x2.1.Seq (Trust.mk x2.1.Trust.Threshold x2.1.Trust.Nodes x2.1.Trust.Inner) x2.1.Own x2.1.Votes x2.1.Accepts x2.1.Candidates x2.1.Heard)] : List Nominator)) <|
 z1x a b c (d ++ ([(Nominator.mk x2.1.Node x2.1.Slot x2.1.Round x2.1.Seq (Trust.mk x2.1.Trust.Threshold x2.1.Trust.Nodes x2.1.Trust.Inner) x2.1.Own x2.1.Votes x2.1.Accepts x2.1.Candidates x2.1.Heard)] : List Nominator)) e (addI .i64 f 1) g h i j k
 else
 chk (0 <= a) <|
 Option.bind (law22_calm d (subI .i64 (shlI .i64 1 a) 1)) fun x3 =>
 bif !x3.2 then
 some false
 else
 z26 e x3.1 (x3.1.length : Int) 0 g h i j k
 ) :=
 gL o0' (q0b Tryz.f3 [1,1,1,1,1,1,1,1,1,0,1,0,0])
theorem qt6 a b c d e f g h i j k l m n o : eL (z1o a b c d e f g h i j k l m n o) (
 bif ltB c b then
 nth a c fun y0 =>
 Option.bind (z3y y0) fun x1 =>
 bif !x1 then
 some false
 else
 bif eqB y0.Node d then
 some false
 else
 bif ltB 0 c then
 nth o (subI .i64 c 1) fun y2 =>
 bif leB y0.Node y2.Node then
 some false
 else
 z1o a b (addI .i64 c 1) d e f g h i j k l m n o
 else
 z1o a b (addI .i64 c 1) d e f g h i j k l m n o
 else
 some true
 ) :=
 gL o0' (q0b Tryz.f30 [1,1,1,1,0,1,0,0])
theorem y3s a b c d e f g h i j k l m n o p q r s t u v w x y z : eL (z3s a b c d e f g h i j k l m n o p q r s t u v w x y z) (
 bif ltB b a then
 nth n b fun y0 =>
 nth z b fun y1 =>
 Option.bind (z3h y0 y1) fun x2 =>
 bif !x2 then
 some false
 else
 z3s a (addI .i64 b 1) c d e f g h i j k l m n o p q r s t u v w x y z
 else
 some true
 ) :=
 gL o0' (q0b Tryz.f31 [1,1,0,1,0,0])
theorem qtc a b c d : eL (z1y a b c d) (
 bif ltB d c then
 nth b d fun y0 =>
 Option.bind (z3z y0) fun x1 =>
 bif !x1 then
 some false
 else
 bif ltB 0 d then
 nth a (subI .i64 d 1) fun y2 =>
 Option.bind (z06 y2 y0) fun x3 =>
 bif leB 0 x3 then
 some false
 else
 z1y a b c (addI .i64 d 1)
 else
 z1y a b c (addI .i64 d 1)
 else
 some (leB (a.length : Int) 40)
 ) :=
 gL o0' (q0b Tryz.f79 [1,0,1,0,0])
theorem y4b a b c d : eL (z1i a b c d) (
 bif ltB d c then
 nth a d fun y0 =>
 nth b d fun y1 =>
 bif !eqS y0 y1 then
 some false
 else
 z1i a b c (addI .i64 d 1)
 else
 some true
 ) :=
 gL o0' (q0b Tryz.f89 [1,1,0,1,0,0])
theorem y4q a b c d e f g h : eL (z35 a b c d e f g h) (
 bif ltB b a then
 nth e b fun y0 =>
 nth h b fun y1 =>
 Option.bind (z3i y0 y1) fun x2 =>
 bif !x2 then
 some false
 else
 z35 a (addI .i64 b 1) c d e f g h
 else
 some true
 ) :=
 gL o0' (q0b Tryz.f83 [1,1,0,1,0,0])
theorem y3u a b c d : eL (z4d a b c d) (
 bif ltB d c then
 nth a d fun y0 =>
 nth b d fun y1 =>
 bif !eqS y0 y1 then
 some false
 else
 z4d a b c (addI .i64 d 1)
 else
 some true
 ) :=
 gL o0' (q0b Tryz.f84 [1,1,0,1,0,0])
theorem qxr a b c d e f g h i j k l m n o : eL (z0g a b c d e f g h i j k l m n o) (
 bif ltB c b then
 nth a c fun y0 =>
 Option.bind (z46 y0 d e f g h i j k l m n o) fun x1 =>
 bif x1.1 then
 some (c, x1.2.1, x1.2.2.1, x1.2.2.2.1, x1.2.2.2.2.1, x1.2.2.2.2.2.1, x1.2.2.2.2.2.2.1, x1.2.2.2.2.2.2.2.1, x1.2.2.2.2.2.2.2.2.1, x1.2.2.2.2.2.2.2.2.2.1, x1.2.2.2.2.2.2.2.2.2.2.1, x1.2.2.2.2.2.2.2.2.2.2.2.1, x1.2.2.2.2.2.2.2.2.2.2.2.2)
 else
 z0g a b (addI .i64 c 1) x1.2.1 x1.2.2.1 x1.2.2.2.1 x1.2.2.2.2.1 x1.2.2.2.2.2.1 x1.2.2.2.2.2.2.1 x1.2.2.2.2.2.2.2.1 x1.2.2.2.2.2.2.2.2.1 x1.2.2.2.2.2.2.2.2.2.1 x1.2.2.2.2.2.2.2.2.2.2.1 x1.2.2.2.2.2.2.2.2.2.2.2.1 x1.2.2.2.2.2.2.2.2.2.2.2.2
 else
 some ((-1), d, e, f, g, h, i, j, k, l, m, n, o)
 ) :=
 gL o20' (q0b Tryz.f121 [1,0,1,0,0])
theorem y8x a b c d e f g h i j k l m : eL (z46 a b c d e f g h i j k l m) (
 Option.bind (z2w k a) fun x0 =>
 some ((!x0), b, c, d, e, f, g, h, i, j, k, l, m)
 ) :=
 cL o19' Tryz.func81
theorem qwa a b c d : eL (z3t a b c d) (
 bif ltB d c then
 nth a d fun y0 =>
 nth b d fun y1 =>
 bif neB y0 y1 then
 some false
 else
 z3t a b c (addI .i64 d 1)
 else
 some true
 ) :=
 gL o0' (q0b Tryz.f123 [1,1,0,1,0,0])
theorem y4r a b c d : eL (z1v a b c d) (
 bif ltB d c then
 nth a d fun y0 =>
 nth b d fun y1 =>
 bif neB y0 y1 then
 some false
 else
 z1v a b c (addI .i64 d 1)
 else
 some true
 ) :=
 gL o0' (q0b Tryz.f131 [1,1,0,1,0,0])
theorem y3o a b c d : eL (z0k a b c d) (
 bif ltB d c then
 nth b d fun y0 =>
 nth a d fun y1 =>
 Option.bind (z3x y0 y1) fun x2 =>
 bif !x2 then
 some false
 else
 z0k a b c (addI .i64 d 1)
 else
 some true
 ) :=
 gL o0' (q0b Tryz.f132 [1,1,0,1,0,0])
theorem y82 a b c d e : eL (z0f a b c d e) (
 bif ltB d e then
 nth a (IntKind.wrap .i64 (shrI .u64 (IntKind.wrap .u64 (addI .i64 d e)) 1)) fun y0 =>
 Option.bind (z3r y0 b) fun x1 =>
 bif ltB x1 0 then
 z0f a b c (addI .i64 (IntKind.wrap .i64 (shrI .u64 (IntKind.wrap .u64 (addI .i64 d e)) 1)) 1) e
 else
 z0f a b c d (IntKind.wrap .i64 (shrI .u64 (IntKind.wrap .u64 (addI .i64 d e)) 1))
 else
 bif ltB d c then
 nth a d fun y2 =>
 Option.bind (z3r y2 b) fun x3 =>
 some (d, (eqB x3 0))
 else
 some (d, false)
 ) :=
 gL o7' (q0b Tryz.f68 [1,1,1,0,0,0])
theorem y94 a b : eL (z3r a b) (
 Option.bind (z2o a.Node b) fun x0 =>
 some x0
 ) :=
 cL o1' Tryz.func69
theorem qwr a b c d : eL (z43 a b c d) (
 bif ltB d c then
 nth b d fun y0 =>
 bif neB y0 a then
 some y0
 else
 z43 a b c (addI .i64 d 1)
 else
 some a
 ) :=
 gL o1' (q0b Tryz.f94 [1,1,0,1,0,0])
theorem y3a a b c d e f g h i j k l m n o p q r s t u v w x y z A B C : eL (z22 a b c d e f g h i j k l m n o p q r s t u v w x y z A B C) (
 bif ltB d c then
 nth b d fun y0 =>
 Option.bind (z3p a y0) fun x1 =>
 Option.bind (z3c (Config.mk C) e x1.2) fun x2 =>
 bif x2 then
 Option.bind (z3a o y0) fun x3 =>
 z22 a b c (addI .i64 d 1) e f g h i j k l m n x3 p q r s t u v w x y z A B C
 else
 z22 a b c (addI .i64 d 1) e f g h i j k l m n o p q r s t u v w x y z A B C
 else
 some (Nominator.mk e f g h (Trust.mk i j k) l m n o p)
 ) :=
 gL o6' (q0b Tryz.f58 [1,1,1,1,1,0,1,0,0])
theorem yaq a b c : eL (z3c a b c) (
 Option.bind (z41 a c) fun x0 =>
 Option.bind (z3f x0 b) fun x1 =>
 some x1
 ) :=
 cL o0' Tryz.func107
theorem y7w a b c d e : eL (z0c a b c d e) (
 bif ltB d e then
 nth a (IntKind.wrap .i64 (shrI .u64 (IntKind.wrap .u64 (addI .i64 d e)) 1)) fun y0 =>
 Option.bind (z06 y0 b) fun x1 =>
 bif ltB x1 0 then
 z0c a b c (addI .i64 (IntKind.wrap .i64 (shrI .u64 (IntKind.wrap .u64 (addI .i64 d e)) 1)) 1) e
 else
 z0c a b c d (IntKind.wrap .i64 (shrI .u64 (IntKind.wrap .u64 (addI .i64 d e)) 1))
 else
 bif ltB d c then
 nth a d fun y2 =>
 Option.bind (z06 y2 b) fun x3 =>
 some (d, (eqB x3 0))
 else
 some (d, false)
 ) :=
 gL o7' (q0b Tryz.f144 [1,1,1,0,0,0])
end Go.Proofs.YtglokalgdbegeaaGreat
