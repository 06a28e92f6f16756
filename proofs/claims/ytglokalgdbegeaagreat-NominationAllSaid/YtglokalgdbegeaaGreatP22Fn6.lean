/- What the functions come to, printed by a program and checked by the kernel. -/
import Derived.Test.YtglokalgdbegeaaGreatP22Df
namespace Go.Proofs.YtglokalgdbegeaaGreat
open Go Go.Ab
set_option maxRecDepth 100000
theorem y39 a b c d e f : eL (z3d a b c d e f) (
 bif ltB c b then
 nth a c fun y0 =>
 Option.bind (z59 y0) fun x1 =>
 bif neB x1 0 then
 some x1
 else
 z3d a b (addI .i64 c 1) d e f
 else
 some 0
 ) :=
 gL o1' (q0b Tryz.f120 [1,1,1,1,0,1,0,0])
theorem qsw a b c d : eL (z44 a b c d) (
 bif ltB d c then
 nth b d fun y0 =>
 bif ltB y0 0 then
 some (0, 5)
 else
 bif leB 10 y0 then
 some (0, 5)
 else
 Option.bind (z5i a y0) fun x1 =>
 bif x1 then
 some (0, 6)
 else
 chk (0 <= y0) <|
 z44 (orI .i64 a (shlI .i64 1 y0)) b c (addI .i64 d 1)
 else
 some (a, 0)
 ) :=
 gL o3' (q0b Tryz.f157 [1,1,0,1,0,0])
theorem y4o a b c d e f g h i j k l m n o p q r s t : eL (z21 a b c d e f g h i j k l m n o p q r s t) (
 bif ltB h g then
 nth f h fun y0 =>
 bif neB y0.Node b then
 z21 a b c d e f g (addI .i64 h 1) i j k l m n o p q r s t
 else
 Option.bind (z3w ([(Nomination.mk y0.Node y0.Seq (Trust.mk y0.Trust.Threshold y0.Trust.Nodes y0.Trust.Inner) y0.Votes y0.Accepts)] : List Nomination)) fun x1 =>
 z2k a b c d e f g h x1 (x1.length : Int) 0 i j k l m n o p q r s t y0.Node y0.Seq y0.Trust.Threshold y0.Trust.Nodes y0.Trust.Inner y0.Votes y0.Accepts
 else
 z1t a c d (addI .i64 e 1) i j k l m n o p q r s t
 ) :=
 gL o5' (q0b Tryz.f102 [1,1,1,0,1,0,0,1,1,0,0,1,1,1,0,0])
theorem y3q a b c d e f g h i : eL (z28 a b c d e f g h i) (
 bif ltB d c then
 nth b d fun y0 =>
 bif neB y0.Node a then
 Option.bind (z4v y0) fun x1 =>
 bif x1 then
 Option.bind (z39 y0.Trust) fun x2 =>
 nth i y0.Node fun _ =>
 nthN i (Int.toNat y0.Node) fun _y3 =>
 z28 a b c (addI .i64 d 1) e f g h (List.set i (Int.toNat y0.Node) (Member.mk true (Trust.mk x2.Threshold x2.Nodes x2.Inner)))
 else
 z28 a b c (addI .i64 d 1) e f g h i
 else
 z28 a b c (addI .i64 d 1) e f g h i
 else
 Option.bind (z4l a) fun x4 =>
 bif x4 then
 Option.bind (z2b (Trust.mk e f g)) fun x5 =>
 bif eqB x5 0 then
 Option.bind (z39 (Trust.mk e f g)) fun x6 =>
 nth i a fun _ =>
 nthN i (Int.toNat a) fun _y7 =>
 some (Config.mk (List.set i (Int.toNat a) (Member.mk true (Trust.mk x6.Threshold x6.Nodes x6.Inner))))
 else
 some (Config.mk i)
 else
 some (Config.mk i)
 ) :=
 gL o12' (q0b Tryz.f142 [1,1,0,1,0,0])
theorem y8h a : eL (z4v a) (
 Option.bind (z4l a.Node) fun x0 =>
 bif x0 then
 bif leB 1 a.Seq then
 Option.bind (z2b a.Trust) fun x1 =>
 bif eqB x1 0 then
 Option.bind (z52 a.Votes) fun x2 =>
 bif x2 then
 Option.bind (z52 a.Accepts) fun x3 =>
 some x3
 else
 some false
 else
 some false
 else
 some false
 else
 some false
 ) :=
 cL o0' Tryz.func168
theorem yb3 a : eL (z39 a) (
 capOk (List.length ([] : List Int) + List.length a.Nodes) <|
 z2l a.Inner (a.Inner.length : Int) 0 a.Threshold a.Nodes a.Inner 0 [] [] a.Threshold (([] : List Int) ++ a.Nodes) []
 ) :=
 cL o13' Tryz.func169
theorem ya9 a : eL (z4l a) (
 bif leB 0 a then
 some (ltB a 10)
 else
 some false
 ) :=
 cL o0' Tryz.func170
theorem y93 a : eL (z52 a) (
 z2c a a (a.length : Int) 0
 ) :=
 cL o0' Tryz.func190
theorem y49 a b c d e f : eL (z1r a b c d e f) (
 bif ltB f e then
 nth d f fun y0 =>
 Option.bind (z2w y0.Votes a) fun x1 =>
 bif x1 then
 chk (0 <= y0.Node) <|
 Option.bind (z2w y0.Accepts a) fun x2 =>
 bif x2 then
 chk (0 <= y0.Node) <|
 z1r a (orI .i64 b (shlI .i64 1 y0.Node)) (orI .i64 c (shlI .i64 1 y0.Node)) d e (addI .i64 f 1)
 else
 z1r a (orI .i64 b (shlI .i64 1 y0.Node)) c d e (addI .i64 f 1)
 else
 Option.bind (z2w y0.Accepts a) fun x3 =>
 bif x3 then
 chk (0 <= y0.Node) <|
 z1r a b (orI .i64 c (shlI .i64 1 y0.Node)) d e (addI .i64 f 1)
 else
 z1r a b c d e (addI .i64 f 1)
 else
 some (b, c)
 ) :=
 gL o3' (q0b Tryz.f106 [1,0,1,0,0])
theorem qzf a b c d : eL (z1f a b c d) (
 bif ltB d c then
 nth a d fun y0 =>
 bif eqS b y0 then
 some d
 else
 z1f a b c (addI .i64 d 1)
 else
 some (-1)
 ) :=
 gL o1' (q0b Tryz.f158 [1,0,1,0,0])
theorem y30 a b c d e : eL (z1j a b c d e) (
 bif ltB d c then
 nth b d fun y0 =>
 bif y0.Declared then
 bif ltB d 10 then
 chk (0 <= d) <|
 z1j (orI .i64 a (shlI .i64 1 d)) b c (addI .i64 d 1) e
 else
 z1j a b c (addI .i64 d 1) e
 else
 z1j a b c (addI .i64 d 1) e
 else
 some a
 ) :=
 gL o1' (q0b Tryz.f192 [1,1,0,1,0,0])
theorem y3c a b c d e f g h : eL (z1z a b c d e f g h) (
 bif ltB e d then
 nth c e fun y0 =>
 Option.bind (z3f a y0) fun x1 =>
 bif x1 then
 z1z a (addI .i64 b 1) c d (addI .i64 e 1) f g h
 else
 z1z a b c d (addI .i64 e 1) f g h
 else
 z1s a b h (h.length : Int) 0 f g h
 ) :=
 gL o0' (q0b Tryz.f193 [1,1,1,0,1,0,0])
theorem y45 a b c : eL (z2d a b c) (
 Option.bind (z4w (Config.mk c) a) fun x0 =>
 bif !x0.2 then
 some (a, b)
 else
 capOk (List.length b + List.length ([x0.1] : List Int)) <|
 chk (0 <= x0.1) <|
 z2d (qhz .i64 a (shlI .i64 1 x0.1)) (b ++ ([x0.1] : List Int)) c
 ) :=
 gL o21' (q0b Tryz.f175 [1,1,1,1,0,0])
theorem y7i a b : eL (z4w a b) (
 Option.bind (z4q b) fun x0 =>
 z2u b x0 (x0.length : Int) 0 a.Members
 ) :=
 cL o7' Tryz.func195
theorem qu5 a b c d e f g h i : eL (z1p a b c d e f g h i) (
 bif ltB f 10 then
 Option.bind (z4g (Trust.mk g h i) a b c f) fun x0 =>
 bif !x0 then
 z1p a b c d e (addI .i64 f 1) g h i
 else
 Option.bind (z3k 2 b c f) fun x1 =>
 bif leB e x1 then
 z1p a b c f x1 (addI .i64 f 1) g h i
 else
 z1p a b c d e (addI .i64 f 1) g h i
 else
 some d
 ) :=
 gL o1' (q0b Tryz.f165 [1,1,0,1,0,0])
theorem y8m a b c d e : eL (z4g a b c d e) (
 bif eqB e b then
 some true
 else
 Option.bind (z4m a e) fun x0 =>
 bif x0.2 then
 Option.bind (z3k 1 c d e) fun x1 =>
 some (ltB (mulI .u64 (IntKind.wrap .u64 x1) (IntKind.wrap .u64 x0.1.Den)) (shlI .u64 (IntKind.wrap .u64 x0.1.Num) 32))
 else
 some false
 ) :=
 cL o0' Tryz.func186
theorem y3d a b c d : eL (z3k a b c d) (
 some (IntKind.wrap .u32 (shrI .u64 (xorI .u64 (mulI .u64 (xorI .u64 (mulI .u64 (xorI .u64 (addI .u64 (xorI .u64 (xorI .u64 (xorI .u64 (shlI .u64 (IntKind.wrap .u64 a) 56) (shlI .u64 (IntKind.wrap .u64 b) 24)) (shlI .u64 (IntKind.wrap .u64 c) 8)) (IntKind.wrap .u64 d)) 11400714819323198485) (shrI .u64 (addI .u64 (xorI .u64 (xorI .u64 (xorI .u64 (shlI .u64 (IntKind.wrap .u64 a) 56) (shlI .u64 (IntKind.wrap .u64 b) 24)) (shlI .u64 (IntKind.wrap .u64 c) 8)) (IntKind.wrap .u64 d)) 11400714819323198485) 30)) 13787848793156543929) (shrI .u64 (mulI .u64 (xorI .u64 (addI .u64 (xorI .u64 (xorI .u64 (xorI .u64 (shlI .u64 (IntKind.wrap .u64 a) 56) (shlI .u64 (IntKind.wrap .u64 b) 24)) (shlI .u64 (IntKind.wrap .u64 c) 8)) (IntKind.wrap .u64 d)) 11400714819323198485) (shrI .u64 (addI .u64 (xorI .u64 (xorI .u64 (xorI .u64 (shlI .u64 (IntKind.wrap .u64 a) 56) (shlI .u64 (IntKind.wrap .u64 b) 24)) (shlI .u64 (IntKind.wrap .u64 c) 8)) (IntKind.wrap .u64 d)) 11400714819323198485) 30)) 13787848793156543929) 27)) 10723151780598845931) (shrI .u64 (mulI .u64 (xorI .u64 (mulI .u64 (xorI .u64 (addI .u64 (xorI .u64 (xorI .u64 (xorI .u64 (shlI .u64 (IntKind.wrap .u64 a) 56) (shlI .u64 (IntKind.wrap .u64 b) 24)) (shlI .u64 (IntKind.wrap .u64 c) 8)) (IntKind.wrap .u64 d)) 11400714819323198485) (shrI .u64 (addI .u64 (xorI .u64 (xorI .u64 (xorI .u64 (shlI .u64 (IntKind.wrap .u64 a) 56) (shlI .u64 (IntKind.wrap .u64 b) 24)) (shlI .u64 (IntKind.wrap .u64 c) 8)) (IntKind.wrap .u64 d)) 11400714819323198485) 30)) 13787848793156543929) (shrI .u64 (mulI .u64 (xorI .u64 (addI .u64 (xorI .u64 (xorI .u64 (xorI .u64 (shlI .u64 (IntKind.wrap .u64 a) 56) (shlI .u64 (IntKind.wrap .u64 b) 24)) (shlI .u64 (IntKind.wrap .u64 c) 8)) (IntKind.wrap .u64 d)) 11400714819323198485) (shrI .u64 (addI .u64 (xorI .u64 (xorI .u64 (xorI .u64 (shlI .u64 (IntKind.wrap .u64 a) 56) (shlI .u64 (IntKind.wrap .u64 b) 24)) (shlI .u64 (IntKind.wrap .u64 c) 8)) (IntKind.wrap .u64 d)) 11400714819323198485) 30)) 13787848793156543929) 27)) 10723151780598845931) 31)) 32))
 ) :=
 cL o22' Tryz.func187
theorem yab a b : eL (z4m a b) (
 Option.bind (z2e a.Nodes b) fun x0 =>
 bif x0 then
 some ((Frac.mk a.Threshold (addI .i64 (a.Nodes.length : Int) (a.Inner.length : Int))), true)
 else
 z32 b a.Inner (a.Inner.length : Int) 0 a.Threshold a.Nodes a.Inner 0 0 a.Threshold (addI .i64 (a.Nodes.length : Int) (a.Inner.length : Int))
 ) :=
 cL o9' Tryz.func200
theorem ya4 a b : eL (z2e a b) (
 Option.bind (z2z a b) fun x0 =>
 some (leB 0 x0)
 ) :=
 cL o0' Tryz.func218
theorem y98 a b : eL (z2z a b) (
 z1l a b (a.length : Int) 0
 ) :=
 cL o1' Tryz.func224
theorem y74 a b c d e f : eL (z00 a b c d e f) (
 bif leB (subI .i64 b a) 12 then
 Option.bind (z16 a b f) fun x0 =>
 some x0
 else
 bif eqB c 0 then
 Option.bind (z1d a b f) fun x1 =>
 some x1
 else
 bif !d then
 Option.bind (z17 a b f) fun x2 =>
 Option.bind (z0q a b x2) fun x3 =>
 bif eqB x3.2.1 2 then
 Option.bind (z0m a b x3.2.2) fun x4 =>
 bif d then
 bif e then
 Option.bind (z09 a b x4) fun x5 =>
 bif x5.1 then
 some x5.2
 else
 bif ltB 0 a then
 nth x5.2 (subI .i64 a 1) fun _ =>
 nth x5.2 (subI .i64 (subI .i64 b 1) (subI .i64 x3.1 a)) fun _ =>
 nthN x5.2 (Int.toNat (subI .i64 a 1)) fun y6 =>
 nthN x5.2 (Int.toNat (subI .i64 (subI .i64 b 1) (subI .i64 x3.1 a))) fun y7 =>
 Option.bind (z06 y6 y7) fun x8 =>
 bif !(ltB x8 0) then
 Option.bind (z04 a b (subI .i64 (subI .i64 b 1) (subI .i64 x3.1 a)) x5.2) fun x9 =>
 z00 x9.1 b (subI .i64 c 1) d e x9.2
 else
 Option.bind (z02 a b (subI .i64 (subI .i64 b 1) (subI .i64 x3.1 a)) x5.2) fun x10 =>
 bif ltB (subI .i64 x10.1 a) (subI .i64 b x10.1) then
 Option.bind (z01 a x10.1 (subI .i64 c 1) x10.2.2) fun x11 =>
 z00 (addI .i64 x10.1 1) b (subI .i64 c 1) (leB (quoI .i64 (subI .i64 b a) 8) (subI .i64 x10.1 a)) x10.2.1 x11
 else
 Option.bind (z01 (addI .i64 x10.1 1) b (subI .i64 c 1) x10.2.2) fun x12 =>
 z00 a x10.1 (subI .i64 c 1) (leB (quoI .i64 (subI .i64 b a) 8) (subI .i64 b x10.1)) x10.2.1 x12
 else
 Option.bind (z02 a b (subI .i64 (subI .i64 b 1) (subI .i64 x3.1 a)) x5.2) fun x13 =>
 bif ltB (subI .i64 x13.1 a) (subI .i64 b x13.1) then
 Option.bind (z01 a x13.1 (subI .i64 c 1) x13.2.2) fun x14 =>
 z00 (addI .i64 x13.1 1) b (subI .i64 c 1) (leB (quoI .i64 (subI .i64 b a) 8) (subI .i64 x13.1 a)) x13.2.1 x14
 else
 Option.bind (z01 (addI .i64 x13.1 1) b (subI .i64 c 1) x13.2.2) fun x15 =>
 z00 a x13.1 (subI .i64 c 1) (leB (quoI .i64 (subI .i64 b a) 8) (subI .i64 b x13.1)) x13.2.1 x15
 else
 bif ltB 0 a then
 nth x4 (subI .i64 a 1) fun _ =>
 nth x4 (subI .i64 (subI .i64 b 1) (subI .i64 x3.1 a)) fun _ =>
 nthN x4 (Int.toNat (subI .i64 a 1)) fun y16 =>
 nthN x4 (Int.toNat (subI .i64 (subI .i64 b 1) (subI .i64 x3.1 a))) fun y17 =>
 Option.bind (z06 y16 y17) fun x18 =>
 bif !(ltB x18 0) then
 Option.bind (z04 a b (subI .i64 (subI .i64 b 1) (subI .i64 x3.1 a)) x4) fun x19 =>
 z00 x19.1 b (subI .i64 c 1) d e x19.2
 else
 Option.bind (z02 a b (subI .i64 (subI .i64 b 1) (subI .i64 x3.1 a)) x4) fun x20 =>
 bif ltB (subI .i64 x20.1 a) (subI .i64 b x20.1) then
 Option.bind (z01 a x20.1 (subI .i64 c 1) x20.2.2) fun x21 =>
 z00 (addI .i64 x20.1 1) b (subI .i64 c 1) (leB (quoI .i64 (subI .i64 b a) 8) (subI .i64 x20.1 a)) x20.2.1 x21
 else
 Option.bind (z01 (addI .i64 x20.1 1) b (subI .i64 c 1) x20.2.2) fun x22 =>
 z00 a x20.1 (subI .i64 c 1) (leB (quoI .i64 (subI .i64 b a) 8) (subI .i64 b x20.1)) x20.2.1 x22
 else
 Option.bind (z02 a b (subI .i64 (subI .i64 b 1) (subI .i64 x3.1 a)) x4) fun x23 =>
 bif ltB (subI .i64 x23.1 a) (subI .i64 b x23.1) then
 Option.bind (z01 a x23.1 (subI .i64 c 1) x23.2.2) fun x24 =>
 z00 (addI .i64 x23.1 1) b (subI .i64 c 1) (leB (quoI .i64 (subI .i64 b a) 8) (subI .i64 x23.1 a)) x23.2.1 x24
 else
 Option.bind (z01 (addI .i64 x23.1 1) b (subI .i64 c 1) x23.2.2) fun x25 =>
 z00 a x23.1 (subI .i64 c 1) (leB (quoI .i64 (subI .i64 b a) 8) (subI .i64 b x23.1)) x23.2.1 x25
 else
 bif ltB 0 a then
 nth x4 (subI .i64 a 1) fun _ =>
 nth x4 (subI .i64 (subI .i64 b 1) (subI .i64 x3.1 a)) fun _ =>
 nthN x4 (Int.toNat (subI .i64 a 1)) fun y26 =>
 nthN x4 (Int.toNat (subI .i64 (subI .i64 b 1) (subI .i64 x3.1 a))) fun y27 =>
 Option.bind (z06 y26 y27) fun x28 =>
 bif !(ltB x28 0) then
 Option.bind (z04 a b (subI .i64 (subI .i64 b 1) (subI .i64 x3.1 a)) x4) fun x29 =>
 z00 x29.1 b (subI .i64 c 1) d e x29.2
 else
 Option.bind (z02 a b (subI .i64 (subI .i64 b 1) (subI .i64 x3.1 a)) x4) fun x30 =>
 bif ltB (subI .i64 x30.1 a) (subI .i64 b x30.1) then
 Option.bind (z01 a x30.1 (subI .i64 c 1) x30.2.2) fun x31 =>
 z00 (addI .i64 x30.1 1) b (subI .i64 c 1) (leB (quoI .i64 (subI .i64 b a) 8) (subI .i64 x30.1 a)) x30.2.1 x31
 else
 Option.bind (z01 (addI .i64 x30.1 1) b (subI .i64 c 1) x30.2.2) fun x32 =>
 z00 a x30.1 (subI .i64 c 1) (leB (quoI .i64 (subI .i64 b a) 8) (subI .i64 b x30.1)) x30.2.1 x32
 else
 Option.bind (z02 a b (subI .i64 (subI .i64 b 1) (subI .i64 x3.1 a)) x4) fun x33 =>
 bif ltB (subI .i64 x33.1 a) (subI .i64 b x33.1) then
 Option.bind (z01 a x33.1 (subI .i64 c 1) x33.2.2) fun x34 =>
 z00 (addI .i64 x33.1 1) b (subI .i64 c 1) (leB (quoI .i64 (subI .i64 b a) 8) (subI .i64 x33.1 a)) x33.2.1 x34
 else
 Option.bind (z01 (addI .i64 x33.1 1) b (subI .i64 c 1) x33.2.2) fun x35 =>
 z00 a x33.1 (subI .i64 c 1) (leB (quoI .i64 (subI .i64 b a) 8) (subI .i64 b x33.1)) x33.2.1 x35
 else
 bif d then
 bif e then
 bif eqB x3.2.1 1 then
 Option.bind (z09 a b x3.2.2) fun x36 =>
 bif x36.1 then
 some x36.2
 else
 bif ltB 0 a then
 nth x36.2 (subI .i64 a 1) fun _ =>
 nth x36.2 x3.1 fun _ =>
 nthN x36.2 (Int.toNat (subI .i64 a 1)) fun y37 =>
 nthN x36.2 (Int.toNat x3.1) fun y38 =>
 Option.bind (z06 y37 y38) fun x39 =>
 bif !(ltB x39 0) then
 Option.bind (z04 a b x3.1 x36.2) fun x40 =>
 z00 x40.1 b (subI .i64 c 1) d e x40.2
 else
 Option.bind (z02 a b x3.1 x36.2) fun x41 =>
 bif ltB (subI .i64 x41.1 a) (subI .i64 b x41.1) then
 Option.bind (z01 a x41.1 (subI .i64 c 1) x41.2.2) fun x42 =>
 z00 (addI .i64 x41.1 1) b (subI .i64 c 1) (leB (quoI .i64 (subI .i64 b a) 8) (subI .i64 x41.1 a)) x41.2.1 x42
 else
 Option.bind (z01 (addI .i64 x41.1 1) b (subI .i64 c 1) x41.2.2) fun x43 =>
 z00 a x41.1 (subI .i64 c 1) (leB (quoI .i64 (subI .i64 b a) 8) (subI .i64 b x41.1)) x41.2.1 x43
 else
 Option.bind (z02 a b x3.1 x36.2) fun x44 =>
 bif ltB (subI .i64 x44.1 a) (subI .i64 b x44.1) then
 Option.bind (z01 a x44.1 (subI .i64 c 1) x44.2.2) fun x45 =>
 z00 (addI .i64 x44.1 1) b (subI .i64 c 1) (leB (quoI .i64 (subI .i64 b a) 8) (subI .i64 x44.1 a)) x44.2.1 x45
 else
 Option.bind (z01 (addI .i64 x44.1 1) b (subI .i64 c 1) x44.2.2) fun x46 =>
 z00 a x44.1 (subI .i64 c 1) (leB (quoI .i64 (subI .i64 b a) 8) (subI .i64 b x44.1)) x44.2.1 x46
 else
 bif ltB 0 a then
 nth x3.2.2 (subI .i64 a 1) fun _ =>
 nth x3.2.2 x3.1 fun _ =>
 nthN x3.2.2 (Int.toNat (subI .i64 a 1)) fun y47 =>
 nthN x3.2.2 (Int.toNat x3.1) fun y48 =>
 Option.bind (z06 y47 y48) fun x49 =>
 bif !(ltB x49 0) then
 Option.bind (z04 a b x3.1 x3.2.2) fun x50 =>
 z00 x50.1 b (subI .i64 c 1) d e x50.2
 else
 Option.bind (z02 a b x3.1 x3.2.2) fun x51 =>
 bif ltB (subI .i64 x51.1 a) (subI .i64 b x51.1) then
 Option.bind (z01 a x51.1 (subI .i64 c 1) x51.2.2) fun x52 =>
 z00 (addI .i64 x51.1 1) b (subI .i64 c 1) (leB (quoI .i64 (subI .i64 b a) 8) (subI .i64 x51.1 a)) x51.2.1 x52
 else
 Option.bind (z01 (addI .i64 x51.1 1) b (subI .i64 c 1) x51.2.2) fun x53 =>
 z00 a x51.1 (subI .i64 c 1) (leB (quoI .i64 (subI .i64 b a) 8) (subI .i64 b x51.1)) x51.2.1 x53
 else
 Option.bind (z02 a b x3.1 x3.2.2) fun x54 =>
 bif ltB (subI .i64 x54.1 a) (subI .i64 b x54.1) then
 Option.bind (z01 a x54.1 (subI .i64 c 1) x54.2.2) fun x55 =>
 z00 (addI .i64 x54.1 1) b (subI .i64 c 1) (leB (quoI .i64 (subI .i64 b a) 8) (subI .i64 x54.1 a)) x54.2.1 x55
 else
 Option.bind (z01 (addI .i64 x54.1 1) b (subI .i64 c 1) x54.2.2) fun x56 =>
 z00 a x54.1 (subI .i64 c 1) (leB (quoI .i64 (subI .i64 b a) 8) (subI .i64 b x54.1)) x54.2.1 x56
 else
 bif ltB 0 a then
 nth x3.2.2 (subI .i64 a 1) fun _ =>
 nth x3.2.2 x3.1 fun _ =>
 nthN x3.2.2 (Int.toNat (subI .i64 a 1)) fun y57 =>
 nthN x3.2.2 (Int.toNat x3.1) fun y58 =>
 Option.bind (z06 y57 y58) fun x59 =>
 bif !(ltB x59 0) then
 Option.bind (z04 a b x3.1 x3.2.2) fun x60 =>
 z00 x60.1 b (subI .i64 c 1) d e x60.2
 else
 Option.bind (z02 a b x3.1 x3.2.2) fun x61 =>
 bif ltB (subI .i64 x61.1 a) (subI .i64 b x61.1) then
 Option.bind (z01 a x61.1 (subI .i64 c 1) x61.2.2) fun x62 =>
 z00 (addI .i64 x61.1 1) b (subI .i64 c 1) (leB (quoI .i64 (subI .i64 b a) 8) (subI .i64 x61.1 a)) x61.2.1 x62
 else
 Option.bind (z01 (addI .i64 x61.1 1) b (subI .i64 c 1) x61.2.2) fun x63 =>
 z00 a x61.1 (subI .i64 c 1) (leB (quoI .i64 (subI .i64 b a) 8) (subI .i64 b x61.1)) x61.2.1 x63
 else
 Option.bind (z02 a b x3.1 x3.2.2) fun x64 =>
 bif ltB (subI .i64 x64.1 a) (subI .i64 b x64.1) then
 Option.bind (z01 a x64.1 (subI .i64 c 1) x64.2.2) fun x65 =>
 z00 (addI .i64 x64.1 1) b (subI .i64 c 1) (leB (quoI .i64 (subI .i64 b a) 8) (subI .i64 x64.1 a)) x64.2.1 x65
 else
 Option.bind (z01 (addI .i64 x64.1 1) b (subI .i64 c 1) x64.2.2) fun x66 =>
 z00 a x64.1 (subI .i64 c 1) (leB (quoI .i64 (subI .i64 b a) 8) (subI .i64 b x64.1)) x64.2.1 x66
 else
 bif ltB 0 a then
 nth x3.2.2 (subI .i64 a 1) fun _ =>
 nth x3.2.2 x3.1 fun _ =>
 nthN x3.2.2 (Int.toNat (subI .i64 a 1)) fun y67 =>
 nthN x3.2.2 (Int.toNat x3.1) fun y68 =>
 Option.bind (z06 y67 y68) fun x69 =>
 bif !(ltB x69 0) then
 Option.bind (z04 a b x3.1 x3.2.2) fun x70 =>
 z00 x70.1 b (subI .i64 c 1) d e x70.2
 else
 Option.bind (z02 a b x3.1 x3.2.2) fun x71 =>
 bif ltB (subI .i64 x71.1 a) (subI .i64 b x71.1) then
 Option.bind (z01 a x71.1 (subI .i64 c 1) x71.2.2) fun x72 =>
 z00 (addI .i64 x71.1 1) b (subI .i64 c 1) (leB (quoI .i64 (subI .i64 b a) 8) (subI .i64 x71.1 a)) x71.2.1 x72
 else
 Option.bind (z01 (addI .i64 x71.1 1) b (subI .i64 c 1) x71.2.2) fun x73 =>
 z00 a x71.1 (subI .i64 c 1) (leB (quoI .i64 (subI .i64 b a) 8) (subI .i64 b x71.1)) x71.2.1 x73
 else
 Option.bind (z02 a b x3.1 x3.2.2) fun x74 =>
 bif ltB (subI .i64 x74.1 a) (subI .i64 b x74.1) then
 Option.bind (z01 a x74.1 (subI .i64 c 1) x74.2.2) fun x75 =>
 z00 (addI .i64 x74.1 1) b (subI .i64 c 1) (leB (quoI .i64 (subI .i64 b a) 8) (subI .i64 x74.1 a)) x74.2.1 x75
 else
 Option.bind (z01 (addI .i64 x74.1 1) b (subI .i64 c 1) x74.2.2) fun x76 =>
 z00 a x74.1 (subI .i64 c 1) (leB (quoI .i64 (subI .i64 b a) 8) (subI .i64 b x74.1)) x74.2.1 x76
 else
 Option.bind (z0q a b f) fun x77 =>
 bif eqB x77.2.1 2 then
 Option.bind (z0m a b x77.2.2) fun x78 =>
 bif d then
 bif e then
 Option.bind (z09 a b x78) fun x79 =>
 bif x79.1 then
 some x79.2
 else
 bif ltB 0 a then
 nth x79.2 (subI .i64 a 1) fun _ =>
 nth x79.2 (subI .i64 (subI .i64 b 1) (subI .i64 x77.1 a)) fun _ =>
 nthN x79.2 (Int.toNat (subI .i64 a 1)) fun y80 =>
 nthN x79.2 (Int.toNat (subI .i64 (subI .i64 b 1) (subI .i64 x77.1 a))) fun y81 =>
 Option.bind (z06 y80 y81) fun x82 =>
 bif !(ltB x82 0) then
 Option.bind (z04 a b (subI .i64 (subI .i64 b 1) (subI .i64 x77.1 a)) x79.2) fun x83 =>
 z00 x83.1 b c d e x83.2
 else
 Option.bind (z02 a b (subI .i64 (subI .i64 b 1) (subI .i64 x77.1 a)) x79.2) fun x84 =>
 bif ltB (subI .i64 x84.1 a) (subI .i64 b x84.1) then
 Option.bind (z01 a x84.1 c x84.2.2) fun x85 =>
 z00 (addI .i64 x84.1 1) b c (leB (quoI .i64 (subI .i64 b a) 8) (subI .i64 x84.1 a)) x84.2.1 x85
 else
 Option.bind (z01 (addI .i64 x84.1 1) b c x84.2.2) fun x86 =>
 z00 a x84.1 c (leB (quoI .i64 (subI .i64 b a) 8) (subI .i64 b x84.1)) x84.2.1 x86
 else
 Option.bind (z02 a b (subI .i64 (subI .i64 b 1) (subI .i64 x77.1 a)) x79.2) fun x87 =>
 bif ltB (subI .i64 x87.1 a) (subI .i64 b x87.1) then
 Option.bind (z01 a x87.1 c x87.2.2) fun x88 =>
 z00 (addI .i64 x87.1 1) b c (leB (quoI .i64 (subI .i64 b a) 8) (subI .i64 x87.1 a)) x87.2.1 x88
 else
 Option.bind (z01 (addI .i64 x87.1 1) b c x87.2.2) fun x89 =>
 z00 a x87.1 c (leB (quoI .i64 (subI .i64 b a) 8) (subI .i64 b x87.1)) x87.2.1 x89
 else
 bif ltB 0 a then
 nth x78 (subI .i64 a 1) fun _ =>
 nth x78 (subI .i64 (subI .i64 b 1) (subI .i64 x77.1 a)) fun _ =>
 nthN x78 (Int.toNat (subI .i64 a 1)) fun y90 =>
 nthN x78 (Int.toNat (subI .i64 (subI .i64 b 1) (subI .i64 x77.1 a))) fun y91 =>
 Option.bind (z06 y90 y91) fun x92 =>
 bif !(ltB x92 0) then
 Option.bind (z04 a b (subI .i64 (subI .i64 b 1) (subI .i64 x77.1 a)) x78) fun x93 =>
 z00 x93.1 b c d e x93.2
 else
 Option.bind (z02 a b (subI .i64 (subI .i64 b 1) (subI .i64 x77.1 a)) x78) fun x94 =>
 bif ltB (subI .i64 x94.1 a) (subI .i64 b x94.1) then
 Option.bind (z01 a x94.1 c x94.2.2) fun x95 =>
 z00 (addI .i64 x94.1 1) b c (leB (quoI .i64 (subI .i64 b a) 8) (subI .i64 x94.1 a)) x94.2.1 x95
 else
 Option.bind (z01 (addI .i64 x94.1 1) b c x94.2.2) fun x96 =>
 z00 a x94.1 c (leB (quoI .i64 (subI .i64 b a) 8) (subI .i64 b x94.1)) x94.2.1 x96
 else
 Option.bind (z02 a b (subI .i64 (subI .i64 b 1) (subI .i64 x77.1 a)) x78) fun x97 =>
 bif ltB (subI .i64 x97.1 a) (subI .i64 b x97.1) then
 Option.bind (z01 a x97.1 c x97.2.2) fun x98 =>
 z00 (addI .i64 x97.1 1) b c (leB (quoI .i64 (subI .i64 b a) 8) (subI .i64 x97.1 a)) x97.2.1 x98
 else
 Option.bind (z01 (addI .i64 x97.1 1) b c x97.2.2) fun x99 =>
 z00 a x97.1 c (leB (quoI .i64 (subI .i64 b a) 8) (subI .i64 b x97.1)) x97.2.1 x99
 else
 bif ltB 0 a then
 nth x78 (subI .i64 a 1) fun _ =>
 nth x78 (subI .i64 (subI .i64 b 1) (subI .i64 x77.1 a)) fun _ =>
 nthN x78 (Int.toNat (subI .i64 a 1)) fun y100 =>
 nthN x78 (Int.toNat (subI .i64 (subI .i64 b 1) (subI .i64 x77.1 a))) fun y101 =>
 Option.bind (z06 y100 y101) fun x102 =>
 bif !(ltB x102 0) then
 Option.bind (z04 a b (subI .i64 (subI .i64 b 1) (subI .i64 x77.1 a)) x78) fun x103 =>
 z00 x103.1 b c d e x103.2
 else
 Option.bind (z02 a b (subI .i64 (subI .i64 b 1) (subI .i64 x77.1 a)) x78) fun x104 =>
 bif ltB (subI .i64 x104.1 a) (subI .i64 b x104.1) then
 Option.bind (z01 a x104.1 c x104.2.2) fun x105 =>
 z00 (addI .i64 x104.1 1) b c (leB (quoI .i64 (subI .i64 b a) 8) (subI .i64 x104.1 a)) x104.2.1 x105
 else
 Option.bind (z01 (addI .i64 x104.1 1) b c x104.2.2) fun x106 =>
 z00 a x104.1 c (leB (quoI .i64 (subI .i64 b a) 8) (subI .i64 b x104.1)) x104.2.1 x106
 else
 Option.bind (z02 a b (subI .i64 (subI .i64 b 1) (subI .i64 x77.1 a)) x78) fun x107 =>
 bif ltB (subI .i64 x107.1 a) (subI .i64 b x107.1) then
 Option.bind (z01 a x107.1 c x107.2.2) fun x108 =>
 z00 (addI .i64 x107.1 1) b c (leB (quoI .i64 (subI .i64 b a) 8) (subI .i64 x107.1 a)) x107.2.1 x108
 else
 Option.bind (z01 (addI .i64 x107.1 1) b c x107.2.2) fun x109 =>
 z00 a x107.1 c (leB (quoI .i64 (subI .i64 b a) 8) (subI .i64 b x107.1)) x107.2.1 x109
 else
 bif d then
 bif e then
 bif eqB x77.2.1 1 then
 Option.bind (z09 a b x77.2.2) fun x110 =>
 bif x110.1 then
 some x110.2
 else
 bif ltB 0 a then
 nth x110.2 (subI .i64 a 1) fun _ =>
 nth x110.2 x77.1 fun _ =>
 nthN x110.2 (Int.toNat (subI .i64 a 1)) fun y111 =>
 nthN x110.2 (Int.toNat x77.1) fun y112 =>
 Option.bind (z06 y111 y112) fun x113 =>
 bif !(ltB x113 0) then
 Option.bind (z04 a b x77.1 x110.2) fun x114 =>
 z00 x114.1 b c d e x114.2
 else
 Option.bind (z02 a b x77.1 x110.2) fun x115 =>
 bif ltB (subI .i64 x115.1 a) (subI .i64 b x115.1) then
 Option.bind (z01 a x115.1 c x115.2.2) fun x116 =>
 z00 (addI .i64 x115.1 1) b c (leB (quoI .i64 (subI .i64 b a) 8) (subI .i64 x115.1 a)) x115.2.1 x116
 else
 Option.bind (z01 (addI .i64 x115.1 1) b c x115.2.2) fun x117 =>
 z00 a x115.1 c (leB (quoI .i64 (subI .i64 b a) 8) (subI .i64 b x115.1)) x115.2.1 x117
 else
 Option.bind (z02 a b x77.1 x110.2) fun x118 =>
 bif ltB (subI .i64 x118.1 a) (subI .i64 b x118.1) then
 Option.bind (z01 a x118.1 c x118.2.2) fun x119 =>
 z00 (addI .i64 x118.1 1) b c (leB (quoI .i64 (subI .i64 b a) 8) (subI .i64 x118.1 a)) x118.2.1 x119
 else
 Option.bind (z01 (addI .i64 x118.1 1) b c x118.2.2) fun x120 =>
 z00 a x118.1 c (leB (quoI .i64 (subI .i64 b a) 8) (subI .i64 b x118.1)) x118.2.1 x120
 else
 bif ltB 0 a then
 nth x77.2.2 (subI .i64 a 1) fun _ =>
 nth x77.2.2 x77.1 fun _ =>
 nthN x77.2.2 (Int.toNat (subI .i64 a 1)) fun y121 =>
 nthN x77.2.2 (Int.toNat x77.1) fun y122 =>
 Option.bind (z06 y121 y122) fun x123 =>
 bif !(ltB x123 0) then
 Option.bind (z04 a b x77.1 x77.2.2) fun x124 =>
 z00 x124.1 b c d e x124.2
 else
 Option.bind (z02 a b x77.1 x77.2.2) fun x125 =>
 bif ltB (subI .i64 x125.1 a) (subI .i64 b x125.1) then
 Option.bind (z01 a x125.1 c x125.2.2) fun x126 =>
 z00 (addI .i64 x125.1 1) b c (leB (quoI .i64 (subI .i64 b a) 8) (subI .i64 x125.1 a)) x125.2.1 x126
 else
 Option.bind (z01 (addI .i64 x125.1 1) b c x125.2.2) fun x127 =>
 z00 a x125.1 c (leB (quoI .i64 (subI .i64 b a) 8) (subI .i64 b x125.1)) x125.2.1 x127
 else
 Option.bind (z02 a b x77.1 x77.2.2) fun x128 =>
 bif ltB (subI .i64 x128.1 a) (subI .i64 b x128.1) then
 Option.bind (z01 a x128.1 c x128.2.2) fun x129 =>
 z00 (addI .i64 x128.1 1) b c (leB (quoI .i64 (subI .i64 b a) 8) (subI .i64 x128.1 a)) x128.2.1 x129
 else
 Option.bind (z01 (addI .i64 x128.1 1) b c x128.2.2) fun x130 =>
 z00 a x128.1 c (leB (quoI .i64 (subI .i64 b a) 8) (subI .i64 b x128.1)) x128.2.1 x130
 else
 bif ltB 0 a then
 nth x77.2.2 (subI .i64 a 1) fun _ =>
 nth x77.2.2 x77.1 fun _ =>
 nthN x77.2.2 (Int.toNat (subI .i64 a 1)) fun y131 =>
 nthN x77.2.2 (Int.toNat x77.1) fun y132 =>
 Option.bind (z06 y131 y132) fun x133 =>
 bif !(ltB x133 0) then
 Option.bind (z04 a b x77.1 x77.2.2) fun x134 =>
 z00 x134.1 b c d e x134.2
 else
 Option.bind (z02 a b x77.1 x77.2.2) fun x135 =>
 bif ltB (subI .i64 x135.1 a) (subI .i64 b x135.1) then
 Option.bind (z01 a x135.1 c x135.2.2) fun x136 =>
 z00 (addI .i64 x135.1 1) b c (leB (quoI .i64 (subI .i64 b a) 8) (subI .i64 x135.1 a)) x135.2.1 x136
 else
 Option.bind (z01 (addI .i64 x135.1 1) b c x135.2.2) fun x137 =>
 z00 a x135.1 c (leB (quoI .i64 (subI .i64 b a) 8) (subI .i64 b x135.1)) x135.2.1 x137
 else
 Option.bind (z02 a b x77.1 x77.2.2) fun x138 =>
 bif ltB (subI .i64 x138.1 a) (subI .i64 b x138.1) then
 Option.bind (z01 a x138.1 c x138.2.2) fun x139 =>
 z00 (addI .i64 x138.1 1) b c (leB (quoI .i64 (subI .i64 b a) 8) (subI .i64 x138.1 a)) x138.2.1 x139
 else
 Option.bind (z01 (addI .i64 x138.1 1) b c x138.2.2) fun x140 =>
 z00 a x138.1 c (leB (quoI .i64 (subI .i64 b a) 8) (subI .i64 b x138.1)) x138.2.1 x140
 else
 bif ltB 0 a then
 nth x77.2.2 (subI .i64 a 1) fun _ =>
 nth x77.2.2 x77.1 fun _ =>
 nthN x77.2.2 (Int.toNat (subI .i64 a 1)) fun y141 =>
 nthN x77.2.2 (Int.toNat x77.1) fun y142 =>
 Option.bind (z06 y141 y142) fun x143 =>
 bif !(ltB x143 0) then
 Option.bind (z04 a b x77.1 x77.2.2) fun x144 =>
 z00 x144.1 b c d e x144.2
 else
 Option.bind (z02 a b x77.1 x77.2.2) fun x145 =>
 bif ltB (subI .i64 x145.1 a) (subI .i64 b x145.1) then
 Option.bind (z01 a x145.1 c x145.2.2) fun x146 =>
 z00 (addI .i64 x145.1 1) b c (leB (quoI .i64 (subI .i64 b a) 8) (subI .i64 x145.1 a)) x145.2.1 x146
 else
 Option.bind (z01 (addI .i64 x145.1 1) b c x145.2.2) fun x147 =>
 z00 a x145.1 c (leB (quoI .i64 (subI .i64 b a) 8) (subI .i64 b x145.1)) x145.2.1 x147
 else
 Option.bind (z02 a b x77.1 x77.2.2) fun x148 =>
 bif ltB (subI .i64 x148.1 a) (subI .i64 b x148.1) then
 Option.bind (z01 a x148.1 c x148.2.2) fun x149 =>
 z00 (addI .i64 x148.1 1) b c (leB (quoI .i64 (subI .i64 b a) 8) (subI .i64 x148.1 a)) x148.2.1 x149
 else
 Option.bind (z01 (addI .i64 x148.1 1) b c x148.2.2) fun x150 =>
 z00 a x148.1 c (leB (quoI .i64 (subI .i64 b a) 8) (subI .i64 b x148.1)) x148.2.1 x150
 ) :=
 gL o2' (q0b Tryz.f188 [1,1,0,0])
end Go.Proofs.YtglokalgdbegeaaGreat
