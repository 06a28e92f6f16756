/- What the functions come to, printed by a program and checked by the kernel. -/
import Derived.Test.YtglokalgdbegeaaGreatP22Df
namespace Go.Proofs.YtglokalgdbegeaaGreat
open Go Go.Ab
set_option maxRecDepth 100000
theorem qyn a b c d : eL (z1l a b c d) (
 bif ltB d c then
 nth a d fun y0 =>
 bif eqB b y0 then
 some d
 else
 z1l a b c (addI .i64 d 1)
 else
 some (-1)
 ) :=
 gL o1' (q0b Tryz.f224 [1,0,1,0,0])
theorem y71 a b c d : eL (z0e a b c d) (
 bif ltB c b then
 z0i a b c c d
 else
 some d
 ) :=
 gL o2' (q0b Tryz.f201 [1,0,0])
theorem y3b a b c d e : eL (z0r a b c d e) (
 bif leB 0 d then
 Option.bind (z15 d c a e) fun x0 =>
 z0r a b c (subI .i64 d 1) x0
 else
 z0s a b (subI .i64 c 1) e
 ) :=
 gL o2' (q0b Tryz.f202 [1,1,1,0,1,0,0])
theorem yar a b c d : eL (z15 a b c d) (
 z0d b c a d
 ) :=
 cL o2' Tryz.func219
theorem y34 a b c d e f : eL (z0b a b c d e f) (
 bif (leB d (addI .i64 (addI .i64 a (mulI .i64 (quoI .i64 b 4) 2)) 1)) then
 Option.bind (z3m f) fun x0 =>
 bif (leB b (IntKind.wrap .i64 (andI .u64 x0.1 (subI .u64 c 1)))) then
 nth e (addI .i64 a (subI .i64 (IntKind.wrap .i64 (andI .u64 x0.1 (subI .u64 c 1))) b)) fun _ =>
 nth e d fun _ =>
 nthN e (Int.toNat (addI .i64 a (subI .i64 (IntKind.wrap .i64 (andI .u64 x0.1 (subI .u64 c 1))) b))) fun y1 =>
 nthN e (Int.toNat d) fun y2 =>
 nth e d fun _ =>
 nthN e (Int.toNat d) fun _y3 =>
 nth (List.set e (Int.toNat d) y1) (addI .i64 a (subI .i64 (IntKind.wrap .i64 (andI .u64 x0.1 (subI .u64 c 1))) b)) fun _ =>
 nthN (List.set e (Int.toNat d) y1) (Int.toNat (addI .i64 a (subI .i64 (IntKind.wrap .i64 (andI .u64 x0.1 (subI .u64 c 1))) b))) fun _y4 =>
 z0b a b c (addI .i64 d 1) (List.set (List.set e (Int.toNat d) y1) (Int.toNat (addI .i64 a (subI .i64 (IntKind.wrap .i64 (andI .u64 x0.1 (subI .u64 c 1))) b))) y2) x0.2
 else
 nth e (addI .i64 a (IntKind.wrap .i64 (andI .u64 x0.1 (subI .u64 c 1)))) fun _ =>
 nth e d fun _ =>
 nthN e (Int.toNat (addI .i64 a (IntKind.wrap .i64 (andI .u64 x0.1 (subI .u64 c 1))))) fun y5 =>
 nthN e (Int.toNat d) fun y6 =>
 nth e d fun _ =>
 nthN e (Int.toNat d) fun _y7 =>
 nth (List.set e (Int.toNat d) y5) (addI .i64 a (IntKind.wrap .i64 (andI .u64 x0.1 (subI .u64 c 1)))) fun _ =>
 nthN (List.set e (Int.toNat d) y5) (Int.toNat (addI .i64 a (IntKind.wrap .i64 (andI .u64 x0.1 (subI .u64 c 1))))) fun _y8 =>
 z0b a b c (addI .i64 d 1) (List.set (List.set e (Int.toNat d) y5) (Int.toNat (addI .i64 a (IntKind.wrap .i64 (andI .u64 x0.1 (subI .u64 c 1))))) y6) x0.2
 else
 some e
 ) :=
 gL o2' (q0b Tryz.f203 [1,1,0,1,1,1,0,0])
theorem y95 a : eL (z3m a) (
 some ((xorI .u64 (xorI .u64 (xorI .u64 a (shlI .u64 a 13)) (shrI .u64 (xorI .u64 a (shlI .u64 a 13)) 7)) (shlI .u64 (xorI .u64 (xorI .u64 a (shlI .u64 a 13)) (shrI .u64 (xorI .u64 a (shlI .u64 a 13)) 7)) 17)), (xorI .u64 (xorI .u64 (xorI .u64 a (shlI .u64 a 13)) (shrI .u64 (xorI .u64 a (shlI .u64 a 13)) 7)) (shlI .u64 (xorI .u64 (xorI .u64 a (shlI .u64 a 13)) (shrI .u64 (xorI .u64 a (shlI .u64 a 13)) 7)) 17)))
 ) :=
 cL o27' Tryz.func221
theorem ya3 a b c : eL (z0v a b c) (
 bif ltB a b then
 nth c b fun _ =>
 nth c a fun _ =>
 nthN c (Int.toNat b) fun y0 =>
 nthN c (Int.toNat a) fun y1 =>
 nth c a fun _ =>
 nthN c (Int.toNat a) fun _y2 =>
 nth (List.set c (Int.toNat a) y0) b fun _ =>
 nthN (List.set c (Int.toNat a) y0) (Int.toNat b) fun _y3 =>
 z0v (addI .i64 a 1) (subI .i64 b 1) (List.set (List.set c (Int.toNat a) y0) (Int.toNat b) y1)
 else
 some c
 ) :=
 gL o2' (q0b Tryz.f205 [1,1,0,0])
theorem y2r a b c d e : eL (z03 a b c d e) (
 bif ltB d 5 then
 z0x a b c d true e
 else
 some (false, e)
 ) :=
 gL o8' (q0b Tryz.f206 [1,1,0,1,0,0])
theorem y7s a b c d : eL (z0a a b c d) (
 z0t a b c d
 ) :=
 gL o10' (q0b Tryz.f207 [1,1,1,0,0,0])
theorem y7l a b c d : eL (z10 a b c d) (
 bif leB b c then
 nth d b fun _ =>
 nth d a fun _ =>
 nthN d (Int.toNat b) fun y0 =>
 nthN d (Int.toNat a) fun y1 =>
 Option.bind (z06 y0 y1) fun x2 =>
 bif ltB x2 0 then
 z10 a (addI .i64 b 1) c d
 else
 z0n a b c false d
 else
 z0n a b c false d
 ) :=
 gL o4' (q0b Tryz.f208 [1,1,1,0,0,0])
theorem y4t a b c d e f g h i j : eL (z3n a b c d e f g h i j) (
 bif ltB e d then
 nth c e fun y0 =>
 Option.bind (z51 y0 a) fun x1 =>
 bif x1.2 then
 some ((Frac.mk (mulI .i64 f x1.1.Num) (mulI .i64 b x1.1.Den)), true)
 else
 z3n a b c d (addI .i64 e 1) f g h i j
 else
 some ((Frac.mk 0 0), false)
 ) :=
 gL o9' (q0b Tryz.f96 [1,1,1,0,1,0,0])
theorem y3j a b c d e f : eL (z37 a b c d e f) (
 bif ltB f e then
 z1k a b c d f e f (b.length : Int) 0
 else
 bif !d then
 some (b, true)
 else
 z36 a b (addI .i64 c 1)
 ) :=
 gL o14' (q0b Tryz.f13 [1,1,0,1,0,0,1,0,0,1,0,1,0,0])
theorem y4e a b c d e : eL (z0i a b c d e) (
 bif ltB a d then
 nth e d fun _ =>
 nth e (subI .i64 d 1) fun _ =>
 nthN e (Int.toNat d) fun y0 =>
 nthN e (Int.toNat (subI .i64 d 1)) fun y1 =>
 Option.bind (z06 y0 y1) fun x2 =>
 bif ltB x2 0 then
 nth e (subI .i64 d 1) fun _ =>
 nth e d fun _ =>
 nthN e (Int.toNat (subI .i64 d 1)) fun y3 =>
 nthN e (Int.toNat d) fun y4 =>
 nth e d fun _ =>
 nthN e (Int.toNat d) fun _y5 =>
 nth (List.set e (Int.toNat d) y3) (subI .i64 d 1) fun _ =>
 nthN (List.set e (Int.toNat d) y3) (Int.toNat (subI .i64 d 1)) fun _y6 =>
 z0i a b c (subI .i64 d 1) (List.set (List.set e (Int.toNat d) y3) (Int.toNat (subI .i64 d 1)) y4)
 else
 z0e a b (addI .i64 c 1) e
 else
 z0e a b (addI .i64 c 1) e
 ) :=
 gL o2' (q0b Tryz.f201 [1,0,0,1,0,0,1,0,0])
theorem y4c a b c d : eL (z0s a b c d) (
 bif leB 0 c then
 nth d (addI .i64 a c) fun _ =>
 nth d a fun _ =>
 nthN d (Int.toNat (addI .i64 a c)) fun y0 =>
 nthN d (Int.toNat a) fun y1 =>
 nth d a fun _ =>
 nthN d (Int.toNat a) fun _y2 =>
 nth (List.set d (Int.toNat a) y0) (addI .i64 a c) fun _ =>
 nthN (List.set d (Int.toNat a) y0) (Int.toNat (addI .i64 a c)) fun _y3 =>
 Option.bind (z15 b c a (List.set (List.set d (Int.toNat a) y0) (Int.toNat (addI .i64 a c)) y1)) fun x4 =>
 z0s a b (subI .i64 c 1) x4
 else
 some d
 ) :=
 gL o2' (q0b Tryz.f202 [1,1,1,1,1,0,0])
theorem yal a b c d : eL (z0d a b c d) (
 bif (leB a (addI .i64 (mulI .i64 2 c) 1)) then
 some d
 else
 bif (ltB (addI .i64 (addI .i64 (mulI .i64 2 c) 1) 1) a) then
 nth d (addI .i64 b (addI .i64 (mulI .i64 2 c) 1)) fun _ =>
 nth d (addI .i64 (addI .i64 b (addI .i64 (mulI .i64 2 c) 1)) 1) fun _ =>
 nthN d (Int.toNat (addI .i64 b (addI .i64 (mulI .i64 2 c) 1))) fun y0 =>
 nthN d (Int.toNat (addI .i64 (addI .i64 b (addI .i64 (mulI .i64 2 c) 1)) 1)) fun y1 =>
 Option.bind (z06 y0 y1) fun x2 =>
 bif ltB x2 0 then
 nth d (addI .i64 b c) fun _ =>
 nth d (addI .i64 b (addI .i64 (addI .i64 (mulI .i64 2 c) 1) 1)) fun _ =>
 nthN d (Int.toNat (addI .i64 b c)) fun y3 =>
 nthN d (Int.toNat (addI .i64 b (addI .i64 (addI .i64 (mulI .i64 2 c) 1) 1))) fun y4 =>
 Option.bind (z06 y3 y4) fun x5 =>
 bif !(ltB x5 0) then
 some d
 else
 nth d (addI .i64 b (addI .i64 (addI .i64 (mulI .i64 2 c) 1) 1)) fun _ =>
 nth d (addI .i64 b c) fun _ =>
 nthN d (Int.toNat (addI .i64 b (addI .i64 (addI .i64 (mulI .i64 2 c) 1) 1))) fun y6 =>
 nthN d (Int.toNat (addI .i64 b c)) fun y7 =>
 nth d (addI .i64 b c) fun _ =>
 nthN d (Int.toNat (addI .i64 b c)) fun _y8 =>
 nth (List.set d (Int.toNat (addI .i64 b c)) y6) (addI .i64 b (addI .i64 (addI .i64 (mulI .i64 2 c) 1) 1)) fun _ =>
 nthN (List.set d (Int.toNat (addI .i64 b c)) y6) (Int.toNat (addI .i64 b (addI .i64 (addI .i64 (mulI .i64 2 c) 1) 1))) fun _y9 =>
 z0d a b (addI .i64 (addI .i64 (mulI .i64 2 c) 1) 1) (List.set (List.set d (Int.toNat (addI .i64 b c)) y6) (Int.toNat (addI .i64 b (addI .i64 (addI .i64 (mulI .i64 2 c) 1) 1))) y7)
 else
 nth d (addI .i64 b c) fun _ =>
 nth d (addI .i64 b (addI .i64 (mulI .i64 2 c) 1)) fun _ =>
 nthN d (Int.toNat (addI .i64 b c)) fun y10 =>
 nthN d (Int.toNat (addI .i64 b (addI .i64 (mulI .i64 2 c) 1))) fun y11 =>
 Option.bind (z06 y10 y11) fun x12 =>
 bif !(ltB x12 0) then
 some d
 else
 nth d (addI .i64 b (addI .i64 (mulI .i64 2 c) 1)) fun _ =>
 nth d (addI .i64 b c) fun _ =>
 nthN d (Int.toNat (addI .i64 b (addI .i64 (mulI .i64 2 c) 1))) fun y13 =>
 nthN d (Int.toNat (addI .i64 b c)) fun y14 =>
 nth d (addI .i64 b c) fun _ =>
 nthN d (Int.toNat (addI .i64 b c)) fun _y15 =>
 nth (List.set d (Int.toNat (addI .i64 b c)) y13) (addI .i64 b (addI .i64 (mulI .i64 2 c) 1)) fun _ =>
 nthN (List.set d (Int.toNat (addI .i64 b c)) y13) (Int.toNat (addI .i64 b (addI .i64 (mulI .i64 2 c) 1))) fun _y16 =>
 z0d a b (addI .i64 (mulI .i64 2 c) 1) (List.set (List.set d (Int.toNat (addI .i64 b c)) y13) (Int.toNat (addI .i64 b (addI .i64 (mulI .i64 2 c) 1))) y14)
 else
 nth d (addI .i64 b c) fun _ =>
 nth d (addI .i64 b (addI .i64 (mulI .i64 2 c) 1)) fun _ =>
 nthN d (Int.toNat (addI .i64 b c)) fun y17 =>
 nthN d (Int.toNat (addI .i64 b (addI .i64 (mulI .i64 2 c) 1))) fun y18 =>
 Option.bind (z06 y17 y18) fun x19 =>
 bif !(ltB x19 0) then
 some d
 else
 nth d (addI .i64 b (addI .i64 (mulI .i64 2 c) 1)) fun _ =>
 nth d (addI .i64 b c) fun _ =>
 nthN d (Int.toNat (addI .i64 b (addI .i64 (mulI .i64 2 c) 1))) fun y20 =>
 nthN d (Int.toNat (addI .i64 b c)) fun y21 =>
 nth d (addI .i64 b c) fun _ =>
 nthN d (Int.toNat (addI .i64 b c)) fun _y22 =>
 nth (List.set d (Int.toNat (addI .i64 b c)) y20) (addI .i64 b (addI .i64 (mulI .i64 2 c) 1)) fun _ =>
 nthN (List.set d (Int.toNat (addI .i64 b c)) y20) (Int.toNat (addI .i64 b (addI .i64 (mulI .i64 2 c) 1))) fun _y23 =>
 z0d a b (addI .i64 (mulI .i64 2 c) 1) (List.set (List.set d (Int.toNat (addI .i64 b c)) y20) (Int.toNat (addI .i64 b (addI .i64 (mulI .i64 2 c) 1))) y21)
 ) :=
 gL o2' (q0b Tryz.f219 [1,0,0])
theorem y9e a b c d e f : eL (z0x a b c d e f) (
 bif ltB c b then
 nth f c fun _ =>
 nth f (subI .i64 c 1) fun _ =>
 nthN f (Int.toNat c) fun y0 =>
 nthN f (Int.toNat (subI .i64 c 1)) fun y1 =>
 Option.bind (z06 y0 y1) fun x2 =>
 bif !(ltB x2 0) then
 z0j a b (addI .i64 c 1) d f
 else
 bif eqB c b then
 some (true, f)
 else
 bif ltB (subI .i64 b a) 50 then
 some (false, f)
 else
 nth f (subI .i64 c 1) fun _ =>
 nth f c fun _ =>
 nthN f (Int.toNat (subI .i64 c 1)) fun y3 =>
 nthN f (Int.toNat c) fun y4 =>
 nth f c fun _ =>
 nthN f (Int.toNat c) fun _y5 =>
 nth (List.set f (Int.toNat c) y3) (subI .i64 c 1) fun _ =>
 nthN (List.set f (Int.toNat c) y3) (Int.toNat (subI .i64 c 1)) fun _y6 =>
 bif leB 2 (subI .i64 c a) then
 z08 a b c d (subI .i64 c 1) (List.set (List.set f (Int.toNat c) y3) (Int.toNat (subI .i64 c 1)) y4)
 else
 bif leB 2 (subI .i64 b c) then
 z05 a b c d (addI .i64 c 1) (List.set (List.set f (Int.toNat c) y3) (Int.toNat (subI .i64 c 1)) y4)
 else
 z03 a b c (addI .i64 d 1) (List.set (List.set f (Int.toNat c) y3) (Int.toNat (subI .i64 c 1)) y4)
 else
 bif eqB c b then
 some (true, f)
 else
 bif ltB (subI .i64 b a) 50 then
 some (false, f)
 else
 nth f (subI .i64 c 1) fun _ =>
 nth f c fun _ =>
 nthN f (Int.toNat (subI .i64 c 1)) fun y7 =>
 nthN f (Int.toNat c) fun y8 =>
 nth f c fun _ =>
 nthN f (Int.toNat c) fun _y9 =>
 nth (List.set f (Int.toNat c) y7) (subI .i64 c 1) fun _ =>
 nthN (List.set f (Int.toNat c) y7) (Int.toNat (subI .i64 c 1)) fun _y10 =>
 bif leB 2 (subI .i64 c a) then
 z08 a b c d (subI .i64 c 1) (List.set (List.set f (Int.toNat c) y7) (Int.toNat (subI .i64 c 1)) y8)
 else
 bif leB 2 (subI .i64 b c) then
 z05 a b c d (addI .i64 c 1) (List.set (List.set f (Int.toNat c) y7) (Int.toNat (subI .i64 c 1)) y8)
 else
 z03 a b c (addI .i64 d 1) (List.set (List.set f (Int.toNat c) y7) (Int.toNat (subI .i64 c 1)) y8)
 ) :=
 gL o8' (q0b Tryz.f206 [1,1,0,1,0,0,1,0,0,0,0,0])
theorem y6q a b c d : eL (z0t a b c d) (
 bif leB b c then
 nth d a fun _ =>
 nth d b fun _ =>
 nthN d (Int.toNat a) fun y0 =>
 nthN d (Int.toNat b) fun y1 =>
 Option.bind (z06 y0 y1) fun x2 =>
 bif !(ltB x2 0) then
 z0t a (addI .i64 b 1) c d
 else
 z0h a b c false d
 else
 z0h a b c false d
 ) :=
 gL o10' (q0b Tryz.f207 [1,1,1,0,0,0,0,0,0,0])
theorem yb5 a b c d e : eL (z0n a b c d e) (
 bif leB b c then
 nth e c fun _ =>
 nth e a fun _ =>
 nthN e (Int.toNat c) fun y0 =>
 nthN e (Int.toNat a) fun y1 =>
 Option.bind (z06 y0 y1) fun x2 =>
 bif !(ltB x2 0) then
 z11 a b (subI .i64 c 1) e
 else
 bif ltB c b then
 nth e a fun _ =>
 nth e c fun _ =>
 nthN e (Int.toNat a) fun y3 =>
 nthN e (Int.toNat c) fun y4 =>
 nth e c fun _ =>
 nthN e (Int.toNat c) fun _y5 =>
 nth (List.set e (Int.toNat c) y3) a fun _ =>
 nthN (List.set e (Int.toNat c) y3) (Int.toNat a) fun _y6 =>
 some (c, true, (List.set (List.set e (Int.toNat c) y3) (Int.toNat a) y4))
 else
 nth e c fun _ =>
 nth e b fun _ =>
 nthN e (Int.toNat c) fun y7 =>
 nthN e (Int.toNat b) fun y8 =>
 nth e b fun _ =>
 nthN e (Int.toNat b) fun _y9 =>
 nth (List.set e (Int.toNat b) y7) c fun _ =>
 nthN (List.set e (Int.toNat b) y7) (Int.toNat c) fun _y10 =>
 z07 a (addI .i64 b 1) (subI .i64 c 1) (List.set (List.set e (Int.toNat b) y7) (Int.toNat c) y8)
 else
 bif ltB c b then
 nth e a fun _ =>
 nth e c fun _ =>
 nthN e (Int.toNat a) fun y11 =>
 nthN e (Int.toNat c) fun y12 =>
 nth e c fun _ =>
 nthN e (Int.toNat c) fun _y13 =>
 nth (List.set e (Int.toNat c) y11) a fun _ =>
 nthN (List.set e (Int.toNat c) y11) (Int.toNat a) fun _y14 =>
 some (c, true, (List.set (List.set e (Int.toNat c) y11) (Int.toNat a) y12))
 else
 nth e c fun _ =>
 nth e b fun _ =>
 nthN e (Int.toNat c) fun y15 =>
 nthN e (Int.toNat b) fun y16 =>
 nth e b fun _ =>
 nthN e (Int.toNat b) fun _y17 =>
 nth (List.set e (Int.toNat b) y15) c fun _ =>
 nthN (List.set e (Int.toNat b) y15) (Int.toNat c) fun _y18 =>
 z07 a (addI .i64 b 1) (subI .i64 c 1) (List.set (List.set e (Int.toNat b) y15) (Int.toNat c) y16)
 ) :=
 gL o4' (q0b Tryz.f208 [1,1,1,1,0,0,0])
theorem qq4 a b c d e f g h i : eL (z1k a b c d e f g h i) (
 bif ltB i h then
 bif eqB e i then
 z1k a b c d e f g h (addI .i64 i 1)
 else
 Option.bind (z5i a i) fun x0 =>
 bif !x0 then
 z1k a b c d e f g h (addI .i64 i 1)
 else
 nth b i fun _ =>
 nth b e fun _ =>
 nthN b (Int.toNat i) fun y1 =>
 nthN b (Int.toNat e) fun y2 =>
 Option.bind (z4j y2) fun x3 =>
 Option.bind (z4s y1 x3) fun x4 =>
 bif neB x4.2 0 then
 bif neB x4.2 9 then
 some (b, false)
 else
 bif eqB x4.2 0 then
 bif d then
 nth b i fun _ =>
 nthN b (Int.toNat i) fun _y5 =>
 z1k a (List.set b (Int.toNat i) (Nominator.mk x4.1.Node x4.1.Slot x4.1.Round x4.1.Seq (Trust.mk x4.1.Trust.Threshold x4.1.Trust.Nodes x4.1.Trust.Inner) x4.1.Own x4.1.Votes x4.1.Accepts x4.1.Candidates x4.1.Heard)) c true e f g h (addI .i64 i 1)
 else
 nth b i fun _ =>
 nthN b (Int.toNat i) fun y6 =>
 Option.bind (z5e y6 x4.1) fun x7 =>
 nth b i fun _ =>
 nthN b (Int.toNat i) fun _y8 =>
 z1k a (List.set b (Int.toNat i) (Nominator.mk x4.1.Node x4.1.Slot x4.1.Round x4.1.Seq (Trust.mk x4.1.Trust.Threshold x4.1.Trust.Nodes x4.1.Trust.Inner) x4.1.Own x4.1.Votes x4.1.Accepts x4.1.Candidates x4.1.Heard)) c (!x7) e f g h (addI .i64 i 1)
 else
 z1k a b c d e f g h (addI .i64 i 1)
 else
 bif eqB x4.2 0 then
 bif d then
 nth b i fun _ =>
 nthN b (Int.toNat i) fun _y9 =>
 z1k a (List.set b (Int.toNat i) (Nominator.mk x4.1.Node x4.1.Slot x4.1.Round x4.1.Seq (Trust.mk x4.1.Trust.Threshold x4.1.Trust.Nodes x4.1.Trust.Inner) x4.1.Own x4.1.Votes x4.1.Accepts x4.1.Candidates x4.1.Heard)) c true e f g h (addI .i64 i 1)
 else
 nth b i fun _ =>
 nthN b (Int.toNat i) fun y10 =>
 Option.bind (z5e y10 x4.1) fun x11 =>
 nth b i fun _ =>
 nthN b (Int.toNat i) fun _y12 =>
 z1k a (List.set b (Int.toNat i) (Nominator.mk x4.1.Node x4.1.Slot x4.1.Round x4.1.Seq (Trust.mk x4.1.Trust.Threshold x4.1.Trust.Nodes x4.1.Trust.Inner) x4.1.Own x4.1.Votes x4.1.Accepts x4.1.Candidates x4.1.Heard)) c (!x11) e f g h (addI .i64 i 1)
 else
 z1k a b c d e f g h (addI .i64 i 1)
 else
 z37 a b c d f (addI .i64 g 1)
 ) :=
 gL o14' (q0b Tryz.f13 [1,1,0,1,0,0,1,0,0,1,0,1,0,0,1,1,0,0,1,1,0,0])
theorem yah a b c d e : eL (z0j a b c d e) (
 bif ltB c b then
 nth e c fun _ =>
 nth e (subI .i64 c 1) fun _ =>
 nthN e (Int.toNat c) fun y0 =>
 nthN e (Int.toNat (subI .i64 c 1)) fun y1 =>
 Option.bind (z06 y0 y1) fun x2 =>
 bif !(ltB x2 0) then
 z0j a b (addI .i64 c 1) d e
 else
 bif eqB c b then
 some (true, e)
 else
 bif ltB (subI .i64 b a) 50 then
 some (false, e)
 else
 nth e (subI .i64 c 1) fun _ =>
 nth e c fun _ =>
 nthN e (Int.toNat (subI .i64 c 1)) fun y3 =>
 nthN e (Int.toNat c) fun y4 =>
 nth e c fun _ =>
 nthN e (Int.toNat c) fun _y5 =>
 nth (List.set e (Int.toNat c) y3) (subI .i64 c 1) fun _ =>
 nthN (List.set e (Int.toNat c) y3) (Int.toNat (subI .i64 c 1)) fun _y6 =>
 bif leB 2 (subI .i64 c a) then
 z08 a b c d (subI .i64 c 1) (List.set (List.set e (Int.toNat c) y3) (Int.toNat (subI .i64 c 1)) y4)
 else
 bif leB 2 (subI .i64 b c) then
 z05 a b c d (addI .i64 c 1) (List.set (List.set e (Int.toNat c) y3) (Int.toNat (subI .i64 c 1)) y4)
 else
 z03 a b c (addI .i64 d 1) (List.set (List.set e (Int.toNat c) y3) (Int.toNat (subI .i64 c 1)) y4)
 else
 bif eqB c b then
 some (true, e)
 else
 bif ltB (subI .i64 b a) 50 then
 some (false, e)
 else
 nth e (subI .i64 c 1) fun _ =>
 nth e c fun _ =>
 nthN e (Int.toNat (subI .i64 c 1)) fun y7 =>
 nthN e (Int.toNat c) fun y8 =>
 nth e c fun _ =>
 nthN e (Int.toNat c) fun _y9 =>
 nth (List.set e (Int.toNat c) y7) (subI .i64 c 1) fun _ =>
 nthN (List.set e (Int.toNat c) y7) (Int.toNat (subI .i64 c 1)) fun _y10 =>
 bif leB 2 (subI .i64 c a) then
 z08 a b c d (subI .i64 c 1) (List.set (List.set e (Int.toNat c) y7) (Int.toNat (subI .i64 c 1)) y8)
 else
 bif leB 2 (subI .i64 b c) then
 z05 a b c d (addI .i64 c 1) (List.set (List.set e (Int.toNat c) y7) (Int.toNat (subI .i64 c 1)) y8)
 else
 z03 a b c (addI .i64 d 1) (List.set (List.set e (Int.toNat c) y7) (Int.toNat (subI .i64 c 1)) y8)
 ) :=
 gL o8' (q0b Tryz.f206 [1,1,0,1,0,0,1,0,0,0,0,0])
theorem y3g a b c d e f : eL (z08 a b c d e f) (
 bif leB 1 e then
 nth f e fun _ =>
 nth f (subI .i64 e 1) fun _ =>
 nthN f (Int.toNat e) fun y0 =>
 nthN f (Int.toNat (subI .i64 e 1)) fun y1 =>
 Option.bind (z06 y0 y1) fun x2 =>
 bif !(ltB x2 0) then
 bif leB 2 (subI .i64 b c) then
 z05 a b c d (addI .i64 c 1) f
 else
 z03 a b c (addI .i64 d 1) f
 else
 nth f (subI .i64 e 1) fun _ =>
 nth f e fun _ =>
 nthN f (Int.toNat (subI .i64 e 1)) fun y3 =>
 nthN f (Int.toNat e) fun y4 =>
 nth f e fun _ =>
 nthN f (Int.toNat e) fun _y5 =>
 nth (List.set f (Int.toNat e) y3) (subI .i64 e 1) fun _ =>
 nthN (List.set f (Int.toNat e) y3) (Int.toNat (subI .i64 e 1)) fun _y6 =>
 z08 a b c d (subI .i64 e 1) (List.set (List.set f (Int.toNat e) y3) (Int.toNat (subI .i64 e 1)) y4)
 else
 bif leB 2 (subI .i64 b c) then
 z05 a b c d (addI .i64 c 1) f
 else
 z03 a b c (addI .i64 d 1) f
 ) :=
 gL o8' (q0b Tryz.f206 [1,1,0,1,0,0,1,0,0,1,1,1,1,0,1,0,1,0,0])
theorem y9k a b c d e f : eL (z05 a b c d e f) (
 bif ltB e b then
 nth f e fun _ =>
 nth f (subI .i64 e 1) fun _ =>
 nthN f (Int.toNat e) fun y0 =>
 nthN f (Int.toNat (subI .i64 e 1)) fun y1 =>
 Option.bind (z06 y0 y1) fun x2 =>
 bif !(ltB x2 0) then
 z03 a b c (addI .i64 d 1) f
 else
 nth f (subI .i64 e 1) fun _ =>
 nth f e fun _ =>
 nthN f (Int.toNat (subI .i64 e 1)) fun y3 =>
 nthN f (Int.toNat e) fun y4 =>
 nth f e fun _ =>
 nthN f (Int.toNat e) fun _y5 =>
 nth (List.set f (Int.toNat e) y3) (subI .i64 e 1) fun _ =>
 nthN (List.set f (Int.toNat e) y3) (Int.toNat (subI .i64 e 1)) fun _y6 =>
 z05 a b c d (addI .i64 e 1) (List.set (List.set f (Int.toNat e) y3) (Int.toNat (subI .i64 e 1)) y4)
 else
 z03 a b c (addI .i64 d 1) f
 ) :=
 gL o8' (q0b Tryz.f206 [1,1,0,1,0,0,1,0,0,1,1,1,1,1,1,0,1,0,0])
theorem y6u a b c d e : eL (z0h a b c d e) (
 bif leB b c then
 nth e a fun _ =>
 nth e c fun _ =>
 nthN e (Int.toNat a) fun y0 =>
 nthN e (Int.toNat c) fun y1 =>
 Option.bind (z06 y0 y1) fun x2 =>
 bif ltB x2 0 then
 z0u a b (subI .i64 c 1) e
 else
 bif ltB c b then
 some (b, e)
 else
 nth e c fun _ =>
 nth e b fun _ =>
 nthN e (Int.toNat c) fun y3 =>
 nthN e (Int.toNat b) fun y4 =>
 nth e b fun _ =>
 nthN e (Int.toNat b) fun _y5 =>
 nth (List.set e (Int.toNat b) y3) c fun _ =>
 nthN (List.set e (Int.toNat b) y3) (Int.toNat c) fun _y6 =>
 z0a a (addI .i64 b 1) (subI .i64 c 1) (List.set (List.set e (Int.toNat b) y3) (Int.toNat c) y4)
 else
 bif ltB c b then
 some (b, e)
 else
 nth e c fun _ =>
 nth e b fun _ =>
 nthN e (Int.toNat c) fun y7 =>
 nthN e (Int.toNat b) fun y8 =>
 nth e b fun _ =>
 nthN e (Int.toNat b) fun _y9 =>
 nth (List.set e (Int.toNat b) y7) c fun _ =>
 nthN (List.set e (Int.toNat b) y7) (Int.toNat c) fun _y10 =>
 z0a a (addI .i64 b 1) (subI .i64 c 1) (List.set (List.set e (Int.toNat b) y7) (Int.toNat c) y8)
 ) :=
 gL o10' (q0b Tryz.f207 [1,1,1,0,0,0,0,1,0,0,0])
theorem y7j a b c d : eL (z11 a b c d) (
 bif leB b c then
 nth d c fun _ =>
 nth d a fun _ =>
 nthN d (Int.toNat c) fun y0 =>
 nthN d (Int.toNat a) fun y1 =>
 Option.bind (z06 y0 y1) fun x2 =>
 bif !(ltB x2 0) then
 z11 a b (subI .i64 c 1) d
 else
 bif ltB c b then
 nth d a fun _ =>
 nth d c fun _ =>
 nthN d (Int.toNat a) fun y3 =>
 nthN d (Int.toNat c) fun y4 =>
 nth d c fun _ =>
 nthN d (Int.toNat c) fun _y5 =>
 nth (List.set d (Int.toNat c) y3) a fun _ =>
 nthN (List.set d (Int.toNat c) y3) (Int.toNat a) fun _y6 =>
 some (c, true, (List.set (List.set d (Int.toNat c) y3) (Int.toNat a) y4))
 else
 nth d c fun _ =>
 nth d b fun _ =>
 nthN d (Int.toNat c) fun y7 =>
 nthN d (Int.toNat b) fun y8 =>
 nth d b fun _ =>
 nthN d (Int.toNat b) fun _y9 =>
 nth (List.set d (Int.toNat b) y7) c fun _ =>
 nthN (List.set d (Int.toNat b) y7) (Int.toNat c) fun _y10 =>
 z07 a (addI .i64 b 1) (subI .i64 c 1) (List.set (List.set d (Int.toNat b) y7) (Int.toNat c) y8)
 else
 bif ltB c b then
 nth d a fun _ =>
 nth d c fun _ =>
 nthN d (Int.toNat a) fun y11 =>
 nthN d (Int.toNat c) fun y12 =>
 nth d c fun _ =>
 nthN d (Int.toNat c) fun _y13 =>
 nth (List.set d (Int.toNat c) y11) a fun _ =>
 nthN (List.set d (Int.toNat c) y11) (Int.toNat a) fun _y14 =>
 some (c, true, (List.set (List.set d (Int.toNat c) y11) (Int.toNat a) y12))
 else
 nth d c fun _ =>
 nth d b fun _ =>
 nthN d (Int.toNat c) fun y15 =>
 nthN d (Int.toNat b) fun y16 =>
 nth d b fun _ =>
 nthN d (Int.toNat b) fun _y17 =>
 nth (List.set d (Int.toNat b) y15) c fun _ =>
 nthN (List.set d (Int.toNat b) y15) (Int.toNat c) fun _y18 =>
 z07 a (addI .i64 b 1) (subI .i64 c 1) (List.set (List.set d (Int.toNat b) y15) (Int.toNat c) y16)
 ) :=
 gL o4' (q0b Tryz.f208 [1,1,1,1,0,0,0])
theorem y83 a b c d : eL (z07 a b c d) (
 z12 a b c d
 ) :=
 gL o4' (q0b Tryz.f208 [1,1,1,1,1,1,1,1,1,0,0,0])
theorem y8d a b c d : eL (z0u a b c d) (
 bif leB b c then
 nth d a fun _ =>
 nth d c fun _ =>
 nthN d (Int.toNat a) fun y0 =>
 nthN d (Int.toNat c) fun y1 =>
 Option.bind (z06 y0 y1) fun x2 =>
 bif ltB x2 0 then
 z0u a b (subI .i64 c 1) d
 else
 bif ltB c b then
 some (b, d)
 else
 nth d c fun _ =>
 nth d b fun _ =>
 nthN d (Int.toNat c) fun y3 =>
 nthN d (Int.toNat b) fun y4 =>
 nth d b fun _ =>
 nthN d (Int.toNat b) fun _y5 =>
 nth (List.set d (Int.toNat b) y3) c fun _ =>
 nthN (List.set d (Int.toNat b) y3) (Int.toNat c) fun _y6 =>
 z0a a (addI .i64 b 1) (subI .i64 c 1) (List.set (List.set d (Int.toNat b) y3) (Int.toNat c) y4)
 else
 bif ltB c b then
 some (b, d)
 else
 nth d c fun _ =>
 nth d b fun _ =>
 nthN d (Int.toNat c) fun y7 =>
 nthN d (Int.toNat b) fun y8 =>
 nth d b fun _ =>
 nthN d (Int.toNat b) fun _y9 =>
 nth (List.set d (Int.toNat b) y7) c fun _ =>
 nthN (List.set d (Int.toNat b) y7) (Int.toNat c) fun _y10 =>
 z0a a (addI .i64 b 1) (subI .i64 c 1) (List.set (List.set d (Int.toNat b) y7) (Int.toNat c) y8)
 ) :=
 gL o10' (q0b Tryz.f207 [1,1,1,0,0,0,0,1,0,0,0])
theorem y8q a b c d : eL (z12 a b c d) (
 bif leB b c then
 nth d b fun _ =>
 nth d a fun _ =>
 nthN d (Int.toNat b) fun y0 =>
 nthN d (Int.toNat a) fun y1 =>
 Option.bind (z06 y0 y1) fun x2 =>
 bif ltB x2 0 then
 z12 a (addI .i64 b 1) c d
 else
 z0o a b c false d
 else
 z0o a b c false d
 ) :=
 gL o4' (q0b Tryz.f208 [1,1,1,1,1,1,1,1,1,0,0,0,0,0,0,0])
theorem y7e a b c d e : eL (z0o a b c d e) (
 bif leB b c then
 nth e c fun _ =>
 nth e a fun _ =>
 nthN e (Int.toNat c) fun y0 =>
 nthN e (Int.toNat a) fun y1 =>
 Option.bind (z06 y0 y1) fun x2 =>
 bif !(ltB x2 0) then
 z13 a b (subI .i64 c 1) e
 else
 bif ltB c b then
 nth e a fun _ =>
 nth e c fun _ =>
 nthN e (Int.toNat a) fun y3 =>
 nthN e (Int.toNat c) fun y4 =>
 nth e c fun _ =>
 nthN e (Int.toNat c) fun _y5 =>
 nth (List.set e (Int.toNat c) y3) a fun _ =>
 nthN (List.set e (Int.toNat c) y3) (Int.toNat a) fun _y6 =>
 some (c, false, (List.set (List.set e (Int.toNat c) y3) (Int.toNat a) y4))
 else
 nth e c fun _ =>
 nth e b fun _ =>
 nthN e (Int.toNat c) fun y7 =>
 nthN e (Int.toNat b) fun y8 =>
 nth e b fun _ =>
 nthN e (Int.toNat b) fun _y9 =>
 nth (List.set e (Int.toNat b) y7) c fun _ =>
 nthN (List.set e (Int.toNat b) y7) (Int.toNat c) fun _y10 =>
 z07 a (addI .i64 b 1) (subI .i64 c 1) (List.set (List.set e (Int.toNat b) y7) (Int.toNat c) y8)
 else
 bif ltB c b then
 nth e a fun _ =>
 nth e c fun _ =>
 nthN e (Int.toNat a) fun y11 =>
 nthN e (Int.toNat c) fun y12 =>
 nth e c fun _ =>
 nthN e (Int.toNat c) fun _y13 =>
 nth (List.set e (Int.toNat c) y11) a fun _ =>
 nthN (List.set e (Int.toNat c) y11) (Int.toNat a) fun _y14 =>
 some (c, false, (List.set (List.set e (Int.toNat c) y11) (Int.toNat a) y12))
 else
 nth e c fun _ =>
 nth e b fun _ =>
 nthN e (Int.toNat c) fun y15 =>
 nthN e (Int.toNat b) fun y16 =>
 nth e b fun _ =>
 nthN e (Int.toNat b) fun _y17 =>
 nth (List.set e (Int.toNat b) y15) c fun _ =>
 nthN (List.set e (Int.toNat b) y15) (Int.toNat c) fun _y18 =>
 z07 a (addI .i64 b 1) (subI .i64 c 1) (List.set (List.set e (Int.toNat b) y15) (Int.toNat c) y16)
 ) :=
 gL o4' (q0b Tryz.f208 [1,1,1,1,1,1,1,1,1,0,0,0,0,1,0,0,0])
theorem yb7 a b c d : eL (z13 a b c d) (
 bif leB b c then
 nth d c fun _ =>
 nth d a fun _ =>
 nthN d (Int.toNat c) fun y0 =>
 nthN d (Int.toNat a) fun y1 =>
 Option.bind (z06 y0 y1) fun x2 =>
 bif !(ltB x2 0) then
 z13 a b (subI .i64 c 1) d
 else
 bif ltB c b then
 nth d a fun _ =>
 nth d c fun _ =>
 nthN d (Int.toNat a) fun y3 =>
 nthN d (Int.toNat c) fun y4 =>
 nth d c fun _ =>
 nthN d (Int.toNat c) fun _y5 =>
 nth (List.set d (Int.toNat c) y3) a fun _ =>
 nthN (List.set d (Int.toNat c) y3) (Int.toNat a) fun _y6 =>
 some (c, false, (List.set (List.set d (Int.toNat c) y3) (Int.toNat a) y4))
 else
 nth d c fun _ =>
 nth d b fun _ =>
 nthN d (Int.toNat c) fun y7 =>
 nthN d (Int.toNat b) fun y8 =>
 nth d b fun _ =>
 nthN d (Int.toNat b) fun _y9 =>
 nth (List.set d (Int.toNat b) y7) c fun _ =>
 nthN (List.set d (Int.toNat b) y7) (Int.toNat c) fun _y10 =>
 z07 a (addI .i64 b 1) (subI .i64 c 1) (List.set (List.set d (Int.toNat b) y7) (Int.toNat c) y8)
 else
 bif ltB c b then
 nth d a fun _ =>
 nth d c fun _ =>
 nthN d (Int.toNat a) fun y11 =>
 nthN d (Int.toNat c) fun y12 =>
 nth d c fun _ =>
 nthN d (Int.toNat c) fun _y13 =>
 nth (List.set d (Int.toNat c) y11) a fun _ =>
 nthN (List.set d (Int.toNat c) y11) (Int.toNat a) fun _y14 =>
 some (c, false, (List.set (List.set d (Int.toNat c) y11) (Int.toNat a) y12))
 else
 nth d c fun _ =>
 nth d b fun _ =>
 nthN d (Int.toNat c) fun y15 =>
 nthN d (Int.toNat b) fun y16 =>
 nth d b fun _ =>
 nthN d (Int.toNat b) fun _y17 =>
 nth (List.set d (Int.toNat b) y15) c fun _ =>
 nthN (List.set d (Int.toNat b) y15) (Int.toNat c) fun _y18 =>
 z07 a (addI .i64 b 1) (subI .i64 c 1) (List.set (List.set d (Int.toNat b) y15) (Int.toNat c) y16)
 ) :=
 gL o4' (q0b Tryz.f208 [1,1,1,1,1,1,1,1,1,0,0,0,0,1,0,0,0])
end Go.Proofs.YtglokalgdbegeaaGreat
