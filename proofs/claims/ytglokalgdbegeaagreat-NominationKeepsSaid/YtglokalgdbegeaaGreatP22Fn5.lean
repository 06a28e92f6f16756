/- What the functions come to, printed by a program and checked by the kernel. -/
import Derived.Test.YtglokalgdbegeaaGreatP22Df
namespace Go.Proofs.YtglokalgdbegeaaGreat
open Go Go.Ab
set_option maxRecDepth 100000
theorem y7d a b c d : eL (z10 a b c d) (
 bif leB b c then
 nth d b fun _ =>
 nth d a fun _ =>
 nthN d (Int.toNat b) fun y0 =>
 nthN d (Int.toNat a) fun y1 =>
 Option.bind (z06 y0 y1) fun x2 =>
 bif ltB x2 0 then
 z10 a (addI .i64 b 1) c d
 else
 z0n a b c false d
 else
 z0n a b c false d
 ) :=
 gL o4' (q0b Tryz.f208 [1,1,1,0,0,0])
theorem y2n a b c d e : eL (z0i a b c d e) (
 bif ltB a d then
 nth e d fun _ =>
 nth e (subI .i64 d 1) fun _ =>
 nthN e (Int.toNat d) fun y0 =>
 nthN e (Int.toNat (subI .i64 d 1)) fun y1 =>
 Option.bind (z06 y0 y1) fun x2 =>
 bif ltB x2 0 then
 nth e (subI .i64 d 1) fun _ =>
 nth e d fun _ =>
 nthN e (Int.toNat (subI .i64 d 1)) fun y3 =>
 nthN e (Int.toNat d) fun y4 =>
 nth e d fun _ =>
 nthN e (Int.toNat d) fun _y5 =>
 nth (List.set e (Int.toNat d) y3) (subI .i64 d 1) fun _ =>
 nthN (List.set e (Int.toNat d) y3) (Int.toNat (subI .i64 d 1)) fun _y6 =>
 z0i a b c (subI .i64 d 1) (List.set (List.set e (Int.toNat d) y3) (Int.toNat (subI .i64 d 1)) y4)
 else
 z0e a b (addI .i64 c 1) e
 else
 z0e a b (addI .i64 c 1) e
 ) :=
 gL o2' (q0b Tryz.f201 [1,0,0,1,0,0,1,0,0])
theorem y22 a b c d : eL (z0s a b c d) (
 bif leB 0 c then
 nth d (addI .i64 a c) fun _ =>
 nth d a fun _ =>
 nthN d (Int.toNat (addI .i64 a c)) fun y0 =>
 nthN d (Int.toNat a) fun y1 =>
 nth d a fun _ =>
 nthN d (Int.toNat a) fun _y2 =>
 nth (List.set d (Int.toNat a) y0) (addI .i64 a c) fun _ =>
 nthN (List.set d (Int.toNat a) y0) (Int.toNat (addI .i64 a c)) fun _y3 =>
 Option.bind (z15 b c a (List.set (List.set d (Int.toNat a) y0) (Int.toNat (addI .i64 a c)) y1)) fun x4 =>
 z0s a b (subI .i64 c 1) x4
 else
 some d
 ) :=
 gL o2' (q0b Tryz.f202 [1,1,1,1,1,0,0])
theorem y55 a b c d : eL (z0d a b c d) (
 bif (leB a (addI .i64 (mulI .i64 2 c) 1)) then
 some d
 else
 bif (ltB (addI .i64 (addI .i64 (mulI .i64 2 c) 1) 1) a) then
 nth d (addI .i64 b (addI .i64 (mulI .i64 2 c) 1)) fun _ =>
 nth d (addI .i64 (addI .i64 b (addI .i64 (mulI .i64 2 c) 1)) 1) fun _ =>
 nthN d (Int.toNat (addI .i64 b (addI .i64 (mulI .i64 2 c) 1))) fun y0 =>
 nthN d (Int.toNat (addI .i64 (addI .i64 b (addI .i64 (mulI .i64 2 c) 1)) 1)) fun y1 =>
 Option.bind (z06 y0 y1) fun x2 =>
 bif ltB x2 0 then
 nth d (addI .i64 b c) fun _ =>
 nth d (addI .i64 b (addI .i64 (addI .i64 (mulI .i64 2 c) 1) 1)) fun _ =>
 nthN d (Int.toNat (addI .i64 b c)) fun y3 =>
 nthN d (Int.toNat (addI .i64 b (addI .i64 (addI .i64 (mulI .i64 2 c) 1) 1))) fun y4 =>
 Option.bind (z06 y3 y4) fun x5 =>
 bif !(ltB x5 0) then
 some d
 else
 nth d (addI .i64 b (addI .i64 (addI .i64 (mulI .i64 2 c) 1) 1)) fun _ =>
 nth d (addI .i64 b c) fun _ =>
 nthN d (Int.toNat (addI .i64 b (addI .i64 (addI .i64 (mulI .i64 2 c) 1) 1))) fun y6 =>
 nthN d (Int.toNat (addI .i64 b c)) fun y7 =>
 nth d (addI .i64 b c) fun _ =>
 nthN d (Int.toNat (addI .i64 b c)) fun _y8 =>
 nth (List.set d (Int.toNat (addI .i64 b c)) y6) (addI .i64 b (addI .i64 (addI .i64 (mulI .i64 2 c) 1) 1)) fun _ =>
 nthN (List.set d (Int.toNat (addI .i64 b c)) y6) (Int.toNat (addI .i64 b (addI .i64 (addI .i64 (mulI .i64 2 c) 1) 1))) fun _y9 =>
 z0d a b (addI .i64 (addI .i64 (mulI .i64 2 c) 1) 1) (List.set (List.set d (Int.toNat (addI .i64 b c)) y6) (Int.toNat (addI .i64 b (addI .i64 (addI .i64 (mulI .i64 2 c) 1) 1))) y7)
 else
 nth d (addI .i64 b c) fun _ =>
 nth d (addI .i64 b (addI .i64 (mulI .i64 2 c) 1)) fun _ =>
 nthN d (Int.toNat (addI .i64 b c)) fun y10 =>
 nthN d (Int.toNat (addI .i64 b (addI .i64 (mulI .i64 2 c) 1))) fun y11 =>
 Option.bind (z06 y10 y11) fun x12 =>
 bif !(ltB x12 0) then
 some d
 else
 nth d (addI .i64 b (addI .i64 (mulI .i64 2 c) 1)) fun _ =>
 nth d (addI .i64 b c) fun _ =>
 nthN d (Int.toNat (addI .i64 b (addI .i64 (mulI .i64 2 c) 1))) fun y13 =>
 nthN d (Int.toNat (addI .i64 b c)) fun y14 =>
 nth d (addI .i64 b c) fun _ =>
 nthN d (Int.toNat (addI .i64 b c)) fun _y15 =>
 nth (List.set d (Int.toNat (addI .i64 b c)) y13) (addI .i64 b (addI .i64 (mulI .i64 2 c) 1)) fun _ =>
 nthN (List.set d (Int.toNat (addI .i64 b c)) y13) (Int.toNat (addI .i64 b (addI .i64 (mulI .i64 2 c) 1))) fun _y16 =>
 z0d a b (addI .i64 (mulI .i64 2 c) 1) (List.set (List.set d (Int.toNat (addI .i64 b c)) y13) (Int.toNat (addI .i64 b (addI .i64 (mulI .i64 2 c) 1))) y14)
 else
 nth d (addI .i64 b c) fun _ =>
 nth d (addI .i64 b (addI .i64 (mulI .i64 2 c) 1)) fun _ =>
 nthN d (Int.toNat (addI .i64 b c)) fun y17 =>
 nthN d (Int.toNat (addI .i64 b (addI .i64 (mulI .i64 2 c) 1))) fun y18 =>
 Option.bind (z06 y17 y18) fun x19 =>
 bif !(ltB x19 0) then
 some d
 else
 nth d (addI .i64 b (addI .i64 (mulI .i64 2 c) 1)) fun _ =>
 nth d (addI .i64 b c) fun _ =>
 nthN d (Int.toNat (addI .i64 b (addI .i64 (mulI .i64 2 c) 1))) fun y20 =>
 nthN d (Int.toNat (addI .i64 b c)) fun y21 =>
 nth d (addI .i64 b c) fun _ =>
 nthN d (Int.toNat (addI .i64 b c)) fun _y22 =>
 nth (List.set d (Int.toNat (addI .i64 b c)) y20) (addI .i64 b (addI .i64 (mulI .i64 2 c) 1)) fun _ =>
 nthN (List.set d (Int.toNat (addI .i64 b c)) y20) (Int.toNat (addI .i64 b (addI .i64 (mulI .i64 2 c) 1))) fun _y23 =>
 z0d a b (addI .i64 (mulI .i64 2 c) 1) (List.set (List.set d (Int.toNat (addI .i64 b c)) y20) (Int.toNat (addI .i64 b (addI .i64 (mulI .i64 2 c) 1))) y21)
 ) :=
 gL o2' (q0b Tryz.f219 [1,0,0])
theorem y6s a b c d e f : eL (z0x a b c d e f) (
 bif ltB c b then
 nth f c fun _ =>
 nth f (subI .i64 c 1) fun _ =>
 nthN f (Int.toNat c) fun y0 =>
 nthN f (Int.toNat (subI .i64 c 1)) fun y1 =>
 Option.bind (z06 y0 y1) fun x2 =>
 bif !(ltB x2 0) then
 z0j a b (addI .i64 c 1) d f
 else
 bif eqB c b then
 some (true, f)
 else
 bif ltB (subI .i64 b a) 50 then
 some (false, f)
 else
 nth f (subI .i64 c 1) fun _ =>
 nth f c fun _ =>
 nthN f (Int.toNat (subI .i64 c 1)) fun y3 =>
 nthN f (Int.toNat c) fun y4 =>
 nth f c fun _ =>
 nthN f (Int.toNat c) fun _y5 =>
 nth (List.set f (Int.toNat c) y3) (subI .i64 c 1) fun _ =>
 nthN (List.set f (Int.toNat c) y3) (Int.toNat (subI .i64 c 1)) fun _y6 =>
 bif leB 2 (subI .i64 c a) then
 z08 a b c d (subI .i64 c 1) (List.set (List.set f (Int.toNat c) y3) (Int.toNat (subI .i64 c 1)) y4)
 else
 bif leB 2 (subI .i64 b c) then
 z05 a b c d (addI .i64 c 1) (List.set (List.set f (Int.toNat c) y3) (Int.toNat (subI .i64 c 1)) y4)
 else
 z03 a b c (addI .i64 d 1) (List.set (List.set f (Int.toNat c) y3) (Int.toNat (subI .i64 c 1)) y4)
 else
 bif eqB c b then
 some (true, f)
 else
 bif ltB (subI .i64 b a) 50 then
 some (false, f)
 else
 nth f (subI .i64 c 1) fun _ =>
 nth f c fun _ =>
 nthN f (Int.toNat (subI .i64 c 1)) fun y7 =>
 nthN f (Int.toNat c) fun y8 =>
 nth f c fun _ =>
 nthN f (Int.toNat c) fun _y9 =>
 nth (List.set f (Int.toNat c) y7) (subI .i64 c 1) fun _ =>
 nthN (List.set f (Int.toNat c) y7) (Int.toNat (subI .i64 c 1)) fun _y10 =>
 bif leB 2 (subI .i64 c a) then
 z08 a b c d (subI .i64 c 1) (List.set (List.set f (Int.toNat c) y7) (Int.toNat (subI .i64 c 1)) y8)
 else
 bif leB 2 (subI .i64 b c) then
 z05 a b c d (addI .i64 c 1) (List.set (List.set f (Int.toNat c) y7) (Int.toNat (subI .i64 c 1)) y8)
 else
 z03 a b c (addI .i64 d 1) (List.set (List.set f (Int.toNat c) y7) (Int.toNat (subI .i64 c 1)) y8)
 ) :=
 gL o8' (q0b Tryz.f206 [1,1,0,1,0,0,1,0,0,0,0,0])
theorem y5f a b c d : eL (z0t a b c d) (
 bif leB b c then
 nth d a fun _ =>
 nth d b fun _ =>
 nthN d (Int.toNat a) fun y0 =>
 nthN d (Int.toNat b) fun y1 =>
 Option.bind (z06 y0 y1) fun x2 =>
 bif !(ltB x2 0) then
 z0t a (addI .i64 b 1) c d
 else
 z0h a b c false d
 else
 z0h a b c false d
 ) :=
 gL o9' (q0b Tryz.f207 [1,1,1,0,0,0,0,0,0,0])
theorem y6k a b c d e : eL (z0n a b c d e) (
 bif leB b c then
 nth e c fun _ =>
 nth e a fun _ =>
 nthN e (Int.toNat c) fun y0 =>
 nthN e (Int.toNat a) fun y1 =>
 Option.bind (z06 y0 y1) fun x2 =>
 bif !(ltB x2 0) then
 z11 a b (subI .i64 c 1) e
 else
 bif ltB c b then
 nth e a fun _ =>
 nth e c fun _ =>
 nthN e (Int.toNat a) fun y3 =>
 nthN e (Int.toNat c) fun y4 =>
 nth e c fun _ =>
 nthN e (Int.toNat c) fun _y5 =>
 nth (List.set e (Int.toNat c) y3) a fun _ =>
 nthN (List.set e (Int.toNat c) y3) (Int.toNat a) fun _y6 =>
 some (c, true, (List.set (List.set e (Int.toNat c) y3) (Int.toNat a) y4))
 else
 nth e c fun _ =>
 nth e b fun _ =>
 nthN e (Int.toNat c) fun y7 =>
 nthN e (Int.toNat b) fun y8 =>
 nth e b fun _ =>
 nthN e (Int.toNat b) fun _y9 =>
 nth (List.set e (Int.toNat b) y7) c fun _ =>
 nthN (List.set e (Int.toNat b) y7) (Int.toNat c) fun _y10 =>
 z07 a (addI .i64 b 1) (subI .i64 c 1) (List.set (List.set e (Int.toNat b) y7) (Int.toNat c) y8)
 else
 bif ltB c b then
 nth e a fun _ =>
 nth e c fun _ =>
 nthN e (Int.toNat a) fun y11 =>
 nthN e (Int.toNat c) fun y12 =>
 nth e c fun _ =>
 nthN e (Int.toNat c) fun _y13 =>
 nth (List.set e (Int.toNat c) y11) a fun _ =>
 nthN (List.set e (Int.toNat c) y11) (Int.toNat a) fun _y14 =>
 some (c, true, (List.set (List.set e (Int.toNat c) y11) (Int.toNat a) y12))
 else
 nth e c fun _ =>
 nth e b fun _ =>
 nthN e (Int.toNat c) fun y15 =>
 nthN e (Int.toNat b) fun y16 =>
 nth e b fun _ =>
 nthN e (Int.toNat b) fun _y17 =>
 nth (List.set e (Int.toNat b) y15) c fun _ =>
 nthN (List.set e (Int.toNat b) y15) (Int.toNat c) fun _y18 =>
 z07 a (addI .i64 b 1) (subI .i64 c 1) (List.set (List.set e (Int.toNat b) y15) (Int.toNat c) y16)
 ) :=
 gL o4' (q0b Tryz.f208 [1,1,1,1,0,0,0])
theorem y6x a b c d e : eL (z0j a b c d e) (
 bif ltB c b then
 nth e c fun _ =>
 nth e (subI .i64 c 1) fun _ =>
 nthN e (Int.toNat c) fun y0 =>
 nthN e (Int.toNat (subI .i64 c 1)) fun y1 =>
 Option.bind (z06 y0 y1) fun x2 =>
 bif !(ltB x2 0) then
 z0j a b (addI .i64 c 1) d e
 else
 bif eqB c b then
 some (true, e)
 else
 bif ltB (subI .i64 b a) 50 then
 some (false, e)
 else
 nth e (subI .i64 c 1) fun _ =>
 nth e c fun _ =>
 nthN e (Int.toNat (subI .i64 c 1)) fun y3 =>
 nthN e (Int.toNat c) fun y4 =>
 nth e c fun _ =>
 nthN e (Int.toNat c) fun _y5 =>
 nth (List.set e (Int.toNat c) y3) (subI .i64 c 1) fun _ =>
 nthN (List.set e (Int.toNat c) y3) (Int.toNat (subI .i64 c 1)) fun _y6 =>
 bif leB 2 (subI .i64 c a) then
 z08 a b c d (subI .i64 c 1) (List.set (List.set e (Int.toNat c) y3) (Int.toNat (subI .i64 c 1)) y4)
 else
 bif leB 2 (subI .i64 b c) then
 z05 a b c d (addI .i64 c 1) (List.set (List.set e (Int.toNat c) y3) (Int.toNat (subI .i64 c 1)) y4)
 else
 z03 a b c (addI .i64 d 1) (List.set (List.set e (Int.toNat c) y3) (Int.toNat (subI .i64 c 1)) y4)
 else
 bif eqB c b then
 some (true, e)
 else
 bif ltB (subI .i64 b a) 50 then
 some (false, e)
 else
 nth e (subI .i64 c 1) fun _ =>
 nth e c fun _ =>
 nthN e (Int.toNat (subI .i64 c 1)) fun y7 =>
 nthN e (Int.toNat c) fun y8 =>
 nth e c fun _ =>
 nthN e (Int.toNat c) fun _y9 =>
 nth (List.set e (Int.toNat c) y7) (subI .i64 c 1) fun _ =>
 nthN (List.set e (Int.toNat c) y7) (Int.toNat (subI .i64 c 1)) fun _y10 =>
 bif leB 2 (subI .i64 c a) then
 z08 a b c d (subI .i64 c 1) (List.set (List.set e (Int.toNat c) y7) (Int.toNat (subI .i64 c 1)) y8)
 else
 bif leB 2 (subI .i64 b c) then
 z05 a b c d (addI .i64 c 1) (List.set (List.set e (Int.toNat c) y7) (Int.toNat (subI .i64 c 1)) y8)
 else
 z03 a b c (addI .i64 d 1) (List.set (List.set e (Int.toNat c) y7) (Int.toNat (subI .i64 c 1)) y8)
 ) :=
 gL o8' (q0b Tryz.f206 [1,1,0,1,0,0,1,0,0,0,0,0])
theorem y33 a b c d e f : eL (z08 a b c d e f) (
 bif leB 1 e then
 nth f e fun _ =>
 nth f (subI .i64 e 1) fun _ =>
 nthN f (Int.toNat e) fun y0 =>
 nthN f (Int.toNat (subI .i64 e 1)) fun y1 =>
 Option.bind (z06 y0 y1) fun x2 =>
 bif !(ltB x2 0) then
 bif leB 2 (subI .i64 b c) then
 z05 a b c d (addI .i64 c 1) f
 else
 z03 a b c (addI .i64 d 1) f
 else
 nth f (subI .i64 e 1) fun _ =>
 nth f e fun _ =>
 nthN f (Int.toNat (subI .i64 e 1)) fun y3 =>
 nthN f (Int.toNat e) fun y4 =>
 nth f e fun _ =>
 nthN f (Int.toNat e) fun _y5 =>
 nth (List.set f (Int.toNat e) y3) (subI .i64 e 1) fun _ =>
 nthN (List.set f (Int.toNat e) y3) (Int.toNat (subI .i64 e 1)) fun _y6 =>
 z08 a b c d (subI .i64 e 1) (List.set (List.set f (Int.toNat e) y3) (Int.toNat (subI .i64 e 1)) y4)
 else
 bif leB 2 (subI .i64 b c) then
 z05 a b c d (addI .i64 c 1) f
 else
 z03 a b c (addI .i64 d 1) f
 ) :=
 gL o8' (q0b Tryz.f206 [1,1,0,1,0,0,1,0,0,1,1,1,1,0,1,0,1,0,0])
theorem y5v a b c d e f : eL (z05 a b c d e f) (
 bif ltB e b then
 nth f e fun _ =>
 nth f (subI .i64 e 1) fun _ =>
 nthN f (Int.toNat e) fun y0 =>
 nthN f (Int.toNat (subI .i64 e 1)) fun y1 =>
 Option.bind (z06 y0 y1) fun x2 =>
 bif !(ltB x2 0) then
 z03 a b c (addI .i64 d 1) f
 else
 nth f (subI .i64 e 1) fun _ =>
 nth f e fun _ =>
 nthN f (Int.toNat (subI .i64 e 1)) fun y3 =>
 nthN f (Int.toNat e) fun y4 =>
 nth f e fun _ =>
 nthN f (Int.toNat e) fun _y5 =>
 nth (List.set f (Int.toNat e) y3) (subI .i64 e 1) fun _ =>
 nthN (List.set f (Int.toNat e) y3) (Int.toNat (subI .i64 e 1)) fun _y6 =>
 z05 a b c d (addI .i64 e 1) (List.set (List.set f (Int.toNat e) y3) (Int.toNat (subI .i64 e 1)) y4)
 else
 z03 a b c (addI .i64 d 1) f
 ) :=
 gL o8' (q0b Tryz.f206 [1,1,0,1,0,0,1,0,0,1,1,1,1,1,1,0,1,0,0])
theorem y8f a b c d e : eL (z0h a b c d e) (
 bif leB b c then
 nth e a fun _ =>
 nth e c fun _ =>
 nthN e (Int.toNat a) fun y0 =>
 nthN e (Int.toNat c) fun y1 =>
 Option.bind (z06 y0 y1) fun x2 =>
 bif ltB x2 0 then
 z0u a b (subI .i64 c 1) e
 else
 bif ltB c b then
 some (b, e)
 else
 nth e c fun _ =>
 nth e b fun _ =>
 nthN e (Int.toNat c) fun y3 =>
 nthN e (Int.toNat b) fun y4 =>
 nth e b fun _ =>
 nthN e (Int.toNat b) fun _y5 =>
 nth (List.set e (Int.toNat b) y3) c fun _ =>
 nthN (List.set e (Int.toNat b) y3) (Int.toNat c) fun _y6 =>
 z0a a (addI .i64 b 1) (subI .i64 c 1) (List.set (List.set e (Int.toNat b) y3) (Int.toNat c) y4)
 else
 bif ltB c b then
 some (b, e)
 else
 nth e c fun _ =>
 nth e b fun _ =>
 nthN e (Int.toNat c) fun y7 =>
 nthN e (Int.toNat b) fun y8 =>
 nth e b fun _ =>
 nthN e (Int.toNat b) fun _y9 =>
 nth (List.set e (Int.toNat b) y7) c fun _ =>
 nthN (List.set e (Int.toNat b) y7) (Int.toNat c) fun _y10 =>
 z0a a (addI .i64 b 1) (subI .i64 c 1) (List.set (List.set e (Int.toNat b) y7) (Int.toNat c) y8)
 ) :=
 gL o9' (q0b Tryz.f207 [1,1,1,0,0,0,0,1,0,0,0])
theorem y8h a b c d : eL (z11 a b c d) (
 bif leB b c then
 nth d c fun _ =>
 nth d a fun _ =>
 nthN d (Int.toNat c) fun y0 =>
 nthN d (Int.toNat a) fun y1 =>
 Option.bind (z06 y0 y1) fun x2 =>
 bif !(ltB x2 0) then
 z11 a b (subI .i64 c 1) d
 else
 bif ltB c b then
 nth d a fun _ =>
 nth d c fun _ =>
 nthN d (Int.toNat a) fun y3 =>
 nthN d (Int.toNat c) fun y4 =>
 nth d c fun _ =>
 nthN d (Int.toNat c) fun _y5 =>
 nth (List.set d (Int.toNat c) y3) a fun _ =>
 nthN (List.set d (Int.toNat c) y3) (Int.toNat a) fun _y6 =>
 some (c, true, (List.set (List.set d (Int.toNat c) y3) (Int.toNat a) y4))
 else
 nth d c fun _ =>
 nth d b fun _ =>
 nthN d (Int.toNat c) fun y7 =>
 nthN d (Int.toNat b) fun y8 =>
 nth d b fun _ =>
 nthN d (Int.toNat b) fun _y9 =>
 nth (List.set d (Int.toNat b) y7) c fun _ =>
 nthN (List.set d (Int.toNat b) y7) (Int.toNat c) fun _y10 =>
 z07 a (addI .i64 b 1) (subI .i64 c 1) (List.set (List.set d (Int.toNat b) y7) (Int.toNat c) y8)
 else
 bif ltB c b then
 nth d a fun _ =>
 nth d c fun _ =>
 nthN d (Int.toNat a) fun y11 =>
 nthN d (Int.toNat c) fun y12 =>
 nth d c fun _ =>
 nthN d (Int.toNat c) fun _y13 =>
 nth (List.set d (Int.toNat c) y11) a fun _ =>
 nthN (List.set d (Int.toNat c) y11) (Int.toNat a) fun _y14 =>
 some (c, true, (List.set (List.set d (Int.toNat c) y11) (Int.toNat a) y12))
 else
 nth d c fun _ =>
 nth d b fun _ =>
 nthN d (Int.toNat c) fun y15 =>
 nthN d (Int.toNat b) fun y16 =>
 nth d b fun _ =>
 nthN d (Int.toNat b) fun _y17 =>
 nth (List.set d (Int.toNat b) y15) c fun _ =>
 nthN (List.set d (Int.toNat b) y15) (Int.toNat c) fun _y18 =>
 z07 a (addI .i64 b 1) (subI .i64 c 1) (List.set (List.set d (Int.toNat b) y15) (Int.toNat c) y16)
 ) :=
 gL o4' (q0b Tryz.f208 [1,1,1,1,0,0,0])
theorem y6l a b c d : eL (z07 a b c d) (
 z12 a b c d
 ) :=
 gL o4' (q0b Tryz.f208 [1,1,1,1,1,1,1,1,1,0,0,0])
theorem y8j a b c d : eL (z0u a b c d) (
 bif leB b c then
 nth d a fun _ =>
 nth d c fun _ =>
 nthN d (Int.toNat a) fun y0 =>
 nthN d (Int.toNat c) fun y1 =>
 Option.bind (z06 y0 y1) fun x2 =>
 bif ltB x2 0 then
 z0u a b (subI .i64 c 1) d
 else
 bif ltB c b then
 some (b, d)
 else
 nth d c fun _ =>
 nth d b fun _ =>
 nthN d (Int.toNat c) fun y3 =>
 nthN d (Int.toNat b) fun y4 =>
 nth d b fun _ =>
 nthN d (Int.toNat b) fun _y5 =>
 nth (List.set d (Int.toNat b) y3) c fun _ =>
 nthN (List.set d (Int.toNat b) y3) (Int.toNat c) fun _y6 =>
 z0a a (addI .i64 b 1) (subI .i64 c 1) (List.set (List.set d (Int.toNat b) y3) (Int.toNat c) y4)
 else
 bif ltB c b then
 some (b, d)
 else
 nth d c fun _ =>
 nth d b fun _ =>
 nthN d (Int.toNat c) fun y7 =>
 nthN d (Int.toNat b) fun y8 =>
 nth d b fun _ =>
 nthN d (Int.toNat b) fun _y9 =>
 nth (List.set d (Int.toNat b) y7) c fun _ =>
 nthN (List.set d (Int.toNat b) y7) (Int.toNat c) fun _y10 =>
 z0a a (addI .i64 b 1) (subI .i64 c 1) (List.set (List.set d (Int.toNat b) y7) (Int.toNat c) y8)
 ) :=
 gL o9' (q0b Tryz.f207 [1,1,1,0,0,0,0,1,0,0,0])
theorem y6u a b c d : eL (z12 a b c d) (
 bif leB b c then
 nth d b fun _ =>
 nth d a fun _ =>
 nthN d (Int.toNat b) fun y0 =>
 nthN d (Int.toNat a) fun y1 =>
 Option.bind (z06 y0 y1) fun x2 =>
 bif ltB x2 0 then
 z12 a (addI .i64 b 1) c d
 else
 z0o a b c false d
 else
 z0o a b c false d
 ) :=
 gL o4' (q0b Tryz.f208 [1,1,1,1,1,1,1,1,1,0,0,0,0,0,0,0])
theorem y8r a b c d e : eL (z0o a b c d e) (
 bif leB b c then
 nth e c fun _ =>
 nth e a fun _ =>
 nthN e (Int.toNat c) fun y0 =>
 nthN e (Int.toNat a) fun y1 =>
 Option.bind (z06 y0 y1) fun x2 =>
 bif !(ltB x2 0) then
 z13 a b (subI .i64 c 1) e
 else
 bif ltB c b then
 nth e a fun _ =>
 nth e c fun _ =>
 nthN e (Int.toNat a) fun y3 =>
 nthN e (Int.toNat c) fun y4 =>
 nth e c fun _ =>
 nthN e (Int.toNat c) fun _y5 =>
 nth (List.set e (Int.toNat c) y3) a fun _ =>
 nthN (List.set e (Int.toNat c) y3) (Int.toNat a) fun _y6 =>
 some (c, false, (List.set (List.set e (Int.toNat c) y3) (Int.toNat a) y4))
 else
 nth e c fun _ =>
 nth e b fun _ =>
 nthN e (Int.toNat c) fun y7 =>
 nthN e (Int.toNat b) fun y8 =>
 nth e b fun _ =>
 nthN e (Int.toNat b) fun _y9 =>
 nth (List.set e (Int.toNat b) y7) c fun _ =>
 nthN (List.set e (Int.toNat b) y7) (Int.toNat c) fun _y10 =>
 z07 a (addI .i64 b 1) (subI .i64 c 1) (List.set (List.set e (Int.toNat b) y7) (Int.toNat c) y8)
 else
 bif ltB c b then
 nth e a fun _ =>
 nth e c fun _ =>
 nthN e (Int.toNat a) fun y11 =>
 nthN e (Int.toNat c) fun y12 =>
 nth e c fun _ =>
 nthN e (Int.toNat c) fun _y13 =>
 nth (List.set e (Int.toNat c) y11) a fun _ =>
 nthN (List.set e (Int.toNat c) y11) (Int.toNat a) fun _y14 =>
 some (c, false, (List.set (List.set e (Int.toNat c) y11) (Int.toNat a) y12))
 else
 nth e c fun _ =>
 nth e b fun _ =>
 nthN e (Int.toNat c) fun y15 =>
 nthN e (Int.toNat b) fun y16 =>
 nth e b fun _ =>
 nthN e (Int.toNat b) fun _y17 =>
 nth (List.set e (Int.toNat b) y15) c fun _ =>
 nthN (List.set e (Int.toNat b) y15) (Int.toNat c) fun _y18 =>
 z07 a (addI .i64 b 1) (subI .i64 c 1) (List.set (List.set e (Int.toNat b) y15) (Int.toNat c) y16)
 ) :=
 gL o4' (q0b Tryz.f208 [1,1,1,1,1,1,1,1,1,0,0,0,0,1,0,0,0])
theorem y61 a b c d : eL (z13 a b c d) (
 bif leB b c then
 nth d c fun _ =>
 nth d a fun _ =>
 nthN d (Int.toNat c) fun y0 =>
 nthN d (Int.toNat a) fun y1 =>
 Option.bind (z06 y0 y1) fun x2 =>
 bif !(ltB x2 0) then
 z13 a b (subI .i64 c 1) d
 else
 bif ltB c b then
 nth d a fun _ =>
 nth d c fun _ =>
 nthN d (Int.toNat a) fun y3 =>
 nthN d (Int.toNat c) fun y4 =>
 nth d c fun _ =>
 nthN d (Int.toNat c) fun _y5 =>
 nth (List.set d (Int.toNat c) y3) a fun _ =>
 nthN (List.set d (Int.toNat c) y3) (Int.toNat a) fun _y6 =>
 some (c, false, (List.set (List.set d (Int.toNat c) y3) (Int.toNat a) y4))
 else
 nth d c fun _ =>
 nth d b fun _ =>
 nthN d (Int.toNat c) fun y7 =>
 nthN d (Int.toNat b) fun y8 =>
 nth d b fun _ =>
 nthN d (Int.toNat b) fun _y9 =>
 nth (List.set d (Int.toNat b) y7) c fun _ =>
 nthN (List.set d (Int.toNat b) y7) (Int.toNat c) fun _y10 =>
 z07 a (addI .i64 b 1) (subI .i64 c 1) (List.set (List.set d (Int.toNat b) y7) (Int.toNat c) y8)
 else
 bif ltB c b then
 nth d a fun _ =>
 nth d c fun _ =>
 nthN d (Int.toNat a) fun y11 =>
 nthN d (Int.toNat c) fun y12 =>
 nth d c fun _ =>
 nthN d (Int.toNat c) fun _y13 =>
 nth (List.set d (Int.toNat c) y11) a fun _ =>
 nthN (List.set d (Int.toNat c) y11) (Int.toNat a) fun _y14 =>
 some (c, false, (List.set (List.set d (Int.toNat c) y11) (Int.toNat a) y12))
 else
 nth d c fun _ =>
 nth d b fun _ =>
 nthN d (Int.toNat c) fun y15 =>
 nthN d (Int.toNat b) fun y16 =>
 nth d b fun _ =>
 nthN d (Int.toNat b) fun _y17 =>
 nth (List.set d (Int.toNat b) y15) c fun _ =>
 nthN (List.set d (Int.toNat b) y15) (Int.toNat c) fun _y18 =>
 z07 a (addI .i64 b 1) (subI .i64 c 1) (List.set (List.set d (Int.toNat b) y15) (Int.toNat c) y16)
 ) :=
 gL o4' (q0b Tryz.f208 [1,1,1,1,1,1,1,1,1,0,0,0,0,1,0,0,0])
end Go.Proofs.YtglokalgdbegeaaGreat
