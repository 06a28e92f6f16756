/- What the functions come to, printed by a program and checked by the kernel. -/
import Derived.Test.YthbpagedblodfaaGreatP19Df
namespace Go.Proofs.YthbpagedblodfaaGreat
open Go Go.Ab
set_option maxRecDepth 100000
theorem y9q a b c d : eL (z06 a b c d) (
 z14 a b c d
 ) :=
 gL o7' (q09 Tryz.f163 [1,1,1,1,1,1,1,1,1,0,0,0])
theorem y7l a b c d e f g h : eL (z4h a b c d e f g h) (
 bif c then
 Option.bind (z6x a) fun x0 =>
 z27 a b false x0 (x0.length : Int) 0 h
 else
 some b
 ) :=
 gL o8' (q09 Tryz.f112 [1,1,1,1,0,1,0,0])
theorem y8i a b c d : eL (z0u a b c d) (
 bif leB b c then
 nth d a fun _ =>
 nth d c fun _ =>
 nthN d (Int.toNat a) fun y0 =>
 nthN d (Int.toNat c) fun y1 =>
 Option.bind (z09 y0 y1) fun x2 =>
 bif ltB x2 0 then
 z0u a b (subI .i64 c 1) d
 else
 bif ltB c b then
 some (b, d)
 else
 nth d c fun _ =>
 nth d b fun _ =>
 nthN d (Int.toNat c) fun y3 =>
 nthN d (Int.toNat b) fun y4 =>
 nth d b fun _ =>
 nthN d (Int.toNat b) fun _y5 =>
 nth (List.set d (Int.toNat b) y3) c fun _ =>
 nthN (List.set d (Int.toNat b) y3) (Int.toNat c) fun _y6 =>
 z0a a (addI .i64 b 1) (subI .i64 c 1) (List.set (List.set d (Int.toNat b) y3) (Int.toNat c) y4)
 else
 bif ltB c b then
 some (b, d)
 else
 nth d c fun _ =>
 nth d b fun _ =>
 nthN d (Int.toNat c) fun y7 =>
 nthN d (Int.toNat b) fun y8 =>
 nth d b fun _ =>
 nthN d (Int.toNat b) fun _y9 =>
 nth (List.set d (Int.toNat b) y7) c fun _ =>
 nthN (List.set d (Int.toNat b) y7) (Int.toNat c) fun _y10 =>
 z0a a (addI .i64 b 1) (subI .i64 c 1) (List.set (List.set d (Int.toNat b) y7) (Int.toNat c) y8)
 ) :=
 gL o9' (q09 Tryz.f162 [1,1,1,0,0,0,0,1,0,0,0])
theorem y6b a b c d : eL (z14 a b c d) (
 bif leB b c then
 nth d b fun _ =>
 nth d a fun _ =>
 nthN d (Int.toNat b) fun y0 =>
 nthN d (Int.toNat a) fun y1 =>
 Option.bind (z09 y0 y1) fun x2 =>
 bif ltB x2 0 then
 z14 a (addI .i64 b 1) c d
 else
 z0o a b c false d
 else
 z0o a b c false d
 ) :=
 gL o7' (q09 Tryz.f163 [1,1,1,1,1,1,1,1,1,0,0,0,0,0,0,0])
theorem y6s a b c d e : eL (z0o a b c d e) (
 bif leB b c then
 nth e c fun _ =>
 nth e a fun _ =>
 nthN e (Int.toNat c) fun y0 =>
 nthN e (Int.toNat a) fun y1 =>
 Option.bind (z09 y0 y1) fun x2 =>
 bif !(ltB x2 0) then
 z15 a b (subI .i64 c 1) e
 else
 bif ltB c b then
 nth e a fun _ =>
 nth e c fun _ =>
 nthN e (Int.toNat a) fun y3 =>
 nthN e (Int.toNat c) fun y4 =>
 nth e c fun _ =>
 nthN e (Int.toNat c) fun _y5 =>
 nth (List.set e (Int.toNat c) y3) a fun _ =>
 nthN (List.set e (Int.toNat c) y3) (Int.toNat a) fun _y6 =>
 some (c, false, (List.set (List.set e (Int.toNat c) y3) (Int.toNat a) y4))
 else
 nth e c fun _ =>
 nth e b fun _ =>
 nthN e (Int.toNat c) fun y7 =>
 nthN e (Int.toNat b) fun y8 =>
 nth e b fun _ =>
 nthN e (Int.toNat b) fun _y9 =>
 nth (List.set e (Int.toNat b) y7) c fun _ =>
 nthN (List.set e (Int.toNat b) y7) (Int.toNat c) fun _y10 =>
 z06 a (addI .i64 b 1) (subI .i64 c 1) (List.set (List.set e (Int.toNat b) y7) (Int.toNat c) y8)
 else
 bif ltB c b then
 nth e a fun _ =>
 nth e c fun _ =>
 nthN e (Int.toNat a) fun y11 =>
 nthN e (Int.toNat c) fun y12 =>
 nth e c fun _ =>
 nthN e (Int.toNat c) fun _y13 =>
 nth (List.set e (Int.toNat c) y11) a fun _ =>
 nthN (List.set e (Int.toNat c) y11) (Int.toNat a) fun _y14 =>
 some (c, false, (List.set (List.set e (Int.toNat c) y11) (Int.toNat a) y12))
 else
 nth e c fun _ =>
 nth e b fun _ =>
 nthN e (Int.toNat c) fun y15 =>
 nthN e (Int.toNat b) fun y16 =>
 nth e b fun _ =>
 nthN e (Int.toNat b) fun _y17 =>
 nth (List.set e (Int.toNat b) y15) c fun _ =>
 nthN (List.set e (Int.toNat b) y15) (Int.toNat c) fun _y18 =>
 z06 a (addI .i64 b 1) (subI .i64 c 1) (List.set (List.set e (Int.toNat b) y15) (Int.toNat c) y16)
 ) :=
 gL o7' (q09 Tryz.f163 [1,1,1,1,1,1,1,1,1,0,0,0,0,1,0,0,0])
theorem y9j a b c d : eL (z15 a b c d) (
 bif leB b c then
 nth d c fun _ =>
 nth d a fun _ =>
 nthN d (Int.toNat c) fun y0 =>
 nthN d (Int.toNat a) fun y1 =>
 Option.bind (z09 y0 y1) fun x2 =>
 bif !(ltB x2 0) then
 z15 a b (subI .i64 c 1) d
 else
 bif ltB c b then
 nth d a fun _ =>
 nth d c fun _ =>
 nthN d (Int.toNat a) fun y3 =>
 nthN d (Int.toNat c) fun y4 =>
 nth d c fun _ =>
 nthN d (Int.toNat c) fun _y5 =>
 nth (List.set d (Int.toNat c) y3) a fun _ =>
 nthN (List.set d (Int.toNat c) y3) (Int.toNat a) fun _y6 =>
 some (c, false, (List.set (List.set d (Int.toNat c) y3) (Int.toNat a) y4))
 else
 nth d c fun _ =>
 nth d b fun _ =>
 nthN d (Int.toNat c) fun y7 =>
 nthN d (Int.toNat b) fun y8 =>
 nth d b fun _ =>
 nthN d (Int.toNat b) fun _y9 =>
 nth (List.set d (Int.toNat b) y7) c fun _ =>
 nthN (List.set d (Int.toNat b) y7) (Int.toNat c) fun _y10 =>
 z06 a (addI .i64 b 1) (subI .i64 c 1) (List.set (List.set d (Int.toNat b) y7) (Int.toNat c) y8)
 else
 bif ltB c b then
 nth d a fun _ =>
 nth d c fun _ =>
 nthN d (Int.toNat a) fun y11 =>
 nthN d (Int.toNat c) fun y12 =>
 nth d c fun _ =>
 nthN d (Int.toNat c) fun _y13 =>
 nth (List.set d (Int.toNat c) y11) a fun _ =>
 nthN (List.set d (Int.toNat c) y11) (Int.toNat a) fun _y14 =>
 some (c, false, (List.set (List.set d (Int.toNat c) y11) (Int.toNat a) y12))
 else
 nth d c fun _ =>
 nth d b fun _ =>
 nthN d (Int.toNat c) fun y15 =>
 nthN d (Int.toNat b) fun y16 =>
 nth d b fun _ =>
 nthN d (Int.toNat b) fun _y17 =>
 nth (List.set d (Int.toNat b) y15) c fun _ =>
 nthN (List.set d (Int.toNat b) y15) (Int.toNat c) fun _y18 =>
 z06 a (addI .i64 b 1) (subI .i64 c 1) (List.set (List.set d (Int.toNat b) y15) (Int.toNat c) y16)
 ) :=
 gL o7' (q09 Tryz.f163 [1,1,1,1,1,1,1,1,1,0,0,0,0,1,0,0,0])
end Go.Proofs.YthbpagedblodfaaGreat
