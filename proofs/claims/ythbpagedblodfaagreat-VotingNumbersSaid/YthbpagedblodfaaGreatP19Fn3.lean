/- What the functions come to, printed by a program and checked by the kernel. -/
import Derived.Test.YthbpagedblodfaaGreatP19Df
namespace Go.Proofs.YthbpagedblodfaaGreat
open Go Go.Ab
set_option maxRecDepth 100000
theorem qzw (a2 : List Trust) (a4 a6 a8 : Int) (a10 : List Int) (a12 : List Trust) (a14 : Int) (a16 : List Int) (a18 : List Trust) (a20 : Int) (a22 : List Int) (a24 : List Trust) : Le (
 bif ltB a6 a4 then
 nth a2 a6 fun y0 =>
 Option.bind (z4g y0) fun x1 =>
 capOk (List.length a24 + List.length ([(Trust.mk x1.Threshold x1.Nodes x1.Inner)] : List Trust)) <|
 z3s a2 a4 (addI .i64 a6 1) a8 a10 a12 a14 a16 a18 a20 a22 (a24 ++ ([(Trust.mk x1.Threshold x1.Nodes x1.Inner)] : List Trust))
 else
 some (Trust.mk a20 a22 a24)
 ) (z3s a2 a4 a6 a8 a10 a12 a14 a16 a18 a20 a22 a24) :=
 gL o12' (q08 Tryz.f46 [1,1,0,1,0,0])
theorem qqs (a1 : List Message) (a3 a5 a7 a9 a11 : Int) (a13 : List Int) (a15 : List Trust) (a17 a19 a21 : List Claim) (a23 : List Message) : Le (
 bif ltB a5 a3 then
 nth a1 a5 fun y0 =>
 Option.bind (z2u y0) fun x1 =>
 bif !x1 then
 some false
 else
 bif eqB y0.Node a7 then
 some false
 else
 bif ltB 0 a5 then
 nth a23 (subI .i64 a5 1) fun y2 =>
 bif leB y0.Node y2.Node then
 some false
 else
 z23 a1 a3 (addI .i64 a5 1) a7 a9 a11 a13 a15 a17 a19 a21 a23
 else
 z23 a1 a3 (addI .i64 a5 1) a7 a9 a11 a13 a15 a17 a19 a21 a23
 else
 some true
 ) (z23 a1 a3 a5 a7 a9 a11 a13 a15 a17 a19 a21 a23) :=
 gL o0' (q08 Tryz.f34 [1,1,1,1,0,1,0,0])
theorem qzz (a2 : List Message) (a4 a6 a8 a10 a12 : Int) (a14 : List Int) (a16 : List Trust) (a18 a20 a22 : List Claim) (a24 : List Message) (a26 a28 a30 : Int) (a32 : List Int) (a34 : List Trust) (a36 a38 a40 : List Claim) (a42 : List Message) : Le (
 bif ltB a6 a4 then
 nth a2 a6 fun y0 =>
 Option.bind (z34 y0) fun x1 =>
 capOk (List.length a24 + List.length ([(Message.mk x1.Node x1.Seq (Trust.mk x1.Trust.Threshold x1.Trust.Nodes x1.Trust.Inner) x1.Votes x1.Accepts)] : List Message)) <|
 z3t a2 a4 (addI .i64 a6 1) a8 a10 a12 a14 a16 a18 a20 a22 (a24 ++ ([(Message.mk x1.Node x1.Seq (Trust.mk x1.Trust.Threshold x1.Trust.Nodes x1.Trust.Inner) x1.Votes x1.Accepts)] : List Message)) a26 a28 a30 a32 a34 a36 a38 a40 a42
 else
 some (Voter.mk a8 a10 (Trust.mk a12 a14 a16) a18 a20 a22 a24)
 ) (z3t a2 a4 a6 a8 a10 a12 a14 a16 a18 a20 a22 a24 a26 a28 a30 a32 a34 a36 a38 a40 a42) :=
 gL o7' (q08 Tryz.f54 [1,1,1,1,0,1,0,0])
theorem y64 (a0 : List Message) (a2 a5 a7 a9 : Int) : Le (
 bif ltB a7 a9 then
 nth a0 (IntKind.wrap .i64 (shrI .u64 (IntKind.wrap .u64 (addI .i64 a7 a9)) 1)) fun y0 =>
 Option.bind (z5f y0 a2) fun x1 =>
 bif ltB x1 0 then
 z0f a0 a2 a5 (addI .i64 (IntKind.wrap .i64 (shrI .u64 (IntKind.wrap .u64 (addI .i64 a7 a9)) 1)) 1) a9
 else
 z0f a0 a2 a5 a7 (IntKind.wrap .i64 (shrI .u64 (IntKind.wrap .u64 (addI .i64 a7 a9)) 1))
 else
 bif ltB a7 a5 then
 nth a0 a7 fun y2 =>
 Option.bind (z5f y2 a2) fun x3 =>
 some (a7, (eqB x3 0))
 else
 some (a7, false)
 ) (z0f a0 a2 a5 a7 a9) :=
 gL o13' (q08 Tryz.f58 [1,1,1,0,0,0])
theorem y5e (x_0 : Message) (node_1 : Int) : Le (
 Option.bind (z3e x_0.Node node_1) fun x0 =>
 some x0
 ) (z5f x_0 node_1) :=
 cL o1' Tryz.func59
theorem y3m (x_0 y_1 : Int) : Le (
 Option.bind (z56 x_0) fun x0 =>
 Option.bind (z56 y_1) fun x1 =>
 bif x0 then
 bif x1 then
 some 0
 else
 some (-1)
 else
 bif x1 then
 some 1
 else
 bif ltB x_0 y_1 then
 some (-1)
 else
 bif ltB y_1 x_0 then
 some 1
 else
 some 0
 ) (z3e x_0 y_1) :=
 cL o1' Tryz.func60
theorem y78 (x_0 : Int) : Le (
 some (neB x_0 x_0)
 ) (z56 x_0) :=
 cL o0' Tryz.func106
theorem y19 (a1 : Int) (a3 : List Int) (a5 : Int) (a7 : List Int) (a9 : Int) : Le (
 bif ltB a5 a1 then
 capOk (List.length a3 + List.length ([a5] : List Int)) <|
 z3f a1 (a3 ++ ([a5] : List Int)) (addI .i64 a5 1) a7 a9
 else
 z3h a3 (subI .i64 a1 1) a7 a9
 ) (z3f a1 a3 a5 a7 a9) :=
 gL o17' (q08 Tryz.f13 [1,1,0,1,0,0])
theorem y0y (a0 : Int) (a2 : List Trust) (a4 a6 a8 : Int) (a10 : List Int) (a12 : List Trust) : Le (
 bif ltB a6 a4 then
 nth a2 a6 fun y0 =>
 Option.bind (z64 y0) fun x1 =>
 z45 (if x1 > a0 then x1 else a0) a2 a4 (addI .i64 a6 1) a8 a10 a12
 else
 some (addI .i64 a0 1)
 ) (z45 a0 a2 a4 a6 a8 a10 a12) :=
 gL o1' (q08 Tryz.f97 [1,1,0,1,0,0])
theorem y03 (a0 : Int) (a2 : List Trust) (a4 a6 a8 : Int) (a10 : List Int) (a12 : List Trust) : Le (
 bif ltB a6 a4 then
 nth a2 a6 fun y0 =>
 Option.bind (z6a y0) fun x1 =>
 z4n (addI .i64 a0 x1) a2 a4 (addI .i64 a6 1) a8 a10 a12
 else
 some a0
 ) (z4n a0 a2 a4 a6 a8 a10 a12) :=
 gL o1' (q08 Tryz.f98 [1,1,0,1,0,0])
theorem qi4 (a1 : List Int) (a3 a5 a7 : Int) (a9 : List Int) (a11 : List Trust) : Le (
 bif ltB a5 a3 then
 nth a1 a5 fun y0 =>
 bif ltB y0 0 then
 some 5
 else
 bif leB 10 y0 then
 some 5
 else
 z1z a1 a3 (addI .i64 a5 1) a7 a9 a11
 else
 Option.bind (z6i a9) fun x1 =>
 bif neB x1.2 0 then
 some x1.2
 else
 z20 a11 (a11.length : Int) 0 a7 a9 a11
 ) (z1z a1 a3 a5 a7 a9 a11) :=
 gL o1' (q08 Tryz.f99 [1,1,0,1,0,0])
theorem y06 (nodes_0 : List Int) : Le (
 z2h 0 nodes_0 (nodes_0.length : Int) 0
 ) (z6i nodes_0) :=
 cL o14' Tryz.func122
theorem y0n (a0 : Int) (a2 : List Trust) (a4 a6 a8 : Int) (a10 : List Int) (a12 : List Trust) : Le (
 bif ltB a6 a4 then
 nth a2 a6 fun y0 =>
 Option.bind (z4k y0) fun x1 =>
 z2y (if x1 > a0 then x1 else a0) a2 a4 (addI .i64 a6 1) a8 a10 a12
 else
 some (addI .i64 a0 1)
 ) (z2y a0 a2 a4 a6 a8 a10 a12) :=
 gL o1' (q08 Tryz.f93 [1,1,0,1,0,0])
theorem y0a (a0 : Int) (a2 : List Trust) (a4 a6 a8 : Int) (a10 : List Int) (a12 : List Trust) : Le (
 bif ltB a6 a4 then
 nth a2 a6 fun y0 =>
 Option.bind (z52 y0) fun x1 =>
 z39 (addI .i64 a0 x1) a2 a4 (addI .i64 a6 1) a8 a10 a12
 else
 some a0
 ) (z39 a0 a2 a4 a6 a8 a10 a12) :=
 gL o1' (q08 Tryz.f94 [1,1,0,1,0,0])
theorem y1r (a0 : List Trust) (a2 a4 a6 : Int) (a8 : List Int) (a10 : List Trust) : Le (
 bif ltB a4 a2 then
 nth a0 a4 fun y0 =>
 Option.bind (z4l y0) fun x1 =>
 bif neB x1 0 then
 some x1
 else
 z2z a0 a2 (addI .i64 a4 1) a6 a8 a10
 else
 some 0
 ) (z2z a0 a2 a4 a6 a8 a10) :=
 gL o1' (q08 Tryz.f95 [1,1,1,1,0,1,0,0])
theorem qrk (a0 a2 : List Claim) (a4 a6 : Int) : Le (
 bif ltB a6 a4 then
 nth a2 a6 fun y0 =>
 Option.bind (z5b y0) fun x1 =>
 bif !x1 then
 some false
 else
 bif ltB 0 a6 then
 nth a0 (subI .i64 a6 1) fun y2 =>
 Option.bind (z09 y2 y0) fun x3 =>
 bif leB 0 x3 then
 some false
 else
 z2f a0 a2 a4 (addI .i64 a6 1)
 else
 z2f a0 a2 a4 (addI .i64 a6 1)
 else
 some true
 ) (z2f a0 a2 a4 a6) :=
 gL o0' (q08 Tryz.f81 [1,0,1,0,0])
theorem y4m (a_0 b_1 : Claim) : Le (
 Option.bind (z3e a_0.Topic b_1.Topic) fun x0 =>
 Option.bind (z3e a_0.Value b_1.Value) fun x1 =>
 Option.bind (z6f ([x0, x1] : List Int)) fun x2 =>
 some x2
 ) (z09 a_0 b_1) :=
 cL o1' Tryz.func116
theorem y7w (vals_0 : List Int) : Le (
 z4a 0 vals_0 (vals_0.length : Int) 0
 ) (z6f vals_0) :=
 cL o1' Tryz.func133
theorem qvx (a0 : List Claim) (a3 a5 a7 a9 : Int) : Le (
 bif ltB a5 a3 then
 nth a0 a5 fun y0 =>
 Option.bind (z61 y0 a7 a9) fun x1 =>
 bif x1.1 then
 some (a5, x1.2.1, x1.2.2)
 else
 z0u a0 a3 (addI .i64 a5 1) x1.2.1 x1.2.2
 else
 some ((-1), a7, a9)
 ) (z0u a0 a3 a5 a7 a9) :=
 gL o23' (q08 Tryz.f100 [1,0,1,0,0])
theorem y6g (y_0 : Claim) (h0 h1 : Int) : Le (
 Option.bind (z4q (Claim.mk h0 h1) y_0) fun x0 =>
 some (x0, h0, h1)
 ) (z61 y_0 h0 h1) :=
 cL o21' Tryz.func50
theorem y4r (a_0 b_1 : Claim) : Le (
 bif eqB a_0.Topic b_1.Topic then
 some (neB a_0.Value b_1.Value)
 else
 some false
 ) (z4q a_0 b_1) :=
 cL o0' Tryz.func51
theorem y7p (a4 : Bool) (a6 a8 a10 : Int) (a12 : List Int) (a14 : List Trust) (a16 a18 a20 : List Claim) (a22 : List Message) (a24 a26 a28 : Int) (a30 : List Int) (a32 : List Trust) (a34 a36 a38 : List Claim) (a40 : List Message) (a42 : List Member) (a44 a46 : Int) : Le (
 bif a4 then
 Option.bind (z5x a18 (Claim.mk a44 a46)) fun x0 =>
 Option.bind (z5o (Voter.mk a6 a8 (Trust.mk a10 a12 a14) a16 x0 a20 a22) (Config.mk a42)) fun x1 =>
 z3z x1.2 a6 a8 a10 a12 a14 a16 x0 a20 a22 a24 a26 a28 a30 a32 a34 a36 a38 a40 a42 x1.1.Topic x1.1.Value
 else
 Option.bind (z1p a22) fun x2 =>
 Option.bind (z5y (Voter.mk a6 a8 (Trust.mk a10 a12 a14) a16 a18 a20 a22)) fun x3 =>
 capOk (List.length x2.2 + List.length ([(Message.mk x3.Node x3.Seq (Trust.mk x3.Trust.Threshold x3.Trust.Nodes x3.Trust.Inner) x3.Votes x3.Accepts)] : List Message)) <|
 z2q (x2.2 ++ ([(Message.mk x3.Node x3.Seq (Trust.mk x3.Trust.Threshold x3.Trust.Nodes x3.Trust.Inner) x3.Votes x3.Accepts)] : List Message)) a18 (a18.length : Int) 0 a6 a8 a10 a12 a14 a16 a18 a20 a22 a24 a26 a28 a30 a32 a34 a36 a38 a40 a42 a44 a46
 ) (z3z a4 a6 a8 a10 a12 a14 a16 a18 a20 a22 a24 a26 a28 a30 a32 a34 a36 a38 a40 a42 a44 a46) :=
 gL o7' (q08 Tryz.f104 [1,1,0,1,0,0])
theorem qzx (a0 a2 : List Claim) (a4 a6 : Int) : Le (
 bif ltB a6 a4 then
 nth a0 a6 fun y0 =>
 nth a2 a6 fun y1 =>
 bif (!((eqB y0.Topic y1.Topic) && ((eqB y0.Value y1.Value) && true))) then
 some false
 else
 z1u a0 a2 a4 (addI .i64 a6 1)
 else
 some true
 ) (z1u a0 a2 a4 a6) :=
 gL o0' (q08 Tryz.f88 [1,1,0,1,0,0])
theorem qqk (a0 : Int) (a2 : List Int) (a4 a6 : Int) : Le (
 bif ltB a6 a4 then
 nth a2 a6 fun y0 =>
 bif ltB y0 0 then
 some (0, 5)
 else
 bif leB 10 y0 then
 some (0, 5)
 else
 Option.bind (z3p a0 y0) fun x1 =>
 bif x1 then
 some (0, 6)
 else
 chk (0 ≤ y0) <|
 z3c (orI .i64 a0 (shlI .i64 1 y0)) a2 a4 (addI .i64 a6 1)
 else
 some (a0, 0)
 ) (z3c a0 a2 a4 a6) :=
 gL o14' (q08 Tryz.f121 [1,1,0,1,0,0])
theorem y84 (s_0 node_1 : Int) : Le (
 Option.bind (z2c s_0) fun x0 =>
 bif x0 then
 bif leB 0 node_1 then
 bif ltB node_1 10 then
 chk (0 ≤ node_1) <|
 some (neB (andI .i64 s_0 (shlI .i64 1 node_1)) 0)
 else
 some false
 else
 some false
 else
 some false
 ) (z3p s_0 node_1) :=
 cL o0' Tryz.func135
theorem y1y (s_0 : Int) : Le (
 Option.bind (z4o s_0 10) fun x0 =>
 some x0
 ) (z2c s_0) :=
 cL o0' Tryz.func149
theorem qzy (s_0 n_1 : Int) : Le (
 bif leB 0 s_0 then
 chk (0 ≤ n_1) <|
 some (ltB s_0 (shlI .i64 1 n_1))
 else
 some false
 ) (z4o s_0 n_1) :=
 cL o0' Tryz.func155
theorem qw2 (a0 : List Claim) (a3 a5 a7 a9 a11 : Int) (a13 : List Int) (a15 : List Trust) (a17 a19 a21 : List Claim) (a23 : List Message) : Le (
 bif ltB a5 a3 then
 nth a0 a5 fun y0 =>
 Option.bind (z5t y0 a7 a9 a11 a13 a15 a17 a19 a21 a23) fun x1 =>
 bif x1.1 then
 some (a5, x1.2.1, x1.2.2.1, x1.2.2.2.1, x1.2.2.2.2.1, x1.2.2.2.2.2.1, x1.2.2.2.2.2.2.1, x1.2.2.2.2.2.2.2.1, x1.2.2.2.2.2.2.2.2.1, x1.2.2.2.2.2.2.2.2.2)
 else
 z0r a0 a3 (addI .i64 a5 1) x1.2.1 x1.2.2.1 x1.2.2.2.1 x1.2.2.2.2.1 x1.2.2.2.2.2.1 x1.2.2.2.2.2.2.1 x1.2.2.2.2.2.2.2.1 x1.2.2.2.2.2.2.2.2.1 x1.2.2.2.2.2.2.2.2.2
 else
 some ((-1), a7, a9, a11, a13, a15, a17, a19, a21, a23)
 ) (z0r a0 a3 a5 a7 a9 a11 a13 a15 a17 a19 a21 a23) :=
 gL o24' (q08 Tryz.f100 [1,0,1,0,0])
theorem y45 (x_0 : Claim) (h0 h1 h2 : Int) (h3 : List Int) (h4 : List Trust) (h5 h6 h7 : List Claim) (h8 : List Message) : Le (
 Option.bind (z4w h6 x_0) fun x0 =>
 some ((!x0), h0, h1, h2, h3, h4, h5, h6, h7, h8)
 ) (z5t x_0 h0 h1 h2 h3 h4 h5 h6 h7 h8) :=
 cL o22' Tryz.func83
theorem qx0 (a0 : List Claim) (a3 a5 a7 a9 : Int) : Le (
 bif ltB a5 a3 then
 nth a0 a5 fun y0 =>
 bif ((eqB a7 y0.Topic) && ((eqB a9 y0.Value) && true)) then
 some a5
 else
 z1m a0 a3 (addI .i64 a5 1) a7 a9
 else
 some (-1)
 ) (z1m a0 a3 a5 a7 a9) :=
 gL o1' (q08 Tryz.f123 [1,0,1,0,0])
theorem y1b (a0 : Int) (a5 : List Message) (a7 a9 a11 : Int) (a13 : List Int) (a15 : List Trust) (a17 a19 : List Member) : Le (
 bif ltB a9 a7 then
 nth a5 a9 fun y0 =>
 bif neB y0.Node a0 then
 Option.bind (z2u y0) fun x1 =>
 bif x1 then
 Option.bind (z3g y0.Trust) fun x2 =>
 nth a19 y0.Node fun _ =>
 nthN a19 (Int.toNat y0.Node) fun _y3 =>
 z29 a0 a5 a7 (addI .i64 a9 1) a11 a13 a15 a17 (List.set a19 (Int.toNat y0.Node) (Member.mk true (Trust.mk x2.Threshold x2.Nodes x2.Inner)))
 else
 z29 a0 a5 a7 (addI .i64 a9 1) a11 a13 a15 a17 a19
 else
 z29 a0 a5 a7 (addI .i64 a9 1) a11 a13 a15 a17 a19
 else
 Option.bind (z53 a0) fun x4 =>
 bif x4 then
 Option.bind (z2t (Trust.mk a11 a13 a15)) fun x5 =>
 bif eqB x5 0 then
 Option.bind (z3g (Trust.mk a11 a13 a15)) fun x6 =>
 nth a19 a0 fun _ =>
 nthN a19 (Int.toNat a0) fun _y7 =>
 some (Config.mk (List.set a19 (Int.toNat a0) (Member.mk true (Trust.mk x6.Threshold x6.Nodes x6.Inner))))
 else
 some (Config.mk a19)
 else
 some (Config.mk a19)
 ) (z29 a0 a5 a7 a9 a11 a13 a15 a17 a19) :=
 gL o15' (q08 Tryz.f126 [1,1,0,1,0,0])
theorem y3g (t_0 : Trust) : Le (
 capOk (List.length ([] : List Int) + List.length t_0.Nodes) <|
 z2s t_0.Inner (t_0.Inner.length : Int) 0 t_0.Threshold t_0.Nodes t_0.Inner 0 ([] : List Int) ([] : List Trust) t_0.Threshold (([] : List Int) ++ t_0.Nodes) ([] : List Trust)
 ) (z3g t_0) :=
 cL o12' Tryz.func141
theorem y05 (a3 : List Message) (a5 : List Claim) (a7 a9 a11 a13 a15 : Int) (a17 : List Int) (a19 : List Trust) (a21 a23 a25 : List Claim) (a27 : List Message) (a29 : List Member) (a31 a33 : Int) : Le (
 bif ltB a9 a7 then
 nth a5 a9 fun y0 =>
 Option.bind (z4w a23 y0) fun x1 =>
 bif x1 then
 z35 a3 a5 a7 (addI .i64 a9 1) a11 a13 a15 a17 a19 a21 a23 a25 a27 a29 a31 a33
 else
 Option.bind (z18 a23) fun x2 =>
 capOk (List.length x2.2 + List.length ([y0] : List Claim)) <|
 Option.bind (z5p (x2.2 ++ ([y0] : List Claim))) fun x3 =>
 bif !x3 then
 z35 a3 a5 a7 (addI .i64 a9 1) a11 a13 a15 a17 a19 a21 a23 a25 a27 a29 a31 a33
 else
 Option.bind (z5i a3 y0) fun x4 =>
 Option.bind (z3j a3 y0) fun x5 =>
 Option.bind (z40 (Config.mk a29) a11 x4 x5) fun x6 =>
 bif x6 then
 some (y0, true)
 else
 z35 a3 a5 a7 (addI .i64 a9 1) a11 a13 a15 a17 a19 a21 a23 a25 a27 a29 a31 a33
 else
 some ((Claim.mk 0 0), false)
 ) (z35 a3 a5 a7 a9 a11 a13 a15 a17 a19 a21 a23 a25 a27 a29 a31 a33) :=
 gL o25' (q08 Tryz.f127 [1,1,0,1,0,0])
theorem y5b (l_0 : List Message) (x_1 : Claim) : Le (
 Option.bind (z1v l_0 x_1) fun x0 =>
 some x0
 ) (z5i l_0 x_1) :=
 cL o1' Tryz.func144
theorem y73 (l_0 : List Message) (x_1 : Claim) : Le (
 Option.bind (z1r l_0 x_1) fun x0 =>
 some x0
 ) (z3j l_0 x_1) :=
 cL o1' Tryz.func129
theorem y41 (c_0 : Config) (v_1 votes_2 accepts_3 : Int) : Le (
 Option.bind (z2c votes_2) fun x0 =>
 bif !x0 then
 some false
 else
 Option.bind (z2c accepts_3) fun x1 =>
 bif !x1 then
 some false
 else
 Option.bind (z4m c_0 v_1 accepts_3) fun x2 =>
 bif x2 then
 some true
 else
 Option.bind (z46 c_0 (orI .i64 votes_2 accepts_3)) fun x3 =>
 Option.bind (z3p x3 v_1) fun x4 =>
 some x4
 ) (z40 c_0 v_1 votes_2 accepts_3) :=
 cL o0' Tryz.func143
theorem y4s (l_0 : List Message) (x_1 : Claim) : Le (
 z15 0 l_0 (l_0.length : Int) 0 x_1.Topic x_1.Value
 ) (z1v l_0 x_1) :=
 cL o1' Tryz.func146
theorem y53 (l_0 : List Message) (x_1 : Claim) : Le (
 z0v 0 l_0 (l_0.length : Int) 0 x_1.Topic x_1.Value
 ) (z1r l_0 x_1) :=
 cL o1' Tryz.func146
theorem y51 (c_0 : Config) (v_1 s_2 : Int) : Le (
 Option.bind (z2c s_2) fun x0 =>
 bif !x0 then
 some false
 else
 Option.bind (z2o c_0) fun x1 =>
 Option.bind (z3p x1 v_1) fun x2 =>
 bif !x2 then
 some false
 else
 chk (0 ≤ v_1) <|
 nth c_0.Members v_1 fun y3 =>
 Option.bind (z2r y3.Trust (orI .i64 (qgk .i64 1023 s_2) (shlI .i64 1 v_1))) fun x4 =>
 some (!x4)
 ) (z4m c_0 v_1 s_2) :=
 cL o0' Tryz.func152
theorem y7z (c_0 : Config) (s_1 : Int) : Le (
 Option.bind (z4r c_0 s_1) fun x0 =>
 some x0.1
 ) (z46 c_0 s_1) :=
 cL o1' Tryz.func145
end Go.Proofs.YthbpagedblodfaaGreat
