/- What the functions come to, printed by a program and checked by the kernel. -/
import Derived.Test.YthbpagedblodfaaGreatP19Df
namespace Go.Proofs.YthbpagedblodfaaGreat
open Go Go.Ab
set_option maxRecDepth 100000
theorem y7k (c_0 : Config) (v_1 accepts_2 : Int) : Le (
 Option.bind (z59 c_0 accepts_2) fun x0 =>
 Option.bind (z51 x0 v_1) fun x1 =>
 some x1
 ) (z58 c_0 v_1 accepts_2) :=
 cL o0' Tryz.func22
theorem y89 (c_0 : Config) (s_1 : Int) : Le (
 Option.bind (z3a s_1) fun x0 =>
 bif !x0 then
 some 0
 else
 Option.bind (z47 c_0) fun x1 =>
 Option.bind (z4u c_0 s_1) fun x2 =>
 z41 (andI .i64 s_1 x1) x2 (x2.length : Int) 0 c_0.Members
 ) (z59 c_0 s_1) :=
 cL o1' Tryz.func71
theorem y7e (s_0 node_1 : Int) : Le (
 Option.bind (z3a s_0) fun x0 =>
 bif x0 then
 bif leB 0 node_1 then
 bif ltB node_1 10 then
 chk (0 ≤ node_1) <|
 some (eqB (andI .i64 (shrI .i64 s_0 node_1) 1) 1)
 else
 some false
 else
 some false
 else
 some false
 ) (z51 s_0 node_1) :=
 cL o0' Tryz.func70
theorem y4o (s_0 : Int) : Le (
 bif leB 0 s_0 then
 some (leB s_0 1023)
 else
 some false
 ) (z3a s_0) :=
 cL o0' Tryz.func109
theorem y6s (c_0 : Config) : Le (
 z2b 0 c_0.Members (c_0.Members.length : Int) 0 c_0.Members
 ) (z47 c_0) :=
 cL o1' Tryz.func111
theorem y7b (c_0 : Config) (s_1 : Int) : Le (
 Option.bind (z3a s_1) fun x0 =>
 bif !x0 then
 some ([] : List Int)
 else
 Option.bind (z47 c_0) fun x1 =>
 z2l (andI .i64 s_1 x1) ([] : List Int) true c_0.Members
 ) (z4u c_0 s_1) :=
 cL o5' Tryz.func112
theorem y1w (a2 : List Claim) (a4 a6 a8 a10 a12 : Int) (a14 : List Int) (a16 : List Trust) (a18 a20 a22 : List Claim) (a24 : List Message) (a26 a28 : Int) : Le (
 bif ltB a6 a4 then
 nth a2 a6 fun y0 =>
 Option.bind (z48 (Claim.mk a26 a28) y0) fun x1 =>
 bif x1 then
 some false
 else
 z4j a2 a4 (addI .i64 a6 1) a8 a10 a12 a14 a16 a18 a20 a22 a24 a26 a28
 else
 Option.bind (z6j (Voter.mk a8 a10 (Trust.mk a12 a14 a16) a18 a20 a22 a24)) fun x2 =>
 Option.bind (z5k a8 (Trust.mk a12 a14 a16) a24) fun x3 =>
 Option.bind (z6g x2 (Claim.mk a26 a28)) fun x4 =>
 Option.bind (z57 x2 (Claim.mk a26 a28)) fun x5 =>
 Option.bind (z5g x3 a8 x4 x5) fun x6 =>
 some x6
 ) (z4j a2 a4 a6 a8 a10 a12 a14 a16 a18 a20 a22 a24 a26 a28) :=
 gL o0' (q08 Tryz.f20 [1,1,0,1,0,0])
theorem y7y (a_0 b_1 : Claim) : Le (
 bif eqB a_0.Topic b_1.Topic then
 some (neB a_0.Value b_1.Value)
 else
 some false
 ) (z48 a_0 b_1) :=
 cL o0' Tryz.func67
theorem y6v (l_0 : List Message) (x_1 : Claim) : Le (
 z36 0 l_0 (l_0.length : Int) 0 x_1.Topic x_1.Value
 ) (z6g l_0 x_1) :=
 cL o1' Tryz.func69
theorem y7d (c_0 : Config) (v_1 votes_2 accepts_3 : Int) : Le (
 Option.bind (z3a votes_2) fun x0 =>
 bif !x0 then
 some false
 else
 Option.bind (z3a accepts_3) fun x1 =>
 bif !x1 then
 some false
 else
 Option.bind (z5v c_0 v_1 accepts_3) fun x2 =>
 bif x2 then
 some true
 else
 Option.bind (z59 c_0 (orI .i64 votes_2 accepts_3)) fun x3 =>
 Option.bind (z51 x3 v_1) fun x4 =>
 some x4
 ) (z5g c_0 v_1 votes_2 accepts_3) :=
 cL o0' Tryz.func68
theorem y43 (c_0 : Config) (v_1 s_2 : Int) : Le (
 Option.bind (z3a s_2) fun x0 =>
 bif !x0 then
 some false
 else
 Option.bind (z47 c_0) fun x1 =>
 Option.bind (z51 x1 v_1) fun x2 =>
 bif !x2 then
 some false
 else
 chk (0 ≤ v_1) <|
 nth c_0.Members v_1 fun y3 =>
 Option.bind (z3v y3.Trust (orI .i64 (subI .i64 1023 s_2) (shlI .i64 1 v_1))) fun x4 =>
 some (!x4)
 ) (z5v c_0 v_1 s_2) :=
 cL o0' Tryz.func110
theorem y5a (t_0 : Trust) (s_1 : Int) : Le (
 Option.bind (z3a s_1) fun x0 =>
 bif !x0 then
 some false
 else
 z2j s_1 0 t_0.Nodes (t_0.Nodes.length : Int) 0 t_0.Threshold t_0.Nodes t_0.Inner
 ) (z3v t_0 s_1) :=
 cL o0' Tryz.func131
theorem qzs (a1 : List Claim) (a3 a5 a7 a9 : Int) : Le (
 bif ltB a5 a3 then
 nth a1 a5 fun y0 =>
 bif ((eqB a7 y0.Topic) && ((eqB a9 y0.Value) && true)) then
 some true
 else
 z5d a1 a3 (addI .i64 a5 1) a7 a9
 else
 some false
 ) (z5d a1 a3 a5 a7 a9) :=
 gL o0' (q08 Tryz.f25 [1,0,1,0,0])
theorem qxc (a0 a2 : List Claim) (a4 a6 : Int) : Le (
 bif leB a6 15 then
 Option.bind (z4i a0 (Claim.mk a4 a6)) fun x0 =>
 bif x0 then
 capOk (List.length a2 + List.length ([(Claim.mk a4 a6)] : List Claim)) <|
 z2g a0 (a2 ++ ([(Claim.mk a4 a6)] : List Claim)) a4 (addI .i64 a6 1)
 else
 z2g a0 a2 a4 (addI .i64 a6 1)
 else
 z2v a0 a2 (addI .i64 a4 1)
 ) (z2g a0 a2 a4 a6) :=
 gL o3' (q08 Tryz.f18 [1,1,0,1,0,0,1,0,0,1,0,0])
theorem y0q (a0 : List Claim) (a2 : List Message) (a4 a6 a8 a10 a12 : Int) (a14 : List Int) (a16 : List Trust) (a18 a20 a22 : List Claim) (a24 : List Message) : Le (
 bif ltB a6 a4 then
 nth a2 a6 fun y0 =>
 Option.bind (z4c y0.Votes y0.Accepts) fun x1 =>
 Option.bind (z4c a0 x1) fun x2 =>
 z49 x2 a2 a4 (addI .i64 a6 1) a8 a10 a12 a14 a16 a18 a20 a22 a24
 else
 some a0
 ) (z49 a0 a2 a4 a6 a8 a10 a12 a14 a16 a18 a20 a22 a24) :=
 gL o3' (q08 Tryz.f19 [1,1,0,1,0,0])
theorem qqu (a1 a3 a7 : Int) (a9 : List Int) (a11 a13 : Int) (a15 : List Int) (a17 : List Trust) (a19 : Int) (a21 : List Int) (a23 : List Trust) : Le (
 bif ltB 0 a7 then
 Option.bind (z67 a1 (subI .i64 a3 1) a9 a11) fun x0 =>
 capOk (List.length a23 + List.length ([(Trust.mk x0.1.Threshold x0.1.Nodes x0.1.Inner)] : List Trust)) <|
 z4e a1 a3 (subI .i64 a7 1) x0.2.1 x0.2.2 a13 a15 a17 a19 a21 (a23 ++ ([(Trust.mk x0.1.Threshold x0.1.Nodes x0.1.Inner)] : List Trust))
 else
 bif (ltB 0 (a23.length : Int)) then
 Option.bind (z22 3 a9 a11) fun x1 =>
 bif eqB x1.1 0 then
 Option.bind (z2m 1 (addI .i64 ((List.length ([] : List Int) : Nat) : Int) (a23.length : Int)) x1.2.1 x1.2.2) fun x2 =>
 some ((Trust.mk x2.1 ([] : List Int) a23), x2.2.1, x2.2.2)
 else
 Option.bind (z2m 1 (addI .i64 (a21.length : Int) (a23.length : Int)) x1.2.1 x1.2.2) fun x3 =>
 some ((Trust.mk x3.1 a21 a23), x3.2.1, x3.2.2)
 else
 Option.bind (z2m 1 (addI .i64 (a21.length : Int) (a23.length : Int)) a9 a11) fun x4 =>
 some ((Trust.mk x4.1 a21 a23), x4.2.1, x4.2.2)
 ) (z4e a1 a3 a7 a9 a11 a13 a15 a17 a19 a21 a23) :=
 gL o9' (q08 Tryz.f47 [1,1,1,1,0,1,0,0,1,0,0])
theorem y0u (a1 : List Int) (a3 : Int) (a5 : List Int) (a7 : Int) : Le (
 bif ltB 0 a3 then
 Option.bind (z22 (addI .i64 a3 1) a5 a7) fun x0 =>
 nth a1 x0.1 fun _ =>
 nth a1 a3 fun _ =>
 nthN a1 (Int.toNat x0.1) fun y1 =>
 nthN a1 (Int.toNat a3) fun y2 =>
 nth a1 a3 fun _ =>
 nthN a1 (Int.toNat a3) fun _y3 =>
 nth (List.set a1 (Int.toNat a3) y1) x0.1 fun _ =>
 nthN (List.set a1 (Int.toNat a3) y1) (Int.toNat x0.1) fun _y4 =>
 z3h (List.set (List.set a1 (Int.toNat a3) y1) (Int.toNat x0.1) y2) (subI .i64 a3 1) x0.2.1 x0.2.2
 else
 some (a1, a5, a7)
 ) (z3h a1 a3 a5 a7) :=
 gL o17' (q08 Tryz.f13 [1,1,1,0,1,0,0])
theorem qlr (a0 : List Trust) (a2 a4 a6 : Int) (a8 : List Int) (a10 : List Trust) : Le (
 bif ltB a4 a2 then
 nth a0 a4 fun y0 =>
 Option.bind (z3o y0) fun x1 =>
 bif neB x1 0 then
 some x1
 else
 z20 a0 a2 (addI .i64 a4 1) a6 a8 a10
 else
 some 0
 ) (z20 a0 a2 a4 a6 a8 a10) :=
 gL o1' (q08 Tryz.f99 [1,1,1,1,0,1,0,0])
theorem qez (a0 : Int) (a2 : List Int) (a4 a6 : Int) : Le (
 bif ltB a6 a4 then
 nth a2 a6 fun y0 =>
 bif ltB y0 0 then
 some (0, 5)
 else
 bif leB 10 y0 then
 some (0, 5)
 else
 Option.bind (z51 a0 y0) fun x1 =>
 bif x1 then
 some (0, 6)
 else
 chk (0 ≤ y0) <|
 z2h (orI .i64 a0 (shlI .i64 1 y0)) a2 a4 (addI .i64 a6 1)
 else
 some (a0, 0)
 ) (z2h a0 a2 a4 a6) :=
 gL o14' (q08 Tryz.f122 [1,1,0,1,0,0])
theorem quw (a0 : Int) (a2 : List Int) (a4 a6 : Int) : Le (
 bif ltB a6 a4 then
 nth a2 a6 fun y0 =>
 bif neB y0 a0 then
 some y0
 else
 z4a a0 a2 a4 (addI .i64 a6 1)
 else
 some a0
 ) (z4a a0 a2 a4 a6) :=
 gL o1' (q08 Tryz.f133 [1,1,0,1,0,0])
theorem y0v (a3 : List Message) (a5 : List Claim) (a7 a9 a11 a13 a15 : Int) (a17 : List Int) (a19 : List Trust) (a21 a23 a25 : List Claim) (a27 : List Message) (a29 a31 a33 : Int) (a35 : List Int) (a37 : List Trust) (a39 a41 a43 : List Claim) (a45 : List Message) (a47 : List Member) (a49 a51 : Int) : Le (
 bif ltB a9 a7 then
 nth a5 a9 fun y0 =>
 Option.bind (z3j a3 y0) fun x1 =>
 Option.bind (z3m (Config.mk a47) a11 x1) fun x2 =>
 bif x2 then
 Option.bind (z5x a25 y0) fun x3 =>
 z2q a3 a5 a7 (addI .i64 a9 1) a11 a13 a15 a17 a19 a21 a23 x3 a27 a29 a31 a33 a35 a37 a39 a41 a43 a45 a47 a49 a51
 else
 z2q a3 a5 a7 (addI .i64 a9 1) a11 a13 a15 a17 a19 a21 a23 a25 a27 a29 a31 a33 a35 a37 a39 a41 a43 a45 a47 a49 a51
 else
 some (Voter.mk a11 a13 (Trust.mk a15 a17 a19) a21 a23 a25 a27)
 ) (z2q a3 a5 a7 a9 a11 a13 a15 a17 a19 a21 a23 a25 a27 a29 a31 a33 a35 a37 a39 a41 a43 a45 a47 a49 a51) :=
 gL o7' (q08 Tryz.f104 [1,1,1,1,0,1,0,0])
theorem y5x (c_0 : Config) (v_1 accepts_2 : Int) : Le (
 Option.bind (z46 c_0 accepts_2) fun x0 =>
 Option.bind (z3p x0 v_1) fun x1 =>
 some x1
 ) (z3m c_0 v_1 accepts_2) :=
 cL o0' Tryz.func128
theorem qzj (a2 : List Trust) (a4 a6 a8 : Int) (a10 : List Int) (a12 : List Trust) (a14 : Int) (a16 : List Int) (a18 : List Trust) (a20 : Int) (a22 : List Int) (a24 : List Trust) : Le (
 bif ltB a6 a4 then
 nth a2 a6 fun y0 =>
 Option.bind (z3g y0) fun x1 =>
 capOk (List.length a24 + List.length ([(Trust.mk x1.Threshold x1.Nodes x1.Inner)] : List Trust)) <|
 z2s a2 a4 (addI .i64 a6 1) a8 a10 a12 a14 a16 a18 a20 a22 (a24 ++ ([(Trust.mk x1.Threshold x1.Nodes x1.Inner)] : List Trust))
 else
 some (Trust.mk a20 a22 a24)
 ) (z2s a2 a4 a6 a8 a10 a12 a14 a16 a18 a20 a22 a24) :=
 gL o12' (q08 Tryz.f141 [1,1,0,1,0,0])
theorem y1d (a2 : Int) (a4 : List Message) (a6 a8 a10 a12 : Int) : Le (
 bif ltB a8 a6 then
 nth a4 a8 fun y0 =>
 Option.bind (z2u y0) fun x1 =>
 bif x1 then
 Option.bind (z4v y0) fun x2 =>
 Option.bind (z4w x2 (Claim.mk a10 a12)) fun x3 =>
 bif x3 then
 chk (0 ≤ y0.Node) <|
 z15 (orI .i64 a2 (shlI .i64 1 y0.Node)) a4 a6 (addI .i64 a8 1) a10 a12
 else
 z15 a2 a4 a6 (addI .i64 a8 1) a10 a12
 else
 z15 a2 a4 a6 (addI .i64 a8 1) a10 a12
 else
 some a2
 ) (z15 a2 a4 a6 a8 a10 a12) :=
 gL o1' (q08 Tryz.f146 [1,1,0,1,0,0])
theorem y75 (m_0 : Message) : Le (
 some m_0.Votes
 ) (z4v m_0) :=
 cL o3' Tryz.func153
theorem qzt (a2 : Int) (a4 : List Message) (a6 a8 a10 a12 : Int) : Le (
 bif ltB a8 a6 then
 nth a4 a8 fun y0 =>
 Option.bind (z2u y0) fun x1 =>
 bif x1 then
 Option.bind (z3w y0) fun x2 =>
 Option.bind (z4w x2 (Claim.mk a10 a12)) fun x3 =>
 bif x3 then
 chk (0 ≤ y0.Node) <|
 z0v (orI .i64 a2 (shlI .i64 1 y0.Node)) a4 a6 (addI .i64 a8 1) a10 a12
 else
 z0v a2 a4 a6 (addI .i64 a8 1) a10 a12
 else
 z0v a2 a4 a6 (addI .i64 a8 1) a10 a12
 else
 some a2
 ) (z0v a2 a4 a6 a8 a10 a12) :=
 gL o1' (q08 Tryz.f146 [1,1,0,1,0,0])
theorem y82 (m_0 : Message) : Le (
 some m_0.Accepts
 ) (z3w m_0) :=
 cL o3' Tryz.func147
theorem y0s (a0 : Int) (a2 : List Member) (a4 a6 : Int) (a8 : List Member) : Le (
 bif ltB a6 a4 then
 nth a2 a6 fun y0 =>
 bif y0.Declared then
 bif ltB a6 10 then
 chk (0 ≤ a6) <|
 z1l (orI .i64 a0 (shlI .i64 1 a6)) a2 a4 (addI .i64 a6 1) a8
 else
 z1l a0 a2 a4 (addI .i64 a6 1) a8
 else
 z1l a0 a2 a4 (addI .i64 a6 1) a8
 else
 some a0
 ) (z1l a0 a2 a4 a6 a8) :=
 gL o1' (q08 Tryz.f166 [1,1,0,1,0,0])
theorem y0z (a0 a3 : Int) (a5 : List Int) (a7 a9 a11 : Int) (a13 : List Int) (a15 : List Trust) : Le (
 bif ltB a9 a7 then
 nth a5 a9 fun y0 =>
 Option.bind (z3p a0 y0) fun x1 =>
 bif x1 then
 z1y a0 (addI .i64 a3 1) a5 a7 (addI .i64 a9 1) a11 a13 a15
 else
 z1y a0 a3 a5 a7 (addI .i64 a9 1) a11 a13 a15
 else
 z1t a0 a3 a15 (a15.length : Int) 0 a11 a13 a15
 ) (z1y a0 a3 a5 a7 a9 a11 a13 a15) :=
 gL o0' (q08 Tryz.f167 [1,1,1,0,1,0,0])
theorem y1l (a0 : Int) (a3 : List Int) (a5 : List Member) : Le (
 Option.bind (z5l (Config.mk a5) a0) fun x0 =>
 bif !x0.2 then
 some (a0, a3)
 else
 capOk (List.length a3 + List.length ([x0.1] : List Int)) <|
 chk (0 ≤ x0.1) <|
 z2k (qgk .i64 a0 (shlI .i64 1 x0.1)) (a3 ++ ([x0.1] : List Int)) a5
 ) (z2k a0 a3 a5) :=
 gL o26' (q08 Tryz.f154 [1,1,1,1,0,0])
theorem y7j (c_0 : Config) (s_1 : Int) : Le (
 Option.bind (z63 s_1) fun x0 =>
 z30 s_1 x0 (x0.length : Int) 0 c_0.Members
 ) (z5l c_0 s_1) :=
 cL o13' Tryz.func168
theorem y3j (s_0 : Int) : Le (
 z31 s_0 ([] : List Int) 0
 ) (z63 s_0) :=
 cL o5' Tryz.func174
theorem y4f (a1 a3 a6 : Int) (a8 : List Claim) : Le (
 bif ltB a6 a3 then
 z0g a1 a3 a6 a6 a8
 else
 some a8
 ) (z0d a1 a3 a6 a8) :=
 gL o2' (q08 Tryz.f156 [1,0,0])
theorem y1g (a2 a4 a6 a8 : Int) (a10 : List Claim) : Le (
 bif leB 0 a8 then
 Option.bind (z16 a8 a6 a2 a10) fun x0 =>
 z0p a2 a4 a6 (subI .i64 a8 1) x0
 else
 z0q a2 a4 (subI .i64 a6 1) a10
 ) (z0p a2 a4 a6 a8 a10) :=
 gL o2' (q08 Tryz.f157 [1,1,1,0,1,0,0])
theorem y6t (lo_1 hi_2 first_3 : Int) (h0 : List Claim) : Le (
 z0c hi_2 first_3 lo_1 h0
 ) (z16 lo_1 hi_2 first_3 h0) :=
 cL o2' Tryz.func169
end Go.Proofs.YthbpagedblodfaaGreat
