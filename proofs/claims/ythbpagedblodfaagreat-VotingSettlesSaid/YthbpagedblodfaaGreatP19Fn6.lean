/- What the functions come to, printed by a program and checked by the kernel. -/
import Derived.Test.YthbpagedblodfaaGreatP19Df
namespace Go.Proofs.YthbpagedblodfaaGreat
open Go Go.Ab
set_option maxRecDepth 100000
theorem qzr (a1 a3 a6 a8 : Int) (a10 : List Claim) (a12 : Int) : Le (
 bif (leB a8 (addI .i64 (addI .i64 a1 (mulI .i64 (quoI .i64 a3 4) 2)) 1)) then
 Option.bind (z3x a12) fun x0 =>
 bif (leB a3 (IntKind.wrap .i64 (andI .u64 x0.1 (subI .u64 a6 1)))) then
 nth a10 (addI .i64 a1 (subI .i64 (IntKind.wrap .i64 (andI .u64 x0.1 (subI .u64 a6 1))) a3)) fun _ =>
 nth a10 a8 fun _ =>
 nthN a10 (Int.toNat (addI .i64 a1 (subI .i64 (IntKind.wrap .i64 (andI .u64 x0.1 (subI .u64 a6 1))) a3))) fun y1 =>
 nthN a10 (Int.toNat a8) fun y2 =>
 nth a10 a8 fun _ =>
 nthN a10 (Int.toNat a8) fun _y3 =>
 nth (List.set a10 (Int.toNat a8) y1) (addI .i64 a1 (subI .i64 (IntKind.wrap .i64 (andI .u64 x0.1 (subI .u64 a6 1))) a3)) fun _ =>
 nthN (List.set a10 (Int.toNat a8) y1) (Int.toNat (addI .i64 a1 (subI .i64 (IntKind.wrap .i64 (andI .u64 x0.1 (subI .u64 a6 1))) a3))) fun _y4 =>
 z0b a1 a3 a6 (addI .i64 a8 1) (List.set (List.set a10 (Int.toNat a8) y1) (Int.toNat (addI .i64 a1 (subI .i64 (IntKind.wrap .i64 (andI .u64 x0.1 (subI .u64 a6 1))) a3))) y2) x0.2
 else
 nth a10 (addI .i64 a1 (IntKind.wrap .i64 (andI .u64 x0.1 (subI .u64 a6 1)))) fun _ =>
 nth a10 a8 fun _ =>
 nthN a10 (Int.toNat (addI .i64 a1 (IntKind.wrap .i64 (andI .u64 x0.1 (subI .u64 a6 1))))) fun y5 =>
 nthN a10 (Int.toNat a8) fun y6 =>
 nth a10 a8 fun _ =>
 nthN a10 (Int.toNat a8) fun _y7 =>
 nth (List.set a10 (Int.toNat a8) y5) (addI .i64 a1 (IntKind.wrap .i64 (andI .u64 x0.1 (subI .u64 a6 1)))) fun _ =>
 nthN (List.set a10 (Int.toNat a8) y5) (Int.toNat (addI .i64 a1 (IntKind.wrap .i64 (andI .u64 x0.1 (subI .u64 a6 1))))) fun _y8 =>
 z0b a1 a3 a6 (addI .i64 a8 1) (List.set (List.set a10 (Int.toNat a8) y5) (Int.toNat (addI .i64 a1 (IntKind.wrap .i64 (andI .u64 x0.1 (subI .u64 a6 1))))) y6) x0.2
 else
 some a10
 ) (z0b a1 a3 a6 a8 a10 a12) :=
 gL o2' (q08 Tryz.f158 [1,1,0,1,1,1,0,0])
theorem y3s (h0 : Int) : Le (
 some ((xorI .u64 (xorI .u64 (xorI .u64 h0 (shlI .u64 h0 13)) (shrI .u64 (xorI .u64 h0 (shlI .u64 h0 13)) 7)) (shlI .u64 (xorI .u64 (xorI .u64 h0 (shlI .u64 h0 13)) (shrI .u64 (xorI .u64 h0 (shlI .u64 h0 13)) 7)) 17)), (xorI .u64 (xorI .u64 (xorI .u64 h0 (shlI .u64 h0 13)) (shrI .u64 (xorI .u64 h0 (shlI .u64 h0 13)) 7)) (shlI .u64 (xorI .u64 (xorI .u64 h0 (shlI .u64 h0 13)) (shrI .u64 (xorI .u64 h0 (shlI .u64 h0 13)) 7)) 17)))
 ) (z3x h0) :=
 cL o33' Tryz.func171
theorem y4w (a1 a3 : Int) (a5 : List Claim) : Le (
 bif ltB a1 a3 then
 nth a5 a3 fun _ =>
 nth a5 a1 fun _ =>
 nthN a5 (Int.toNat a3) fun y0 =>
 nthN a5 (Int.toNat a1) fun y1 =>
 nth a5 a1 fun _ =>
 nthN a5 (Int.toNat a1) fun _y2 =>
 nth (List.set a5 (Int.toNat a1) y0) a3 fun _ =>
 nthN (List.set a5 (Int.toNat a1) y0) (Int.toNat a3) fun _y3 =>
 z0w (addI .i64 a1 1) (subI .i64 a3 1) (List.set (List.set a5 (Int.toNat a1) y0) (Int.toNat a3) y1)
 else
 some a5
 ) (z0w a1 a3 a5) :=
 gL o2' (q08 Tryz.f160 [1,1,0,0])
theorem qzg (a1 a3 a6 a8 : Int) (a10 : List Claim) : Le (
 bif ltB a8 5 then
 z0y a1 a3 a6 a8 true a10
 else
 some (false, a10)
 ) (z03 a1 a3 a6 a8 a10) :=
 gL o8' (q08 Tryz.f161 [1,1,0,1,0,0])
theorem y5f (a1 a4 a6 : Int) (a8 : List Claim) : Le (
 z0s a1 a4 a6 a8
 ) (z0a a1 a4 a6 a8) :=
 gL o6' (q08 Tryz.f162 [1,1,1,0,0,0])
theorem y74 (a1 a4 a6 : Int) (a8 : List Claim) : Le (
 bif leB a4 a6 then
 nth a8 a4 fun _ =>
 nth a8 a1 fun _ =>
 nthN a8 (Int.toNat a4) fun y0 =>
 nthN a8 (Int.toNat a1) fun y1 =>
 Option.bind (z09 y0 y1) fun x2 =>
 bif ltB x2 0 then
 z11 a1 (addI .i64 a4 1) a6 a8
 else
 z0m a1 a4 a6 false a8
 else
 z0m a1 a4 a6 false a8
 ) (z11 a1 a4 a6 a8) :=
 gL o4' (q08 Tryz.f163 [1,1,1,0,0,0])
theorem qrj (a1 : List Message) (a3 a5 a7 a9 a11 : Int) (a13 : List Int) (a15 : List Trust) (a17 a19 a21 : List Claim) (a23 : List Message) : Le (
 bif ltB a5 a3 then
 nth a1 a5 fun y0 =>
 Option.bind (z50 y0) fun x1 =>
 bif !x1 then
 some false
 else
 bif eqB y0.Node a7 then
 some false
 else
 bif ltB 0 a5 then
 nth a23 (subI .i64 a5 1) fun y2 =>
 bif leB y0.Node y2.Node then
 some false
 else
 z2e a1 a3 (addI .i64 a5 1) a7 a9 a11 a13 a15 a17 a19 a21 a23
 else
 z2e a1 a3 (addI .i64 a5 1) a7 a9 a11 a13 a15 a17 a19 a21 a23
 else
 some true
 ) (z2e a1 a3 a5 a7 a9 a11 a13 a15 a17 a19 a21 a23) :=
 gL o0' (q08 Tryz.f35 [1,1,1,1,0,1,0,0])
theorem y01 (a0 a3 : List Claim) (a5 a7 : Int) (a9 : List Claim) (a11 a13 a15 a17 : Int) : Le (
 bif ltB a13 a11 then
 nth a9 a13 fun y0 =>
 Option.bind (z48 (Claim.mk a15 a17) y0) fun x1 =>
 bif x1 then
 some false
 else
 z28 a0 a3 a5 a7 a9 a11 (addI .i64 a13 1) a15 a17
 else
 z21 a0 a3 a5 (addI .i64 a7 1)
 ) (z28 a0 a3 a5 a7 a9 a11 a13 a15 a17) :=
 gL o0' (q08 Tryz.f64 [1,0,1,0,0,1,1,0,0,1,1,0,0])
theorem qzo (a0 : Int) (a5 : List Message) (a7 a9 a11 : Int) (a13 : List Int) (a15 : List Trust) (a17 a19 : List Member) : Le (
 bif ltB a9 a7 then
 nth a5 a9 fun y0 =>
 Option.bind (z50 y0) fun x1 =>
 bif x1 then
 nth a19 y0.Node fun _ =>
 nthN a19 (Int.toNat y0.Node) fun _y2 =>
 z44 a0 a5 a7 (addI .i64 a9 1) a11 a13 a15 a17 (List.set a19 (Int.toNat y0.Node) (Member.mk true (Trust.mk y0.Trust.Threshold y0.Trust.Nodes y0.Trust.Inner)))
 else
 z44 a0 a5 a7 (addI .i64 a9 1) a11 a13 a15 a17 a19
 else
 bif leB 0 a0 then
 bif ltB a0 10 then
 nth a19 a0 fun _ =>
 nthN a19 (Int.toNat a0) fun _y3 =>
 Option.bind (z32 (Trust.mk a11 a13 a15)) fun x4 =>
 bif eqB x4 0 then
 nth (List.set a19 (Int.toNat a0) (Member.mk false (Trust.mk 0 ([] : List Int) ([] : List Trust)))) a0 fun _ =>
 nthN (List.set a19 (Int.toNat a0) (Member.mk false (Trust.mk 0 ([] : List Int) ([] : List Trust)))) (Int.toNat a0) fun _y5 =>
 some (Config.mk (List.set (List.set a19 (Int.toNat a0) (Member.mk false (Trust.mk 0 ([] : List Int) ([] : List Trust)))) (Int.toNat a0) (Member.mk true (Trust.mk a11 a13 a15))))
 else
 some (Config.mk (List.set a19 (Int.toNat a0) (Member.mk false (Trust.mk 0 ([] : List Int) ([] : List Trust)))))
 else
 some (Config.mk a19)
 else
 some (Config.mk a19)
 ) (z44 a0 a5 a7 a9 a11 a13 a15 a17 a19) :=
 gL o15' (q08 Tryz.f23 [1,1,0,1,0,0])
theorem qzk (a1 : Int) (a3 : List Message) (a5 a7 a9 a11 : Int) : Le (
 bif ltB a7 a5 then
 nth a3 a7 fun y0 =>
 Option.bind (z50 y0) fun x1 =>
 bif x1 then
 Option.bind (z4i y0.Accepts (Claim.mk a9 a11)) fun x2 =>
 bif x2 then
 chk (0 ≤ y0.Node) <|
 z2a (orI .i64 a1 (shlI .i64 1 y0.Node)) a3 a5 (addI .i64 a7 1) a9 a11
 else
 z2a a1 a3 a5 (addI .i64 a7 1) a9 a11
 else
 z2a a1 a3 a5 (addI .i64 a7 1) a9 a11
 else
 some a1
 ) (z2a a1 a3 a5 a7 a9 a11) :=
 gL o1' (q08 Tryz.f24 [1,1,0,1,0,0])
theorem y6u (a0 : Int) (a2 : List Int) (a4 a6 : Int) (a8 : List Member) : Le (
 bif ltB a6 a4 then
 nth a2 a6 fun y0 =>
 chk (0 ≤ y0) <|
 z41 (subI .i64 a0 (shlI .i64 1 y0)) a2 a4 (addI .i64 a6 1) a8
 else
 some a0
 ) (z41 a0 a2 a4 a6 a8) :=
 gL o1' (q08 Tryz.f71 [1,1,1,0,1,0,0])
theorem y0b (a0 : Int) (a2 : List Member) (a4 a6 : Int) (a8 : List Member) : Le (
 bif ltB a6 a4 then
 nth a2 a6 fun y0 =>
 bif ltB a6 10 then
 bif y0.Declared then
 chk (0 ≤ a6) <|
 z2b (orI .i64 a0 (shlI .i64 1 a6)) a2 a4 (addI .i64 a6 1) a8
 else
 z2b a0 a2 a4 (addI .i64 a6 1) a8
 else
 z2b a0 a2 a4 (addI .i64 a6 1) a8
 else
 some a0
 ) (z2b a0 a2 a4 a6 a8) :=
 gL o1' (q08 Tryz.f111 [1,1,0,1,0,0])
theorem y5d (a1 : Int) (a3 : List Int) (a5 : Bool) (a7 : List Member) : Le (
 bif a5 then
 Option.bind (z65 a1) fun x0 =>
 z24 a1 a3 false x0 (x0.length : Int) 0 a7
 else
 some a3
 ) (z2l a1 a3 a5 a7) :=
 gL o5' (q08 Tryz.f112 [1,1,1,1,0,1,0,0])
theorem y6l (s_0 : Int) : Le (
 z3n s_0 ([] : List Int) 0
 ) (z65 s_0) :=
 cL o5' Tryz.func132
theorem y08 (a1 : Int) (a3 : List Message) (a5 a7 a9 a11 : Int) : Le (
 bif ltB a7 a5 then
 nth a3 a7 fun y0 =>
 Option.bind (z50 y0) fun x1 =>
 bif x1 then
 Option.bind (z4i y0.Votes (Claim.mk a9 a11)) fun x2 =>
 bif x2 then
 chk (0 ≤ y0.Node) <|
 z36 (orI .i64 a1 (shlI .i64 1 y0.Node)) a3 a5 (addI .i64 a7 1) a9 a11
 else
 z36 a1 a3 a5 (addI .i64 a7 1) a9 a11
 else
 z36 a1 a3 a5 (addI .i64 a7 1) a9 a11
 else
 some a1
 ) (z36 a1 a3 a5 a7 a9 a11) :=
 gL o1' (q08 Tryz.f69 [1,1,0,1,0,0])
theorem y0g (a0 a3 : Int) (a5 : List Int) (a7 a9 a11 : Int) (a13 : List Int) (a15 : List Trust) : Le (
 bif ltB a9 a7 then
 nth a5 a9 fun y0 =>
 Option.bind (z51 a0 y0) fun x1 =>
 bif x1 then
 z2j a0 (addI .i64 a3 1) a5 a7 (addI .i64 a9 1) a11 a13 a15
 else
 z2j a0 a3 a5 a7 (addI .i64 a9 1) a11 a13 a15
 else
 z25 a0 a3 a15 (a15.length : Int) 0 a11 a13 a15
 ) (z2j a0 a3 a5 a7 a9 a11 a13 a15) :=
 gL o0' (q08 Tryz.f131 [1,1,1,0,1,0,0])
theorem qzi (a0 a3 : Int) (a5 : List Trust) (a7 a9 a11 : Int) (a13 : List Int) (a15 : List Trust) : Le (
 bif ltB a9 a7 then
 nth a5 a9 fun y0 =>
 Option.bind (z2r y0 a0) fun x1 =>
 bif x1 then
 z1t a0 (addI .i64 a3 1) a5 a7 (addI .i64 a9 1) a11 a13 a15
 else
 z1t a0 a3 a5 a7 (addI .i64 a9 1) a11 a13 a15
 else
 some (leB a11 a3)
 ) (z1t a0 a3 a5 a7 a9 a11 a13 a15) :=
 gL o0' (q08 Tryz.f167 [1,1,1,1,0,1,0,0])
theorem y0p (a0 : Int) (a3 : List Int) (a5 a7 : Int) (a9 : List Member) : Le (
 bif ltB a7 a5 then
 nth a3 a7 fun y0 =>
 Option.bind (z5m (Config.mk a9) y0 a0) fun x1 =>
 bif !x1 then
 some (y0, true)
 else
 z30 a0 a3 a5 (addI .i64 a7 1) a9
 else
 some (0, false)
 ) (z30 a0 a3 a5 a7 a9) :=
 gL o13' (q08 Tryz.f168 [1,0,1,0,0])
theorem y8h (c_0 : Config) (k_1 s_2 : Int) : Le (
 nth c_0.Members k_1 fun y0 =>
 Option.bind (z2r y0.Trust s_2) fun x1 =>
 some x1
 ) (z5m c_0 k_1 s_2) :=
 cL o0' Tryz.func175
theorem y0i (a0 : Int) (a2 : List Int) (a4 : Int) : Le (
 bif ltB a4 10 then
 Option.bind (z3p a0 a4) fun x0 =>
 bif x0 then
 capOk (List.length a2 + List.length ([a4] : List Int)) <|
 z31 a0 (a2 ++ ([a4] : List Int)) (addI .i64 a4 1)
 else
 z31 a0 a2 (addI .i64 a4 1)
 else
 some a2
 ) (z31 a0 a2 a4) :=
 gL o5' (q08 Tryz.f174 [1,1,0,1,0,0])
theorem y1q (a1 a3 a6 a8 : Int) (a10 : List Claim) : Le (
 bif ltB a1 a8 then
 nth a10 a8 fun _ =>
 nth a10 (subI .i64 a8 1) fun _ =>
 nthN a10 (Int.toNat a8) fun y0 =>
 nthN a10 (Int.toNat (subI .i64 a8 1)) fun y1 =>
 Option.bind (z09 y0 y1) fun x2 =>
 bif ltB x2 0 then
 nth a10 (subI .i64 a8 1) fun _ =>
 nth a10 a8 fun _ =>
 nthN a10 (Int.toNat (subI .i64 a8 1)) fun y3 =>
 nthN a10 (Int.toNat a8) fun y4 =>
 nth a10 a8 fun _ =>
 nthN a10 (Int.toNat a8) fun _y5 =>
 nth (List.set a10 (Int.toNat a8) y3) (subI .i64 a8 1) fun _ =>
 nthN (List.set a10 (Int.toNat a8) y3) (Int.toNat (subI .i64 a8 1)) fun _y6 =>
 z0g a1 a3 a6 (subI .i64 a8 1) (List.set (List.set a10 (Int.toNat a8) y3) (Int.toNat (subI .i64 a8 1)) y4)
 else
 z0d a1 a3 (addI .i64 a6 1) a10
 else
 z0d a1 a3 (addI .i64 a6 1) a10
 ) (z0g a1 a3 a6 a8 a10) :=
 gL o2' (q08 Tryz.f156 [1,0,0,1,0,0,1,0,0])
theorem qzq (a2 a4 a6 : Int) (a8 : List Claim) : Le (
 bif leB 0 a6 then
 nth a8 (addI .i64 a2 a6) fun _ =>
 nth a8 a2 fun _ =>
 nthN a8 (Int.toNat (addI .i64 a2 a6)) fun y0 =>
 nthN a8 (Int.toNat a2) fun y1 =>
 nth a8 a2 fun _ =>
 nthN a8 (Int.toNat a2) fun _y2 =>
 nth (List.set a8 (Int.toNat a2) y0) (addI .i64 a2 a6) fun _ =>
 nthN (List.set a8 (Int.toNat a2) y0) (Int.toNat (addI .i64 a2 a6)) fun _y3 =>
 Option.bind (z16 a4 a6 a2 (List.set (List.set a8 (Int.toNat a2) y0) (Int.toNat (addI .i64 a2 a6)) y1)) fun x4 =>
 z0q a2 a4 (subI .i64 a6 1) x4
 else
 some a8
 ) (z0q a2 a4 a6 a8) :=
 gL o2' (q08 Tryz.f157 [1,1,1,1,1,0,0])
theorem y4i (a1 a3 a6 : Int) (a8 : List Claim) : Le (
 bif (leB a1 (addI .i64 (mulI .i64 2 a6) 1)) then
 some a8
 else
 bif (ltB (addI .i64 (addI .i64 (mulI .i64 2 a6) 1) 1) a1) then
 nth a8 (addI .i64 a3 (addI .i64 (mulI .i64 2 a6) 1)) fun _ =>
 nth a8 (addI .i64 (addI .i64 a3 (addI .i64 (mulI .i64 2 a6) 1)) 1) fun _ =>
 nthN a8 (Int.toNat (addI .i64 a3 (addI .i64 (mulI .i64 2 a6) 1))) fun y0 =>
 nthN a8 (Int.toNat (addI .i64 (addI .i64 a3 (addI .i64 (mulI .i64 2 a6) 1)) 1)) fun y1 =>
 Option.bind (z09 y0 y1) fun x2 =>
 bif ltB x2 0 then
 nth a8 (addI .i64 a3 a6) fun _ =>
 nth a8 (addI .i64 a3 (addI .i64 (addI .i64 (mulI .i64 2 a6) 1) 1)) fun _ =>
 nthN a8 (Int.toNat (addI .i64 a3 a6)) fun y3 =>
 nthN a8 (Int.toNat (addI .i64 a3 (addI .i64 (addI .i64 (mulI .i64 2 a6) 1) 1))) fun y4 =>
 Option.bind (z09 y3 y4) fun x5 =>
 bif !(ltB x5 0) then
 some a8
 else
 nth a8 (addI .i64 a3 (addI .i64 (addI .i64 (mulI .i64 2 a6) 1) 1)) fun _ =>
 nth a8 (addI .i64 a3 a6) fun _ =>
 nthN a8 (Int.toNat (addI .i64 a3 (addI .i64 (addI .i64 (mulI .i64 2 a6) 1) 1))) fun y6 =>
 nthN a8 (Int.toNat (addI .i64 a3 a6)) fun y7 =>
 nth a8 (addI .i64 a3 a6) fun _ =>
 nthN a8 (Int.toNat (addI .i64 a3 a6)) fun _y8 =>
 nth (List.set a8 (Int.toNat (addI .i64 a3 a6)) y6) (addI .i64 a3 (addI .i64 (addI .i64 (mulI .i64 2 a6) 1) 1)) fun _ =>
 nthN (List.set a8 (Int.toNat (addI .i64 a3 a6)) y6) (Int.toNat (addI .i64 a3 (addI .i64 (addI .i64 (mulI .i64 2 a6) 1) 1))) fun _y9 =>
 z0c a1 a3 (addI .i64 (addI .i64 (mulI .i64 2 a6) 1) 1) (List.set (List.set a8 (Int.toNat (addI .i64 a3 a6)) y6) (Int.toNat (addI .i64 a3 (addI .i64 (addI .i64 (mulI .i64 2 a6) 1) 1))) y7)
 else
 nth a8 (addI .i64 a3 a6) fun _ =>
 nth a8 (addI .i64 a3 (addI .i64 (mulI .i64 2 a6) 1)) fun _ =>
 nthN a8 (Int.toNat (addI .i64 a3 a6)) fun y10 =>
 nthN a8 (Int.toNat (addI .i64 a3 (addI .i64 (mulI .i64 2 a6) 1))) fun y11 =>
 Option.bind (z09 y10 y11) fun x12 =>
 bif !(ltB x12 0) then
 some a8
 else
 nth a8 (addI .i64 a3 (addI .i64 (mulI .i64 2 a6) 1)) fun _ =>
 nth a8 (addI .i64 a3 a6) fun _ =>
 nthN a8 (Int.toNat (addI .i64 a3 (addI .i64 (mulI .i64 2 a6) 1))) fun y13 =>
 nthN a8 (Int.toNat (addI .i64 a3 a6)) fun y14 =>
 nth a8 (addI .i64 a3 a6) fun _ =>
 nthN a8 (Int.toNat (addI .i64 a3 a6)) fun _y15 =>
 nth (List.set a8 (Int.toNat (addI .i64 a3 a6)) y13) (addI .i64 a3 (addI .i64 (mulI .i64 2 a6) 1)) fun _ =>
 nthN (List.set a8 (Int.toNat (addI .i64 a3 a6)) y13) (Int.toNat (addI .i64 a3 (addI .i64 (mulI .i64 2 a6) 1))) fun _y16 =>
 z0c a1 a3 (addI .i64 (mulI .i64 2 a6) 1) (List.set (List.set a8 (Int.toNat (addI .i64 a3 a6)) y13) (Int.toNat (addI .i64 a3 (addI .i64 (mulI .i64 2 a6) 1))) y14)
 else
 nth a8 (addI .i64 a3 a6) fun _ =>
 nth a8 (addI .i64 a3 (addI .i64 (mulI .i64 2 a6) 1)) fun _ =>
 nthN a8 (Int.toNat (addI .i64 a3 a6)) fun y17 =>
 nthN a8 (Int.toNat (addI .i64 a3 (addI .i64 (mulI .i64 2 a6) 1))) fun y18 =>
 Option.bind (z09 y17 y18) fun x19 =>
 bif !(ltB x19 0) then
 some a8
 else
 nth a8 (addI .i64 a3 (addI .i64 (mulI .i64 2 a6) 1)) fun _ =>
 nth a8 (addI .i64 a3 a6) fun _ =>
 nthN a8 (Int.toNat (addI .i64 a3 (addI .i64 (mulI .i64 2 a6) 1))) fun y20 =>
 nthN a8 (Int.toNat (addI .i64 a3 a6)) fun y21 =>
 nth a8 (addI .i64 a3 a6) fun _ =>
 nthN a8 (Int.toNat (addI .i64 a3 a6)) fun _y22 =>
 nth (List.set a8 (Int.toNat (addI .i64 a3 a6)) y20) (addI .i64 a3 (addI .i64 (mulI .i64 2 a6) 1)) fun _ =>
 nthN (List.set a8 (Int.toNat (addI .i64 a3 a6)) y20) (Int.toNat (addI .i64 a3 (addI .i64 (mulI .i64 2 a6) 1))) fun _y23 =>
 z0c a1 a3 (addI .i64 (mulI .i64 2 a6) 1) (List.set (List.set a8 (Int.toNat (addI .i64 a3 a6)) y20) (Int.toNat (addI .i64 a3 (addI .i64 (mulI .i64 2 a6) 1))) y21)
 ) (z0c a1 a3 a6 a8) :=
 gL o2' (q08 Tryz.f169 [1,0,0])
theorem y40 (a1 a3 a6 a8 : Int) (a10 : Bool) (a12 : List Claim) : Le (
 bif ltB a6 a3 then
 nth a12 a6 fun _ =>
 nth a12 (subI .i64 a6 1) fun _ =>
 nthN a12 (Int.toNat a6) fun y0 =>
 nthN a12 (Int.toNat (subI .i64 a6 1)) fun y1 =>
 Option.bind (z09 y0 y1) fun x2 =>
 bif !(ltB x2 0) then
 z0i a1 a3 (addI .i64 a6 1) a8 a12
 else
 bif eqB a6 a3 then
 some (true, a12)
 else
 bif ltB (subI .i64 a3 a1) 50 then
 some (false, a12)
 else
 nth a12 (subI .i64 a6 1) fun _ =>
 nth a12 a6 fun _ =>
 nthN a12 (Int.toNat (subI .i64 a6 1)) fun y3 =>
 nthN a12 (Int.toNat a6) fun y4 =>
 nth a12 a6 fun _ =>
 nthN a12 (Int.toNat a6) fun _y5 =>
 nth (List.set a12 (Int.toNat a6) y3) (subI .i64 a6 1) fun _ =>
 nthN (List.set a12 (Int.toNat a6) y3) (Int.toNat (subI .i64 a6 1)) fun _y6 =>
 bif leB 2 (subI .i64 a6 a1) then
 z07 a1 a3 a6 a8 (subI .i64 a6 1) (List.set (List.set a12 (Int.toNat a6) y3) (Int.toNat (subI .i64 a6 1)) y4)
 else
 bif leB 2 (subI .i64 a3 a6) then
 z05 a1 a3 a6 a8 (addI .i64 a6 1) (List.set (List.set a12 (Int.toNat a6) y3) (Int.toNat (subI .i64 a6 1)) y4)
 else
 z03 a1 a3 a6 (addI .i64 a8 1) (List.set (List.set a12 (Int.toNat a6) y3) (Int.toNat (subI .i64 a6 1)) y4)
 else
 bif eqB a6 a3 then
 some (true, a12)
 else
 bif ltB (subI .i64 a3 a1) 50 then
 some (false, a12)
 else
 nth a12 (subI .i64 a6 1) fun _ =>
 nth a12 a6 fun _ =>
 nthN a12 (Int.toNat (subI .i64 a6 1)) fun y7 =>
 nthN a12 (Int.toNat a6) fun y8 =>
 nth a12 a6 fun _ =>
 nthN a12 (Int.toNat a6) fun _y9 =>
 nth (List.set a12 (Int.toNat a6) y7) (subI .i64 a6 1) fun _ =>
 nthN (List.set a12 (Int.toNat a6) y7) (Int.toNat (subI .i64 a6 1)) fun _y10 =>
 bif leB 2 (subI .i64 a6 a1) then
 z07 a1 a3 a6 a8 (subI .i64 a6 1) (List.set (List.set a12 (Int.toNat a6) y7) (Int.toNat (subI .i64 a6 1)) y8)
 else
 bif leB 2 (subI .i64 a3 a6) then
 z05 a1 a3 a6 a8 (addI .i64 a6 1) (List.set (List.set a12 (Int.toNat a6) y7) (Int.toNat (subI .i64 a6 1)) y8)
 else
 z03 a1 a3 a6 (addI .i64 a8 1) (List.set (List.set a12 (Int.toNat a6) y7) (Int.toNat (subI .i64 a6 1)) y8)
 ) (z0y a1 a3 a6 a8 a10 a12) :=
 gL o8' (q08 Tryz.f161 [1,1,0,1,0,0,1,0,0,0,0,0])
theorem y4v (a1 a4 a6 : Int) (a8 : List Claim) : Le (
 bif leB a4 a6 then
 nth a8 a1 fun _ =>
 nth a8 a4 fun _ =>
 nthN a8 (Int.toNat a1) fun y0 =>
 nthN a8 (Int.toNat a4) fun y1 =>
 Option.bind (z09 y0 y1) fun x2 =>
 bif !(ltB x2 0) then
 z0s a1 (addI .i64 a4 1) a6 a8
 else
 z0e a1 a4 a6 false a8
 else
 z0e a1 a4 a6 false a8
 ) (z0s a1 a4 a6 a8) :=
 gL o6' (q08 Tryz.f162 [1,1,1,0,0,0,0,0,0,0])
theorem y3i (a1 a4 a6 : Int) (a8 : Bool) (a10 : List Claim) : Le (
 bif leB a4 a6 then
 nth a10 a6 fun _ =>
 nth a10 a1 fun _ =>
 nthN a10 (Int.toNat a6) fun y0 =>
 nthN a10 (Int.toNat a1) fun y1 =>
 Option.bind (z09 y0 y1) fun x2 =>
 bif !(ltB x2 0) then
 z12 a1 a4 (subI .i64 a6 1) a10
 else
 bif ltB a6 a4 then
 nth a10 a1 fun _ =>
 nth a10 a6 fun _ =>
 nthN a10 (Int.toNat a1) fun y3 =>
 nthN a10 (Int.toNat a6) fun y4 =>
 nth a10 a6 fun _ =>
 nthN a10 (Int.toNat a6) fun _y5 =>
 nth (List.set a10 (Int.toNat a6) y3) a1 fun _ =>
 nthN (List.set a10 (Int.toNat a6) y3) (Int.toNat a1) fun _y6 =>
 some (a6, true, (List.set (List.set a10 (Int.toNat a6) y3) (Int.toNat a1) y4))
 else
 nth a10 a6 fun _ =>
 nth a10 a4 fun _ =>
 nthN a10 (Int.toNat a6) fun y7 =>
 nthN a10 (Int.toNat a4) fun y8 =>
 nth a10 a4 fun _ =>
 nthN a10 (Int.toNat a4) fun _y9 =>
 nth (List.set a10 (Int.toNat a4) y7) a6 fun _ =>
 nthN (List.set a10 (Int.toNat a4) y7) (Int.toNat a6) fun _y10 =>
 z06 a1 (addI .i64 a4 1) (subI .i64 a6 1) (List.set (List.set a10 (Int.toNat a4) y7) (Int.toNat a6) y8)
 else
 bif ltB a6 a4 then
 nth a10 a1 fun _ =>
 nth a10 a6 fun _ =>
 nthN a10 (Int.toNat a1) fun y11 =>
 nthN a10 (Int.toNat a6) fun y12 =>
 nth a10 a6 fun _ =>
 nthN a10 (Int.toNat a6) fun _y13 =>
 nth (List.set a10 (Int.toNat a6) y11) a1 fun _ =>
 nthN (List.set a10 (Int.toNat a6) y11) (Int.toNat a1) fun _y14 =>
 some (a6, true, (List.set (List.set a10 (Int.toNat a6) y11) (Int.toNat a1) y12))
 else
 nth a10 a6 fun _ =>
 nth a10 a4 fun _ =>
 nthN a10 (Int.toNat a6) fun y15 =>
 nthN a10 (Int.toNat a4) fun y16 =>
 nth a10 a4 fun _ =>
 nthN a10 (Int.toNat a4) fun _y17 =>
 nth (List.set a10 (Int.toNat a4) y15) a6 fun _ =>
 nthN (List.set a10 (Int.toNat a4) y15) (Int.toNat a6) fun _y18 =>
 z06 a1 (addI .i64 a4 1) (subI .i64 a6 1) (List.set (List.set a10 (Int.toNat a4) y15) (Int.toNat a6) y16)
 ) (z0m a1 a4 a6 a8 a10) :=
 gL o4' (q08 Tryz.f163 [1,1,1,1,0,0,0])
theorem qzu (a1 : Int) (a3 : List Int) (a5 : Bool) (a7 : List Int) (a9 a11 : Int) (a13 : List Member) : Le (
 bif ltB a11 a9 then
 nth a7 a11 fun y0 =>
 nth a13 y0 fun y1 =>
 Option.bind (z3v y1.Trust a1) fun x2 =>
 bif !x2 then
 chk (0 ≤ y0) <|
 capOk (List.length a3 + List.length ([y0] : List Int)) <|
 z2l (subI .i64 a1 (shlI .i64 1 y0)) (a3 ++ ([y0] : List Int)) true a13
 else
 z24 a1 a3 a5 a7 a9 (addI .i64 a11 1) a13
 else
 z3y a1 a3 a5 a7 a9 a11 false a13
 ) (z24 a1 a3 a5 a7 a9 a11 a13) :=
 gL o5' (q08 Tryz.f112 [1,1,1,1,0,1,0,0,1,0,1,1,0,0])
theorem qzv (a0 : Int) (a2 : List Int) (a4 : Int) : Le (
 bif ltB a4 10 then
 Option.bind (z51 a0 a4) fun x0 =>
 bif x0 then
 capOk (List.length a2 + List.length ([a4] : List Int)) <|
 z3n a0 (a2 ++ ([a4] : List Int)) (addI .i64 a4 1)
 else
 z3n a0 a2 (addI .i64 a4 1)
 else
 some a2
 ) (z3n a0 a2 a4) :=
 gL o5' (q08 Tryz.f132 [1,1,0,1,0,0])
theorem qzh (a0 a3 : Int) (a5 : List Trust) (a7 a9 a11 : Int) (a13 : List Int) (a15 : List Trust) : Le (
 bif ltB a9 a7 then
 nth a5 a9 fun y0 =>
 Option.bind (z3v y0 a0) fun x1 =>
 bif x1 then
 z25 a0 (addI .i64 a3 1) a5 a7 (addI .i64 a9 1) a11 a13 a15
 else
 z25 a0 a3 a5 a7 (addI .i64 a9 1) a11 a13 a15
 else
 some (leB a11 a3)
 ) (z25 a0 a3 a5 a7 a9 a11 a13 a15) :=
 gL o0' (q08 Tryz.f131 [1,1,1,1,0,1,0,0])
theorem y3u (a1 a3 a6 a8 : Int) (a10 : List Claim) : Le (
 bif ltB a6 a3 then
 nth a10 a6 fun _ =>
 nth a10 (subI .i64 a6 1) fun _ =>
 nthN a10 (Int.toNat a6) fun y0 =>
 nthN a10 (Int.toNat (subI .i64 a6 1)) fun y1 =>
 Option.bind (z09 y0 y1) fun x2 =>
 bif !(ltB x2 0) then
 z0i a1 a3 (addI .i64 a6 1) a8 a10
 else
 bif eqB a6 a3 then
 some (true, a10)
 else
 bif ltB (subI .i64 a3 a1) 50 then
 some (false, a10)
 else
 nth a10 (subI .i64 a6 1) fun _ =>
 nth a10 a6 fun _ =>
 nthN a10 (Int.toNat (subI .i64 a6 1)) fun y3 =>
 nthN a10 (Int.toNat a6) fun y4 =>
 nth a10 a6 fun _ =>
 nthN a10 (Int.toNat a6) fun _y5 =>
 nth (List.set a10 (Int.toNat a6) y3) (subI .i64 a6 1) fun _ =>
 nthN (List.set a10 (Int.toNat a6) y3) (Int.toNat (subI .i64 a6 1)) fun _y6 =>
 bif leB 2 (subI .i64 a6 a1) then
 z07 a1 a3 a6 a8 (subI .i64 a6 1) (List.set (List.set a10 (Int.toNat a6) y3) (Int.toNat (subI .i64 a6 1)) y4)
 else
 bif leB 2 (subI .i64 a3 a6) then
 z05 a1 a3 a6 a8 (addI .i64 a6 1) (List.set (List.set a10 (Int.toNat a6) y3) (Int.toNat (subI .i64 a6 1)) y4)
 else
 z03 a1 a3 a6 (addI .i64 a8 1) (List.set (List.set a10 (Int.toNat a6) y3) (Int.toNat (subI .i64 a6 1)) y4)
 else
 bif eqB a6 a3 then
 some (true, a10)
 else
 bif ltB (subI .i64 a3 a1) 50 then
 some (false, a10)
 else
 nth a10 (subI .i64 a6 1) fun _ =>
 nth a10 a6 fun _ =>
 nthN a10 (Int.toNat (subI .i64 a6 1)) fun y7 =>
 nthN a10 (Int.toNat a6) fun y8 =>
 nth a10 a6 fun _ =>
 nthN a10 (Int.toNat a6) fun _y9 =>
 nth (List.set a10 (Int.toNat a6) y7) (subI .i64 a6 1) fun _ =>
 nthN (List.set a10 (Int.toNat a6) y7) (Int.toNat (subI .i64 a6 1)) fun _y10 =>
 bif leB 2 (subI .i64 a6 a1) then
 z07 a1 a3 a6 a8 (subI .i64 a6 1) (List.set (List.set a10 (Int.toNat a6) y7) (Int.toNat (subI .i64 a6 1)) y8)
 else
 bif leB 2 (subI .i64 a3 a6) then
 z05 a1 a3 a6 a8 (addI .i64 a6 1) (List.set (List.set a10 (Int.toNat a6) y7) (Int.toNat (subI .i64 a6 1)) y8)
 else
 z03 a1 a3 a6 (addI .i64 a8 1) (List.set (List.set a10 (Int.toNat a6) y7) (Int.toNat (subI .i64 a6 1)) y8)
 ) (z0i a1 a3 a6 a8 a10) :=
 gL o8' (q08 Tryz.f161 [1,1,0,1,0,0,1,0,0,0,0,0])
theorem y04 (a1 a3 a6 a8 a10 : Int) (a12 : List Claim) : Le (
 bif leB 1 a10 then
 nth a12 a10 fun _ =>
 nth a12 (subI .i64 a10 1) fun _ =>
 nthN a12 (Int.toNat a10) fun y0 =>
 nthN a12 (Int.toNat (subI .i64 a10 1)) fun y1 =>
 Option.bind (z09 y0 y1) fun x2 =>
 bif !(ltB x2 0) then
 bif leB 2 (subI .i64 a3 a6) then
 z05 a1 a3 a6 a8 (addI .i64 a6 1) a12
 else
 z03 a1 a3 a6 (addI .i64 a8 1) a12
 else
 nth a12 (subI .i64 a10 1) fun _ =>
 nth a12 a10 fun _ =>
 nthN a12 (Int.toNat (subI .i64 a10 1)) fun y3 =>
 nthN a12 (Int.toNat a10) fun y4 =>
 nth a12 a10 fun _ =>
 nthN a12 (Int.toNat a10) fun _y5 =>
 nth (List.set a12 (Int.toNat a10) y3) (subI .i64 a10 1) fun _ =>
 nthN (List.set a12 (Int.toNat a10) y3) (Int.toNat (subI .i64 a10 1)) fun _y6 =>
 z07 a1 a3 a6 a8 (subI .i64 a10 1) (List.set (List.set a12 (Int.toNat a10) y3) (Int.toNat (subI .i64 a10 1)) y4)
 else
 bif leB 2 (subI .i64 a3 a6) then
 z05 a1 a3 a6 a8 (addI .i64 a6 1) a12
 else
 z03 a1 a3 a6 (addI .i64 a8 1) a12
 ) (z07 a1 a3 a6 a8 a10 a12) :=
 gL o8' (q08 Tryz.f161 [1,1,0,1,0,0,1,0,0,1,1,1,1,0,1,0,1,0,0])
theorem y4h (a1 a3 a6 a8 a10 : Int) (a12 : List Claim) : Le (
 bif ltB a10 a3 then
 nth a12 a10 fun _ =>
 nth a12 (subI .i64 a10 1) fun _ =>
 nthN a12 (Int.toNat a10) fun y0 =>
 nthN a12 (Int.toNat (subI .i64 a10 1)) fun y1 =>
 Option.bind (z09 y0 y1) fun x2 =>
 bif !(ltB x2 0) then
 z03 a1 a3 a6 (addI .i64 a8 1) a12
 else
 nth a12 (subI .i64 a10 1) fun _ =>
 nth a12 a10 fun _ =>
 nthN a12 (Int.toNat (subI .i64 a10 1)) fun y3 =>
 nthN a12 (Int.toNat a10) fun y4 =>
 nth a12 a10 fun _ =>
 nthN a12 (Int.toNat a10) fun _y5 =>
 nth (List.set a12 (Int.toNat a10) y3) (subI .i64 a10 1) fun _ =>
 nthN (List.set a12 (Int.toNat a10) y3) (Int.toNat (subI .i64 a10 1)) fun _y6 =>
 z05 a1 a3 a6 a8 (addI .i64 a10 1) (List.set (List.set a12 (Int.toNat a10) y3) (Int.toNat (subI .i64 a10 1)) y4)
 else
 z03 a1 a3 a6 (addI .i64 a8 1) a12
 ) (z05 a1 a3 a6 a8 a10 a12) :=
 gL o8' (q08 Tryz.f161 [1,1,0,1,0,0,1,0,0,1,1,1,1,1,1,0,1,0,0])
theorem y3t (a1 a4 a6 : Int) (a8 : Bool) (a10 : List Claim) : Le (
 bif leB a4 a6 then
 nth a10 a1 fun _ =>
 nth a10 a6 fun _ =>
 nthN a10 (Int.toNat a1) fun y0 =>
 nthN a10 (Int.toNat a6) fun y1 =>
 Option.bind (z09 y0 y1) fun x2 =>
 bif ltB x2 0 then
 z0t a1 a4 (subI .i64 a6 1) a10
 else
 bif ltB a6 a4 then
 some (a4, a10)
 else
 nth a10 a6 fun _ =>
 nth a10 a4 fun _ =>
 nthN a10 (Int.toNat a6) fun y3 =>
 nthN a10 (Int.toNat a4) fun y4 =>
 nth a10 a4 fun _ =>
 nthN a10 (Int.toNat a4) fun _y5 =>
 nth (List.set a10 (Int.toNat a4) y3) a6 fun _ =>
 nthN (List.set a10 (Int.toNat a4) y3) (Int.toNat a6) fun _y6 =>
 z0a a1 (addI .i64 a4 1) (subI .i64 a6 1) (List.set (List.set a10 (Int.toNat a4) y3) (Int.toNat a6) y4)
 else
 bif ltB a6 a4 then
 some (a4, a10)
 else
 nth a10 a6 fun _ =>
 nth a10 a4 fun _ =>
 nthN a10 (Int.toNat a6) fun y7 =>
 nthN a10 (Int.toNat a4) fun y8 =>
 nth a10 a4 fun _ =>
 nthN a10 (Int.toNat a4) fun _y9 =>
 nth (List.set a10 (Int.toNat a4) y7) a6 fun _ =>
 nthN (List.set a10 (Int.toNat a4) y7) (Int.toNat a6) fun _y10 =>
 z0a a1 (addI .i64 a4 1) (subI .i64 a6 1) (List.set (List.set a10 (Int.toNat a4) y7) (Int.toNat a6) y8)
 ) (z0e a1 a4 a6 a8 a10) :=
 gL o6' (q08 Tryz.f162 [1,1,1,0,0,0,0,1,0,0,0])
theorem y7r (a1 a4 a6 : Int) (a8 : List Claim) : Le (
 bif leB a4 a6 then
 nth a8 a6 fun _ =>
 nth a8 a1 fun _ =>
 nthN a8 (Int.toNat a6) fun y0 =>
 nthN a8 (Int.toNat a1) fun y1 =>
 Option.bind (z09 y0 y1) fun x2 =>
 bif !(ltB x2 0) then
 z12 a1 a4 (subI .i64 a6 1) a8
 else
 bif ltB a6 a4 then
 nth a8 a1 fun _ =>
 nth a8 a6 fun _ =>
 nthN a8 (Int.toNat a1) fun y3 =>
 nthN a8 (Int.toNat a6) fun y4 =>
 nth a8 a6 fun _ =>
 nthN a8 (Int.toNat a6) fun _y5 =>
 nth (List.set a8 (Int.toNat a6) y3) a1 fun _ =>
 nthN (List.set a8 (Int.toNat a6) y3) (Int.toNat a1) fun _y6 =>
 some (a6, true, (List.set (List.set a8 (Int.toNat a6) y3) (Int.toNat a1) y4))
 else
 nth a8 a6 fun _ =>
 nth a8 a4 fun _ =>
 nthN a8 (Int.toNat a6) fun y7 =>
 nthN a8 (Int.toNat a4) fun y8 =>
 nth a8 a4 fun _ =>
 nthN a8 (Int.toNat a4) fun _y9 =>
 nth (List.set a8 (Int.toNat a4) y7) a6 fun _ =>
 nthN (List.set a8 (Int.toNat a4) y7) (Int.toNat a6) fun _y10 =>
 z06 a1 (addI .i64 a4 1) (subI .i64 a6 1) (List.set (List.set a8 (Int.toNat a4) y7) (Int.toNat a6) y8)
 else
 bif ltB a6 a4 then
 nth a8 a1 fun _ =>
 nth a8 a6 fun _ =>
 nthN a8 (Int.toNat a1) fun y11 =>
 nthN a8 (Int.toNat a6) fun y12 =>
 nth a8 a6 fun _ =>
 nthN a8 (Int.toNat a6) fun _y13 =>
 nth (List.set a8 (Int.toNat a6) y11) a1 fun _ =>
 nthN (List.set a8 (Int.toNat a6) y11) (Int.toNat a1) fun _y14 =>
 some (a6, true, (List.set (List.set a8 (Int.toNat a6) y11) (Int.toNat a1) y12))
 else
 nth a8 a6 fun _ =>
 nth a8 a4 fun _ =>
 nthN a8 (Int.toNat a6) fun y15 =>
 nthN a8 (Int.toNat a4) fun y16 =>
 nth a8 a4 fun _ =>
 nthN a8 (Int.toNat a4) fun _y17 =>
 nth (List.set a8 (Int.toNat a4) y15) a6 fun _ =>
 nthN (List.set a8 (Int.toNat a4) y15) (Int.toNat a6) fun _y18 =>
 z06 a1 (addI .i64 a4 1) (subI .i64 a6 1) (List.set (List.set a8 (Int.toNat a4) y15) (Int.toNat a6) y16)
 ) (z12 a1 a4 a6 a8) :=
 gL o4' (q08 Tryz.f163 [1,1,1,1,0,0,0])
end Go.Proofs.YthbpagedblodfaaGreat
