/- What the functions come to, printed by a program and checked by the kernel. -/
import Derived.Test.YtglokalgdbegeaaGreatP22Df
namespace Go.Proofs.YtglokalgdbegeaaGreat
open Go Go.Ab
set_option maxRecDepth 100000
theorem law22_NominationAll_le a : eL (law22_NominationAll a) (
 Option.bind (z5n a) fun x0 =>
 Option.bind (z56 1 5 x0.2.1 x0.2.2) fun x1 =>
 z1q x1.1 0 x1.2.1 x1.2.2 x1.1 [] []
 ) :=
 cL o0' Tryz.func3
theorem y32 a : eL (z5n a) (
 hiK (List.length a) (if 400 < (a.length : Int) then 400 else (a.length : Int)) fun b0 =>
 some ((), (List.drop 0 (List.take b0 a)), 0)
 ) :=
 cL o24' Tryz.func8
theorem qwf a b c : eL (z54 a b c) (
 bif (leB (b.length : Int) c) then
 some (0, b, c)
 else
 nth b c fun y0 =>
 chk (a ≠ 0) <|
 bif ltB (remI .i64 y0 a) 0 then
 some ((addI .i64 (remI .i64 y0 a) a), b, (addI .i64 c 1))
 else
 some ((remI .i64 y0 a), b, (addI .i64 c 1))
 ) :=
 cL o16' Tryz.func10
theorem y9n a b c d : eL (z56 a b c d) (
 Option.bind (z54 (addI .i64 (subI .i64 b a) 1) c d) fun x0 =>
 some ((addI .i64 a x0.1), x0.2.1, x0.2.2)
 ) :=
 cL o16' Tryz.func9
theorem law22_awake_le  : Le (
 Option.bind (z2v ([([98] : List UInt8), ([97, 97] : List UInt8), ([97, 98] : List UInt8)] : List (List UInt8))) fun x0 =>
 Option.bind (z25 3 0 (Trust.mk 1 ([3] : List Int) ([] : List Trust)) ([109, 101] : List UInt8)) fun x1 =>
 bif x0.2 then
 bif eqS x0.1 ([97, 98] : List UInt8) then
 bif eqB x1.2 0 then
 bif (eqB (x1.1.Candidates.length : Int) 1) then
 nth x1.1.Candidates 0 fun y2 =>
 some (eqS y2 ([109, 101] : List UInt8))
 else
 some false
 else
 some false
 else
 some false
 else
 some false
 ) (law22_awake) :=
 cL o0' Tryz.func14
theorem y7r a b c d : eL (z25 a b c d) (
 Option.bind (z3g a) fun x0 =>
 bif !x0 then
 some ((Nominator.mk 0 0 0 0 (Trust.mk 0 [] []) [] ([] : List (List UInt8)) ([] : List (List UInt8)) ([] : List (List UInt8)) []), 5)
 else
 bif ltB b 0 then
 some ((Nominator.mk 0 0 0 0 (Trust.mk 0 [] []) [] ([] : List (List UInt8)) ([] : List (List UInt8)) ([] : List (List UInt8)) []), 1)
 else
 bif ltB 1000000 b then
 some ((Nominator.mk 0 0 0 0 (Trust.mk 0 [] []) [] ([] : List (List UInt8)) ([] : List (List UInt8)) ([] : List (List UInt8)) []), 1)
 else
 Option.bind (z2b c) fun x1 =>
 bif neB x1 0 then
 some ((Nominator.mk 0 0 0 0 (Trust.mk 0 [] []) [] ([] : List (List UInt8)) ([] : List (List UInt8)) ([] : List (List UInt8)) []), x1)
 else
 bif (ltB 200 (d.length : Int)) then
 some ((Nominator.mk 0 0 0 0 (Trust.mk 0 [] []) [] ([] : List (List UInt8)) ([] : List (List UInt8)) ([] : List (List UInt8)) []), 3)
 else
 Option.bind (z2n (Nominator.mk a b 1 1 (Trust.mk c.Threshold c.Nodes c.Inner) d ([] : List (List UInt8)) ([] : List (List UInt8)) ([] : List (List UInt8)) [])) fun x2 =>
 Option.bind (z1u x2) fun x3 =>
 some ((Nominator.mk x3.Node x3.Slot x3.Round x3.Seq (Trust.mk x3.Trust.Threshold x3.Trust.Nodes x3.Trust.Inner) x3.Own x3.Votes x3.Accepts x3.Candidates x3.Heard), 0)
 ) :=
 cL o17' Tryz.func12
theorem y70 a : eL (z2v a) (
 z1n [] a (a.length : Int) 0
 ) :=
 cL o11' Tryz.func25
theorem yas a : eL (z5g a) (
 Option.bind (z58 a) fun x0 =>
 bif ltB 4 x0 then
 some 3
 else
 Option.bind (z5d a) fun x1 =>
 bif ltB 200 x1 then
 some 3
 else
 Option.bind (z59 a) fun x2 =>
 some x2
 ) :=
 cL o1' Tryz.func75
theorem y8c a : eL (z3g a) (
 bif leB 0 a then
 some (ltB a 10)
 else
 some false
 ) :=
 cL o0' Tryz.func55
theorem y6y a : eL (z2b a) (
 Option.bind (z47 a) fun x0 =>
 bif ltB 4 x0 then
 some 3
 else
 Option.bind (z4i a) fun x1 =>
 bif ltB 200 x1 then
 some 3
 else
 Option.bind (z48 a) fun x2 =>
 some x2
 ) :=
 cL o1' Tryz.func56
theorem yap a : eL (z2n a) (
 bif (eqB (a.Candidates.length : Int) 0) then
 Option.bind (z4n a) fun x0 =>
 Option.bind (z49 (Nominator.mk a.Node a.Slot a.Round a.Seq (Trust.mk a.Trust.Threshold a.Trust.Nodes a.Trust.Inner) a.Own x0 a.Accepts a.Candidates a.Heard)) fun x1 =>
 Option.bind (z33 (Nominator.mk a.Node a.Slot a.Round a.Seq (Trust.mk a.Trust.Threshold a.Trust.Nodes a.Trust.Inner) a.Own x0 a.Accepts a.Candidates a.Heard) x1) fun x2 =>
 z2a x2.1 x2.2 a.Node a.Slot a.Round a.Seq a.Trust.Threshold a.Trust.Nodes a.Trust.Inner a.Own x0 a.Accepts a.Candidates a.Heard 0 0 0 0 0 [] [] [] ([] : List (List UInt8)) ([] : List (List UInt8)) ([] : List (List UInt8)) [] x1.Members
 else
 Option.bind (z49 a) fun x3 =>
 Option.bind (z33 a x3) fun x4 =>
 z2a x4.1 x4.2 a.Node a.Slot a.Round a.Seq a.Trust.Threshold a.Trust.Nodes a.Trust.Inner a.Own a.Votes a.Accepts a.Candidates a.Heard 0 0 0 0 0 [] [] [] ([] : List (List UInt8)) ([] : List (List UInt8)) ([] : List (List UInt8)) [] x3.Members
 ) :=
 cL o6' Tryz.func58
theorem y7v a : eL (z1u a) (
 Option.bind (z38 a.Trust) fun x0 =>
 Option.bind (z1b a.Votes) fun x1 =>
 Option.bind (z1b a.Accepts) fun x2 =>
 Option.bind (z1b a.Candidates) fun x3 =>
 z2h a.Heard (a.Heard.length : Int) 0 a.Node a.Slot a.Round a.Seq x0.Threshold x0.Nodes x0.Inner a.Own x1.2 x2.2 x3.2 [] 0 0 0 0 0 [] [] [] ([] : List (List UInt8)) ([] : List (List UInt8)) ([] : List (List UInt8)) []
 ) :=
 cL o6' Tryz.func57
theorem y96 a : eL (z58 a) (
 z40 0 a.Inner (a.Inner.length : Int) 0 a.Threshold a.Nodes a.Inner
 ) :=
 cL o1' Tryz.func118
theorem yav a : eL (z5d a) (
 z4b (addI .i64 (a.Nodes.length : Int) (a.Inner.length : Int)) a.Inner (a.Inner.length : Int) 0 a.Threshold a.Nodes a.Inner
 ) :=
 cL o1' Tryz.func119
end Go.Proofs.YtglokalgdbegeaaGreat
