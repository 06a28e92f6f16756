/- What the functions come to, printed by a program and checked by the kernel. -/
import Derived.Test.YtglokalgdbegeaaGreatP22Df
namespace Go.Proofs.YtglokalgdbegeaaGreat
open Go Go.Ab
set_option maxRecDepth 100000
theorem law22_NominationFollows_le a : eL (law22_NominationFollows a) (
 Option.bind (z5r a) fun x0 =>
 Option.bind (z2d 4 x0.2.1 x0.2.2) fun x1 =>
 Option.bind (z2d 100 x1.2.1 x1.2.2) fun x2 =>
 Option.bind (z57 4 2 x2.2.1 x2.2.2) fun x3 =>
 Option.bind (z5p x3.2.1 x3.2.2) fun x4 =>
 Option.bind (z2p x1.1 x2.1 x3.1 x4.1) fun x5 =>
 bif neB x5.2 0 then
 some false
 else
 z18 1 x4.2.1 x4.2.2 x5.1.Node x5.1.Slot x5.1.Round x5.1.Seq x5.1.Trust.Threshold x5.1.Trust.Nodes x5.1.Trust.Inner x5.1.Own x5.1.Votes x5.1.Accepts x5.1.Candidates x5.1.Heard
 ) :=
 cL o0' Tryz.func6
theorem y1c a : eL (z5r a) (
 hiK (List.length a) (if 400 < (a.length : Int) then 400 else (a.length : Int)) fun b0 =>
 some ((), (List.drop 0 (List.take b0 a)), 0)
 ) :=
 cL o26' Tryz.func8
theorem qva a b c : eL (z2d a b c) (
 bif (leB (b.length : Int) c) then
 some (0, b, c)
 else
 nth b c fun y0 =>
 chk (a ≠ 0) <|
 bif ltB (remI .i64 y0 a) 0 then
 some ((addI .i64 (remI .i64 y0 a) a), b, (addI .i64 c 1))
 else
 some ((remI .i64 y0 a), b, (addI .i64 c 1))
 ) :=
 cL o16' Tryz.func10
theorem y7b a b c : eL (z5g a b c) (
 Option.bind (z2d (a.length : Int) b c) fun x0 =>
 nth a x0.1 fun y1 =>
 some (y1, x0.2.1, x0.2.2)
 ) :=
 cL o16' Tryz.func16
theorem y6f a b c d : eL (z2g a b c d) (
 Option.bind (z2d (addI .i64 (subI .i64 b a) 1) c d) fun x0 =>
 some ((addI .i64 a x0.1), x0.2.1, x0.2.2)
 ) :=
 cL o16' Tryz.func9
theorem law22_awake_le  : Le (
 Option.bind (z30 ([([98] : List UInt8), ([97, 97] : List UInt8), ([97, 98] : List UInt8)] : List (List UInt8))) fun x0 =>
 Option.bind (z2p 3 0 (Trust.mk 1 ([3] : List Int) ([] : List Trust)) ([109, 101] : List UInt8)) fun x1 =>
 bif x0.2 then
 bif eqS x0.1 ([97, 98] : List UInt8) then
 bif eqB x1.2 0 then
 bif (eqB (x1.1.Candidates.length : Int) 1) then
 nth x1.1.Candidates 0 fun y2 =>
 some (eqS y2 ([109, 101] : List UInt8))
 else
 some false
 else
 some false
 else
 some false
 else
 some false
 ) (law22_awake) :=
 cL o0' Tryz.func14
theorem y4s a b c : eL (z59 a b c) (
 Option.bind (z2d a b c) fun x0 =>
 Option.bind (z2g 1 5 x0.2.1 x0.2.2) fun x1 =>
 Option.bind (z57 a 2 x1.2.1 x1.2.2) fun x2 =>
 Option.bind (z5m 3 x2.2.1 x2.2.2) fun x3 =>
 Option.bind (z5m 2 x3.2.1 x3.2.2) fun x4 =>
 some ((Nomination.mk x0.1 x1.1 (Trust.mk x2.1.Threshold x2.1.Nodes x2.1.Inner) x3.1 x4.1), x4.2.1, x4.2.2)
 ) :=
 cL o27' Tryz.func22
theorem y2h a b c d : eL (z57 a b c d) (
 Option.bind (z5h a b c d) fun x0 =>
 Option.bind (z3j x0.1) fun x1 =>
 bif neB x1 0 then
 Option.bind (z2d a x0.2.1 x0.2.2) fun x2 =>
 some ((Trust.mk 1 ([x2.1] : List Int) []), x2.2.1, x2.2.2)
 else
 some ((Trust.mk x0.1.Threshold x0.1.Nodes x0.1.Inner), x0.2.1, x0.2.2)
 ) :=
 cL o11' Tryz.func27
theorem y5e a b : eL (z5p a b) (
 Option.bind (z2d 8 a b) fun x0 =>
 nth ([([97] : List UInt8), ([98] : List UInt8), ([97, 97] : List UInt8), ([97, 98] : List UInt8), ([99] : List UInt8), ([122, 122] : List UInt8), ([97, 98, 99] : List UInt8), ([98] : List UInt8)] : List (List UInt8)) x0.1 fun y1 =>
 some (y1, x0.2.1, x0.2.2)
 ) :=
 cL o28' Tryz.func18
theorem y5y a b c d : eL (z2p a b c d) (
 Option.bind (z3m a) fun x0 =>
 bif !x0 then
 some ((Nominator.mk 0 0 0 0 (Trust.mk 0 [] []) [] ([] : List (List UInt8)) ([] : List (List UInt8)) ([] : List (List UInt8)) []), 5)
 else
 bif ltB b 0 then
 some ((Nominator.mk 0 0 0 0 (Trust.mk 0 [] []) [] ([] : List (List UInt8)) ([] : List (List UInt8)) ([] : List (List UInt8)) []), 1)
 else
 bif ltB 1000000 b then
 some ((Nominator.mk 0 0 0 0 (Trust.mk 0 [] []) [] ([] : List (List UInt8)) ([] : List (List UInt8)) ([] : List (List UInt8)) []), 1)
 else
 Option.bind (z25 c) fun x1 =>
 bif neB x1 0 then
 some ((Nominator.mk 0 0 0 0 (Trust.mk 0 [] []) [] ([] : List (List UInt8)) ([] : List (List UInt8)) ([] : List (List UInt8)) []), x1)
 else
 bif (ltB 200 (d.length : Int)) then
 some ((Nominator.mk 0 0 0 0 (Trust.mk 0 [] []) [] ([] : List (List UInt8)) ([] : List (List UInt8)) ([] : List (List UInt8)) []), 3)
 else
 Option.bind (z2q (Nominator.mk a b 1 1 (Trust.mk c.Threshold c.Nodes c.Inner) d ([] : List (List UInt8)) ([] : List (List UInt8)) ([] : List (List UInt8)) [])) fun x2 =>
 Option.bind (z1m x2) fun x3 =>
 some ((Nominator.mk x3.Node x3.Slot x3.Round x3.Seq (Trust.mk x3.Trust.Threshold x3.Trust.Nodes x3.Trust.Inner) x3.Own x3.Votes x3.Accepts x3.Candidates x3.Heard), 0)
 ) :=
 cL o12' Tryz.func12
theorem y7q a : eL (z30 a) (
 z1p [] a (a.length : Int) 0
 ) :=
 cL o13' Tryz.func25
theorem y4y a b c : eL (z5m a b c) (
 z2s a ([] : List (List UInt8)) ([([97] : List UInt8), ([98] : List UInt8), ([99] : List UInt8), ([97, 97] : List UInt8), ([97, 98] : List UInt8), ([122, 122] : List UInt8), ([97, 98, 99] : List UInt8)] : List (List UInt8)) ((List.length ([([97] : List UInt8), ([98] : List UInt8), ([99] : List UInt8), ([97, 97] : List UInt8), ([97, 98] : List UInt8), ([122, 122] : List UInt8), ([97, 98, 99] : List UInt8)] : List (List UInt8)) : Nat) : Int) 0 b c
 ) :=
 cL o18' Tryz.func67
theorem y0i a b c d : eL (z5h a b c d) (
 Option.bind (z5a a c d) fun x0 =>
 Option.bind (z2g 1 (if 5 < a then 5 else a) x0.2.1 x0.2.2) fun x1 =>
 hiK (List.length x0.1) x1.1 fun b2 =>
 z46 a b (List.drop 0 (List.take b2 x0.1)) ((List.length (List.drop 0 (List.take b2 x0.1)) : Nat) : Int) 0 x1.2.1 x1.2.2 0 [] [] 0 [] []
 ) :=
 cL o11' Tryz.func74
theorem qsc a : eL (z3j a) (
 Option.bind (z5d a) fun x0 =>
 bif ltB 4 x0 then
 some 3
 else
 Option.bind (z5j a) fun x1 =>
 bif ltB 200 x1 then
 some 3
 else
 Option.bind (z3k a) fun x2 =>
 some x2
 ) :=
 cL o1' Tryz.func75
theorem y6k a : eL (z3m a) (
 bif leB 0 a then
 some (ltB a 10)
 else
 some false
 ) :=
 cL o0' Tryz.func55
theorem y4l a : eL (z25 a) (
 Option.bind (z4b a) fun x0 =>
 bif ltB 4 x0 then
 some 3
 else
 Option.bind (z4k a) fun x1 =>
 bif ltB 200 x1 then
 some 3
 else
 Option.bind (z4c a) fun x2 =>
 some x2
 ) :=
 cL o1' Tryz.func56
theorem y5i a : eL (z2q a) (
 bif (eqB (a.Candidates.length : Int) 0) then
 Option.bind (z4p a) fun x0 =>
 Option.bind (z4d (Nominator.mk a.Node a.Slot a.Round a.Seq (Trust.mk a.Trust.Threshold a.Trust.Nodes a.Trust.Inner) a.Own x0 a.Accepts a.Candidates a.Heard)) fun x1 =>
 Option.bind (z38 (Nominator.mk a.Node a.Slot a.Round a.Seq (Trust.mk a.Trust.Threshold a.Trust.Nodes a.Trust.Inner) a.Own x0 a.Accepts a.Candidates a.Heard) x1) fun x2 =>
 z2a x2.1 x2.2 a.Node a.Slot a.Round a.Seq a.Trust.Threshold a.Trust.Nodes a.Trust.Inner a.Own x0 a.Accepts a.Candidates a.Heard 0 0 0 0 0 [] [] [] ([] : List (List UInt8)) ([] : List (List UInt8)) ([] : List (List UInt8)) [] x1.Members
 else
 Option.bind (z4d a) fun x3 =>
 Option.bind (z38 a x3) fun x4 =>
 z2a x4.1 x4.2 a.Node a.Slot a.Round a.Seq a.Trust.Threshold a.Trust.Nodes a.Trust.Inner a.Own a.Votes a.Accepts a.Candidates a.Heard 0 0 0 0 0 [] [] [] ([] : List (List UInt8)) ([] : List (List UInt8)) ([] : List (List UInt8)) [] x3.Members
 ) :=
 cL o6' Tryz.func58
theorem y4n a : eL (z1m a) (
 Option.bind (z3a a.Trust) fun x0 =>
 Option.bind (z1c a.Votes) fun x1 =>
 Option.bind (z1c a.Accepts) fun x2 =>
 Option.bind (z1c a.Candidates) fun x3 =>
 z2j a.Heard (a.Heard.length : Int) 0 a.Node a.Slot a.Round a.Seq x0.Threshold x0.Nodes x0.Inner a.Own x1.2 x2.2 x3.2 [] 0 0 0 0 0 [] [] [] ([] : List (List UInt8)) ([] : List (List UInt8)) ([] : List (List UInt8)) []
 ) :=
 cL o6' Tryz.func57
theorem y8o a b c : eL (z5a a b c) (
 z3c a [] 0 b c
 ) :=
 cL o17' Tryz.func117
theorem y4p a : eL (z5d a) (
 z42 0 a.Inner (a.Inner.length : Int) 0 a.Threshold a.Nodes a.Inner
 ) :=
 cL o1' Tryz.func118
theorem y4o a : eL (z5j a) (
 z4f (addI .i64 (a.Nodes.length : Int) (a.Inner.length : Int)) a.Inner (a.Inner.length : Int) 0 a.Threshold a.Nodes a.Inner
 ) :=
 cL o1' Tryz.func119
end Go.Proofs.YtglokalgdbegeaaGreat
