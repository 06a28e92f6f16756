/- What the functions come to, printed by a program and checked by the kernel. -/
import Derived.Test.YtglokalgdbegeaaGreatP22Df
namespace Go.Proofs.YtglokalgdbegeaaGreat
open Go Go.Ab
set_option maxRecDepth 100000
theorem y9c a : eL (z59 a) (
 bif ltB a.Threshold 1 then
 some 4
 else
 bif (ltB (addI .i64 (a.Nodes.length : Int) (a.Inner.length : Int)) a.Threshold) then
 some 4
 else
 z3b a.Nodes (a.Nodes.length : Int) 0 a.Threshold a.Nodes a.Inner
 ) :=
 cL o1' Tryz.func120
theorem yb2 a : eL (z47 a) (
 z2p 0 a.Inner (a.Inner.length : Int) 0 a.Threshold a.Nodes a.Inner
 ) :=
 cL o1' Tryz.func97
theorem y8y a : eL (z4i a) (
 z30 (addI .i64 (a.Nodes.length : Int) (a.Inner.length : Int)) a.Inner (a.Inner.length : Int) 0 a.Threshold a.Nodes a.Inner
 ) :=
 cL o1' Tryz.func98
theorem y7f a : eL (z48 a) (
 bif ltB a.Threshold 1 then
 some 4
 else
 bif (ltB (addI .i64 (a.Nodes.length : Int) (a.Inner.length : Int)) a.Threshold) then
 some 4
 else
 Option.bind (z1e a.Nodes) fun x0 =>
 bif x0 then
 some 5
 else
 Option.bind (z5j a.Nodes) fun x1 =>
 bif neB x1.2 0 then
 some x1.2
 else
 z2q a.Inner (a.Inner.length : Int) 0 a.Threshold a.Nodes a.Inner
 ) :=
 cL o1' Tryz.func99
theorem yag a : eL (z4n a) (
 Option.bind (z4r a.Trust a.Node a.Slot a.Round) fun x0 =>
 Option.bind (z4q x0.1) fun x1 =>
 z1t a.Votes x1 (x1.length : Int) 0 a.Node a.Slot a.Round a.Seq a.Trust.Threshold a.Trust.Nodes a.Trust.Inner a.Own a.Votes a.Accepts a.Candidates a.Heard
 ) :=
 cL o5' Tryz.func102
theorem yaw a : eL (z49 a) (
 z2r [] a.Heard (a.Heard.length : Int) 0 a.Node a.Slot a.Round a.Seq a.Trust.Threshold a.Trust.Nodes a.Trust.Inner a.Own a.Votes a.Accepts a.Candidates a.Heard []
 ) :=
 cL o12' Tryz.func103
theorem y9j a b : eL (z33 a b) (
 Option.bind (z1h a.Heard) fun x0 =>
 Option.bind (z3v a) fun x1 =>
 capOk (List.length x0.2 + List.length ([(Nomination.mk x1.Node x1.Seq (Trust.mk x1.Trust.Threshold x1.Trust.Nodes x1.Trust.Inner) x1.Votes x1.Accepts)] : List Nomination)) <|
 Option.bind (z3w (x0.2 ++ ([(Nomination.mk x1.Node x1.Seq (Trust.mk x1.Trust.Threshold x1.Trust.Nodes x1.Trust.Inner) x1.Votes x1.Accepts)] : List Nomination))) fun x2 =>
 z24 (x0.2 ++ ([(Nomination.mk x1.Node x1.Seq (Trust.mk x1.Trust.Threshold x1.Trust.Nodes x1.Trust.Inner) x1.Votes x1.Accepts)] : List Nomination)) x2 (x2.length : Int) 0 a.Node a.Slot a.Round a.Seq a.Trust.Threshold a.Trust.Nodes a.Trust.Inner a.Own a.Votes a.Accepts a.Candidates a.Heard b.Members
 ) :=
 cL o11' Tryz.func104
theorem y7z a : eL (z38 a) (
 Option.bind (z2x a.Nodes) fun x0 =>
 z2j a.Inner (a.Inner.length : Int) 0 a.Threshold a.Nodes a.Inner 0 [] [] a.Threshold x0.2 []
 ) :=
 cL o13' Tryz.func100
theorem y87 (a : List (List UInt8)) : Le (
 capOk (List.length ([] : List (List UInt8)) + List.length a) <|
 some ((), (([] : List (List UInt8)) ++ a))
 ) (z1b a) :=
 qi0 (T := tn) (c := qfw Tryz.f101) (rest := q0b Tryz.f101 [1,1]) (o := ⟨[.ref 0],[[.own .s false]]⟩) sigOk 100000 (by kernel_rfl) Tryz.func101 (by kernel_rfl) (by kernel_rfl) (by kernel_rfl) (by kernel_rfl) (fun hx r hr => by subst hx; cases hr; exact ⟨rfl, rfl⟩)
theorem y8j a : eL (z1e a) (
 Option.bind (z1m a) fun x0 =>
 some (leB 0 x0)
 ) :=
 cL o0' Tryz.func134
theorem y7d a : eL (z5j a) (
 z34 0 a (a.length : Int) 0
 ) :=
 cL o3' Tryz.func137
theorem y72 a b c d : eL (z4r a b c d) (
 Option.bind (z57 a b c d) fun x0 =>
 bif neB x0 0 then
 some (0, x0)
 else
 z2s b c 0 d 0 a.Threshold a.Nodes a.Inner
 ) :=
 cL o3' Tryz.func139
theorem y7k a : eL (z4q a) (
 z2t a [] 0
 ) :=
 cL o18' Tryz.func140
theorem y8p (a : List Nomination) : Le (
 capOk (List.length ([] : List Nomination) + List.length a) <|
 some ((), (([] : List Nomination) ++ a))
 ) (z1h a) :=
 qi0 (T := tn) (c := qfw Tryz.f71) (rest := q0b Tryz.f71 [1,1]) (o := ⟨[.ref 0],[[.own .Nomination false]]⟩) sigOk 100000 (by kernel_rfl) Tryz.func71 (by kernel_rfl) (by kernel_rfl) (by kernel_rfl) (by kernel_rfl) (fun hx r hr => by subst hx; cases hr; exact ⟨rfl, rfl⟩)
theorem y7q a : eL (z3v a) (
 some (Nomination.mk a.Node a.Seq (Trust.mk a.Trust.Threshold a.Trust.Nodes a.Trust.Inner) a.Votes a.Accepts)
 ) :=
 cL o15' Tryz.func65
theorem y78 a : eL (z3w a) (
 z31 ([] : List (List UInt8)) a (a.length : Int) 0
 ) :=
 cL o5' Tryz.func141
theorem y73 (a : List Int) : Le (
 capOk (List.length ([] : List Int) + List.length a) <|
 some ((), (([] : List Int) ++ a))
 ) (z2x a) :=
 qi0 (T := tn) (c := qfw Tryz.f138) (rest := q0b Tryz.f138 [1,1]) (o := ⟨[.ref 0],[[.own .i64 false]]⟩) sigOk 100000 (by kernel_rfl) Tryz.func138 (by kernel_rfl) (by kernel_rfl) (by kernel_rfl) (by kernel_rfl) (fun hx r hr => by subst hx; cases hr; exact ⟨rfl, rfl⟩)
theorem ya2 a : eL (z5h a) (
 bif leB 0 a then
 some (leB a 1023)
 else
 some false
 ) :=
 cL o0' Tryz.func66
theorem y8o a : eL (z1m a) (
 z0p a (a.length : Int) 0
 ) :=
 cL o1' Tryz.func163
theorem y7y a b c d : eL (z57 a b c d) (
 Option.bind (z2b a) fun x0 =>
 bif neB x0 0 then
 some x0
 else
 bif ltB b 0 then
 some 5
 else
 bif leB 10 b then
 some 5
 else
 bif ltB c 0 then
 some 1
 else
 bif ltB 1000000 c then
 some 1
 else
 bif ltB d 1 then
 some 1
 else
 bif ltB 1000 d then
 some 1
 else
 some 0
 ) :=
 cL o1' Tryz.func164
theorem y7o a b c d : eL (z4y a b c d) (
 Option.bind (z5a a b c d) fun x0 =>
 bif neB x0 0 then
 some (0, x0)
 else
 z1g b c d b 0 a.Threshold a.Nodes a.Inner
 ) :=
 cL o3' Tryz.func11
theorem y8f a b c d : eL (z5a a b c d) (
 Option.bind (z5g a) fun x0 =>
 bif neB x0 0 then
 some x0
 else
 bif ltB b 0 then
 some 5
 else
 bif leB 10 b then
 some 5
 else
 bif ltB c 0 then
 some 1
 else
 bif ltB 1000000 c then
 some 1
 else
 bif ltB d 1 then
 some 1
 else
 bif ltB 1000 d then
 some 1
 else
 some 0
 ) :=
 cL o1' Tryz.func52
theorem y3p a b c d e f g : eL (z1q a b c d e f g) (
 bif ltB b a then
 capOk (List.length f + List.length ([b] : List Int)) <|
 z1q a (addI .i64 b 1) c d e (f ++ ([b] : List Int)) g
 else
 Option.bind (z54 1000 c d) fun x0 =>
 Option.bind (z4y (Trust.mk e f g) 0 x0.1 1) fun x1 =>
 z1x a x0.1 x1.1 [] [] 0 x0.2.1 x0.2.2 e f g
 ) :=
 gL o0' (q0b Tryz.f3 [1,1,1,1,0,1,0,0])
theorem y9p a : eL (z4o a) (
 Option.bind (z45 a) fun x0 =>
 bif !x0 then
 some false
 else
 Option.bind (z2b a.Trust) fun x1 =>
 bif neB x1 0 then
 some false
 else
 bif (ltB 200 (a.Own.length : Int)) then
 some false
 else
 Option.bind (z2m a.Votes) fun x2 =>
 bif !x2 then
 some false
 else
 Option.bind (z2m a.Accepts) fun x3 =>
 bif !x3 then
 some false
 else
 Option.bind (z2m a.Candidates) fun x4 =>
 bif !x4 then
 some false
 else
 Option.bind (z18 a.Candidates a.Node a.Slot a.Round a.Seq a.Trust.Threshold a.Trust.Nodes a.Trust.Inner a.Own a.Votes a.Accepts a.Candidates a.Heard) fun x5 =>
 bif x5.1 then
 some false
 else
 z1o x5.2.2.2.2.2.2.2.2.2.2.2.2 (x5.2.2.2.2.2.2.2.2.2.2.2.2.length : Int) 0 x5.2.1 x5.2.2.1 x5.2.2.2.1 x5.2.2.2.2.1 x5.2.2.2.2.2.1 x5.2.2.2.2.2.2.1 x5.2.2.2.2.2.2.2.1 x5.2.2.2.2.2.2.2.2.1 x5.2.2.2.2.2.2.2.2.2.1 x5.2.2.2.2.2.2.2.2.2.2.1 x5.2.2.2.2.2.2.2.2.2.2.2.1 x5.2.2.2.2.2.2.2.2.2.2.2.2
 ) :=
 cL o0' Tryz.func30
end Go.Proofs.YtglokalgdbegeaaGreat
