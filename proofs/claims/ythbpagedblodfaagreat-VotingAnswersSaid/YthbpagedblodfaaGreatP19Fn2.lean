/- What the functions come to, printed by a program and checked by the kernel. -/
import Derived.Test.YthbpagedblodfaaGreatP19Df
namespace Go.Proofs.YthbpagedblodfaaGreat
open Go Go.Ab
set_option maxRecDepth 100000
theorem y7t a : eL (z7i a) (
 Option.bind (z7h a) fun x0 =>
 some x0
 ) :=
 cL o1' Tryz.func151
theorem y0y a b c d : eL (z01 a b c d) (
 z00 a b c true true d
 ) :=
 cL o3' Tryz.func150
theorem yah a : eL (z7h a) (
 bif leB 4294967296 a then
 bif leB 65536 (shrI .u64 a 32) then
 bif (leB 256 (shrI .u64 (shrI .u64 a 32) 16)) then
 nth ([0, 1, 2, 2, 3, 3, 3, 3, 4, 4, 4, 4, 4, 4, 4, 4, 5, 5, 5, 5, 5, 5, 5, 5, 5, 5, 5, 5, 5, 5, 5, 5, 6, 6, 6, 6, 6, 6, 6, 6, 6, 6, 6, 6, 6, 6, 6, 6, 6, 6, 6, 6, 6, 6, 6, 6, 6, 6, 6, 6, 6, 6, 6, 6, 7, 7, 7, 7, 7, 7, 7, 7, 7, 7, 7, 7, 7, 7, 7, 7, 7, 7, 7, 7, 7, 7, 7, 7, 7, 7, 7, 7, 7, 7, 7, 7, 7, 7, 7, 7, 7, 7, 7, 7, 7, 7, 7, 7, 7, 7, 7, 7, 7, 7, 7, 7, 7, 7, 7, 7, 7, 7, 7, 7, 7, 7, 7, 7, 8, 8, 8, 8, 8, 8, 8, 8, 8, 8, 8, 8, 8, 8, 8, 8, 8, 8, 8, 8, 8, 8, 8, 8, 8, 8, 8, 8, 8, 8, 8, 8, 8, 8, 8, 8, 8, 8, 8, 8, 8, 8, 8, 8, 8, 8, 8, 8, 8, 8, 8, 8, 8, 8, 8, 8, 8, 8, 8, 8, 8, 8, 8, 8, 8, 8, 8, 8, 8, 8, 8, 8, 8, 8, 8, 8, 8, 8, 8, 8, 8, 8, 8, 8, 8, 8, 8, 8, 8, 8, 8, 8, 8, 8, 8, 8, 8, 8, 8, 8, 8, 8, 8, 8, 8, 8, 8, 8, 8, 8, 8, 8, 8, 8, 8, 8, 8, 8, 8, 8, 8, 8, 8, 8, 8, 8, 8, 8] : List UInt8) (IntKind.wrap .u8 (shrI .u64 (shrI .u64 (shrI .u64 a 32) 16) 8)) fun y0 =>
 some (addI .i64 56 (IntKind.wrap .i64 ((y0.toNat : Nat) : Int)))
 else
 nth ([0, 1, 2, 2, 3, 3, 3, 3, 4, 4, 4, 4, 4, 4, 4, 4, 5, 5, 5, 5, 5, 5, 5, 5, 5, 5, 5, 5, 5, 5, 5, 5, 6, 6, 6, 6, 6, 6, 6, 6, 6, 6, 6, 6, 6, 6, 6, 6, 6, 6, 6, 6, 6, 6, 6, 6, 6, 6, 6, 6, 6, 6, 6, 6, 7, 7, 7, 7, 7, 7, 7, 7, 7, 7, 7, 7, 7, 7, 7, 7, 7, 7, 7, 7, 7, 7, 7, 7, 7, 7, 7, 7, 7, 7, 7, 7, 7, 7, 7, 7, 7, 7, 7, 7, 7, 7, 7, 7, 7, 7, 7, 7, 7, 7, 7, 7, 7, 7, 7, 7, 7, 7, 7, 7, 7, 7, 7, 7, 8, 8, 8, 8, 8, 8, 8, 8, 8, 8, 8, 8, 8, 8, 8, 8, 8, 8, 8, 8, 8, 8, 8, 8, 8, 8, 8, 8, 8, 8, 8, 8, 8, 8, 8, 8, 8, 8, 8, 8, 8, 8, 8, 8, 8, 8, 8, 8, 8, 8, 8, 8, 8, 8, 8, 8, 8, 8, 8, 8, 8, 8, 8, 8, 8, 8, 8, 8, 8, 8, 8, 8, 8, 8, 8, 8, 8, 8, 8, 8, 8, 8, 8, 8, 8, 8, 8, 8, 8, 8, 8, 8, 8, 8, 8, 8, 8, 8, 8, 8, 8, 8, 8, 8, 8, 8, 8, 8, 8, 8, 8, 8, 8, 8, 8, 8, 8, 8, 8, 8, 8, 8, 8, 8, 8, 8, 8, 8] : List UInt8) (IntKind.wrap .u8 (shrI .u64 (shrI .u64 a 32) 16)) fun y1 =>
 some (addI .i64 48 (IntKind.wrap .i64 ((y1.toNat : Nat) : Int)))
 else
 bif leB 256 (shrI .u64 a 32) then
 nth ([0, 1, 2, 2, 3, 3, 3, 3, 4, 4, 4, 4, 4, 4, 4, 4, 5, 5, 5, 5, 5, 5, 5, 5, 5, 5, 5, 5, 5, 5, 5, 5, 6, 6, 6, 6, 6, 6, 6, 6, 6, 6, 6, 6, 6, 6, 6, 6, 6, 6, 6, 6, 6, 6, 6, 6, 6, 6, 6, 6, 6, 6, 6, 6, 7, 7, 7, 7, 7, 7, 7, 7, 7, 7, 7, 7, 7, 7, 7, 7, 7, 7, 7, 7, 7, 7, 7, 7, 7, 7, 7, 7, 7, 7, 7, 7, 7, 7, 7, 7, 7, 7, 7, 7, 7, 7, 7, 7, 7, 7, 7, 7, 7, 7, 7, 7, 7, 7, 7, 7, 7, 7, 7, 7, 7, 7, 7, 7, 8, 8, 8, 8, 8, 8, 8, 8, 8, 8, 8, 8, 8, 8, 8, 8, 8, 8, 8, 8, 8, 8, 8, 8, 8, 8, 8, 8, 8, 8, 8, 8, 8, 8, 8, 8, 8, 8, 8, 8, 8, 8, 8, 8, 8, 8, 8, 8, 8, 8, 8, 8, 8, 8, 8, 8, 8, 8, 8, 8, 8, 8, 8, 8, 8, 8, 8, 8, 8, 8, 8, 8, 8, 8, 8, 8, 8, 8, 8, 8, 8, 8, 8, 8, 8, 8, 8, 8, 8, 8, 8, 8, 8, 8, 8, 8, 8, 8, 8, 8, 8, 8, 8, 8, 8, 8, 8, 8, 8, 8, 8, 8, 8, 8, 8, 8, 8, 8, 8, 8, 8, 8, 8, 8, 8, 8, 8, 8] : List UInt8) (IntKind.wrap .u8 (shrI .u64 (shrI .u64 a 32) 8)) fun y2 =>
 some (addI .i64 40 (IntKind.wrap .i64 ((y2.toNat : Nat) : Int)))
 else
 nth ([0, 1, 2, 2, 3, 3, 3, 3, 4, 4, 4, 4, 4, 4, 4, 4, 5, 5, 5, 5, 5, 5, 5, 5, 5, 5, 5, 5, 5, 5, 5, 5, 6, 6, 6, 6, 6, 6, 6, 6, 6, 6, 6, 6, 6, 6, 6, 6, 6, 6, 6, 6, 6, 6, 6, 6, 6, 6, 6, 6, 6, 6, 6, 6, 7, 7, 7, 7, 7, 7, 7, 7, 7, 7, 7, 7, 7, 7, 7, 7, 7, 7, 7, 7, 7, 7, 7, 7, 7, 7, 7, 7, 7, 7, 7, 7, 7, 7, 7, 7, 7, 7, 7, 7, 7, 7, 7, 7, 7, 7, 7, 7, 7, 7, 7, 7, 7, 7, 7, 7, 7, 7, 7, 7, 7, 7, 7, 7, 8, 8, 8, 8, 8, 8, 8, 8, 8, 8, 8, 8, 8, 8, 8, 8, 8, 8, 8, 8, 8, 8, 8, 8, 8, 8, 8, 8, 8, 8, 8, 8, 8, 8, 8, 8, 8, 8, 8, 8, 8, 8, 8, 8, 8, 8, 8, 8, 8, 8, 8, 8, 8, 8, 8, 8, 8, 8, 8, 8, 8, 8, 8, 8, 8, 8, 8, 8, 8, 8, 8, 8, 8, 8, 8, 8, 8, 8, 8, 8, 8, 8, 8, 8, 8, 8, 8, 8, 8, 8, 8, 8, 8, 8, 8, 8, 8, 8, 8, 8, 8, 8, 8, 8, 8, 8, 8, 8, 8, 8, 8, 8, 8, 8, 8, 8, 8, 8, 8, 8, 8, 8, 8, 8, 8, 8, 8, 8] : List UInt8) (IntKind.wrap .u8 (shrI .u64 a 32)) fun y3 =>
 some (addI .i64 32 (IntKind.wrap .i64 ((y3.toNat : Nat) : Int)))
 else
 bif leB 65536 a then
 bif leB 256 (shrI .u64 a 16) then
 nth ([0, 1, 2, 2, 3, 3, 3, 3, 4, 4, 4, 4, 4, 4, 4, 4, 5, 5, 5, 5, 5, 5, 5, 5, 5, 5, 5, 5, 5, 5, 5, 5, 6, 6, 6, 6, 6, 6, 6, 6, 6, 6, 6, 6, 6, 6, 6, 6, 6, 6, 6, 6, 6, 6, 6, 6, 6, 6, 6, 6, 6, 6, 6, 6, 7, 7, 7, 7, 7, 7, 7, 7, 7, 7, 7, 7, 7, 7, 7, 7, 7, 7, 7, 7, 7, 7, 7, 7, 7, 7, 7, 7, 7, 7, 7, 7, 7, 7, 7, 7, 7, 7, 7, 7, 7, 7, 7, 7, 7, 7, 7, 7, 7, 7, 7, 7, 7, 7, 7, 7, 7, 7, 7, 7, 7, 7, 7, 7, 8, 8, 8, 8, 8, 8, 8, 8, 8, 8, 8, 8, 8, 8, 8, 8, 8, 8, 8, 8, 8, 8, 8, 8, 8, 8, 8, 8, 8, 8, 8, 8, 8, 8, 8, 8, 8, 8, 8, 8, 8, 8, 8, 8, 8, 8, 8, 8, 8, 8, 8, 8, 8, 8, 8, 8, 8, 8, 8, 8, 8, 8, 8, 8, 8, 8, 8, 8, 8, 8, 8, 8, 8, 8, 8, 8, 8, 8, 8, 8, 8, 8, 8, 8, 8, 8, 8, 8, 8, 8, 8, 8, 8, 8, 8, 8, 8, 8, 8, 8, 8, 8, 8, 8, 8, 8, 8, 8, 8, 8, 8, 8, 8, 8, 8, 8, 8, 8, 8, 8, 8, 8, 8, 8, 8, 8, 8, 8] : List UInt8) (IntKind.wrap .u8 (shrI .u64 (shrI .u64 a 16) 8)) fun y4 =>
 some (addI .i64 24 (IntKind.wrap .i64 ((y4.toNat : Nat) : Int)))
 else
 nth ([0, 1, 2, 2, 3, 3, 3, 3, 4, 4, 4, 4, 4, 4, 4, 4, 5, 5, 5, 5, 5, 5, 5, 5, 5, 5, 5, 5, 5, 5, 5, 5, 6, 6, 6, 6, 6, 6, 6, 6, 6, 6, 6, 6, 6, 6, 6, 6, 6, 6, 6, 6, 6, 6, 6, 6, 6, 6, 6, 6, 6, 6, 6, 6, 7, 7, 7, 7, 7, 7, 7, 7, 7, 7, 7, 7, 7, 7, 7, 7, 7, 7, 7, 7, 7, 7, 7, 7, 7, 7, 7, 7, 7, 7, 7, 7, 7, 7, 7, 7, 7, 7, 7, 7, 7, 7, 7, 7, 7, 7, 7, 7, 7, 7, 7, 7, 7, 7, 7, 7, 7, 7, 7, 7, 7, 7, 7, 7, 8, 8, 8, 8, 8, 8, 8, 8, 8, 8, 8, 8, 8, 8, 8, 8, 8, 8, 8, 8, 8, 8, 8, 8, 8, 8, 8, 8, 8, 8, 8, 8, 8, 8, 8, 8, 8, 8, 8, 8, 8, 8, 8, 8, 8, 8, 8, 8, 8, 8, 8, 8, 8, 8, 8, 8, 8, 8, 8, 8, 8, 8, 8, 8, 8, 8, 8, 8, 8, 8, 8, 8, 8, 8, 8, 8, 8, 8, 8, 8, 8, 8, 8, 8, 8, 8, 8, 8, 8, 8, 8, 8, 8, 8, 8, 8, 8, 8, 8, 8, 8, 8, 8, 8, 8, 8, 8, 8, 8, 8, 8, 8, 8, 8, 8, 8, 8, 8, 8, 8, 8, 8, 8, 8, 8, 8, 8, 8] : List UInt8) (IntKind.wrap .u8 (shrI .u64 a 16)) fun y5 =>
 some (addI .i64 16 (IntKind.wrap .i64 ((y5.toNat : Nat) : Int)))
 else
 bif leB 256 a then
 nth ([0, 1, 2, 2, 3, 3, 3, 3, 4, 4, 4, 4, 4, 4, 4, 4, 5, 5, 5, 5, 5, 5, 5, 5, 5, 5, 5, 5, 5, 5, 5, 5, 6, 6, 6, 6, 6, 6, 6, 6, 6, 6, 6, 6, 6, 6, 6, 6, 6, 6, 6, 6, 6, 6, 6, 6, 6, 6, 6, 6, 6, 6, 6, 6, 7, 7, 7, 7, 7, 7, 7, 7, 7, 7, 7, 7, 7, 7, 7, 7, 7, 7, 7, 7, 7, 7, 7, 7, 7, 7, 7, 7, 7, 7, 7, 7, 7, 7, 7, 7, 7, 7, 7, 7, 7, 7, 7, 7, 7, 7, 7, 7, 7, 7, 7, 7, 7, 7, 7, 7, 7, 7, 7, 7, 7, 7, 7, 7, 8, 8, 8, 8, 8, 8, 8, 8, 8, 8, 8, 8, 8, 8, 8, 8, 8, 8, 8, 8, 8, 8, 8, 8, 8, 8, 8, 8, 8, 8, 8, 8, 8, 8, 8, 8, 8, 8, 8, 8, 8, 8, 8, 8, 8, 8, 8, 8, 8, 8, 8, 8, 8, 8, 8, 8, 8, 8, 8, 8, 8, 8, 8, 8, 8, 8, 8, 8, 8, 8, 8, 8, 8, 8, 8, 8, 8, 8, 8, 8, 8, 8, 8, 8, 8, 8, 8, 8, 8, 8, 8, 8, 8, 8, 8, 8, 8, 8, 8, 8, 8, 8, 8, 8, 8, 8, 8, 8, 8, 8, 8, 8, 8, 8, 8, 8, 8, 8, 8, 8, 8, 8, 8, 8, 8, 8, 8, 8] : List UInt8) (IntKind.wrap .u8 (shrI .u64 a 8)) fun y6 =>
 some (addI .i64 8 (IntKind.wrap .i64 ((y6.toNat : Nat) : Int)))
 else
 nth ([0, 1, 2, 2, 3, 3, 3, 3, 4, 4, 4, 4, 4, 4, 4, 4, 5, 5, 5, 5, 5, 5, 5, 5, 5, 5, 5, 5, 5, 5, 5, 5, 6, 6, 6, 6, 6, 6, 6, 6, 6, 6, 6, 6, 6, 6, 6, 6, 6, 6, 6, 6, 6, 6, 6, 6, 6, 6, 6, 6, 6, 6, 6, 6, 7, 7, 7, 7, 7, 7, 7, 7, 7, 7, 7, 7, 7, 7, 7, 7, 7, 7, 7, 7, 7, 7, 7, 7, 7, 7, 7, 7, 7, 7, 7, 7, 7, 7, 7, 7, 7, 7, 7, 7, 7, 7, 7, 7, 7, 7, 7, 7, 7, 7, 7, 7, 7, 7, 7, 7, 7, 7, 7, 7, 7, 7, 7, 7, 8, 8, 8, 8, 8, 8, 8, 8, 8, 8, 8, 8, 8, 8, 8, 8, 8, 8, 8, 8, 8, 8, 8, 8, 8, 8, 8, 8, 8, 8, 8, 8, 8, 8, 8, 8, 8, 8, 8, 8, 8, 8, 8, 8, 8, 8, 8, 8, 8, 8, 8, 8, 8, 8, 8, 8, 8, 8, 8, 8, 8, 8, 8, 8, 8, 8, 8, 8, 8, 8, 8, 8, 8, 8, 8, 8, 8, 8, 8, 8, 8, 8, 8, 8, 8, 8, 8, 8, 8, 8, 8, 8, 8, 8, 8, 8, 8, 8, 8, 8, 8, 8, 8, 8, 8, 8, 8, 8, 8, 8, 8, 8, 8, 8, 8, 8, 8, 8, 8, 8, 8, 8, 8, 8, 8, 8, 8, 8] : List UInt8) (IntKind.wrap .u8 a) fun y7 =>
 some (addI .i64 0 (IntKind.wrap .i64 ((y7.toNat : Nat) : Int)))
 ) :=
 cL o1' Tryz.func165
theorem y1i a b c d e f g h i j k l m n o p q r s t u v w x y z A B C D E F G H I J K L M N O P Q : eL (z1r a b c d e f g h i j k l m n o p q r s t u v w x y z A B C D E F G H I J K L M N O P Q) (
 bif ltB d c then
 nth b d fun y0 =>
 Option.bind (z53 y0) fun x1 =>
 Option.bind (z5l y0) fun x2 =>
 bif !(x1 == x2) then
 some false
 else
 Option.bind (z73 y0) fun x3 =>
 Option.bind (z7f y0) fun x4 =>
 Option.bind (z76 x3 x4) fun x5 =>
 bif !x5 then
 some false
 else
 Option.bind (z6v y0 (Voter.mk e f (Trust.mk g h i) j k l m)) fun x6 =>
 Option.bind (z48 y0 (Voter.mk e f (Trust.mk g h i) j k l m)) fun x7 =>
 bif !(x6 == x7) then
 some false
 else
 Option.bind (z6v y0 (Voter.mk B C (Trust.mk D E F) G H I J)) fun x8 =>
 Option.bind (z48 y0 (Voter.mk B C (Trust.mk D E F) G H I J)) fun x9 =>
 bif !(x8 == x9) then
 some false
 else
 Option.bind (z71 z A) fun x10 =>
 z29 a b c d ([(Claim.mk u v), x10.1] : List Claim) ((List.length ([(Claim.mk u v), x10.1] : List Claim) : Nat) : Int) 0 e f g h i j k l m n o p q r s t u v w x y x10.2.1 x10.2.2 B C D E F G H I J K L M N O P Q y0.Node y0.Seq y0.Trust.Threshold y0.Trust.Nodes y0.Trust.Inner y0.Votes y0.Accepts y0.Confirms y0.Heard
 else
 Option.bind (z6c a (Trust.mk w x y)) fun x11 =>
 Option.bind (z6t a (Trust.mk w x y)) fun x12 =>
 bif eqB x11.2 x12.2 then
 Option.bind (z48 x11.1 x12.1) fun x13 =>
 bif x13 then
 Option.bind (law19_awake) fun x14 =>
 some x14
 else
 some false
 else
 some false
 ) :=
 gL o0' (q09 Tryz.f7 [1,1,1,1,1,1,0,1,0,0])
theorem y7o a : eL (z5l a) (
 bif ltB a.Node 0 then
 some false
 else
 bif leB 10 a.Node then
 some false
 else
 bif ltB a.Seq 1 then
 some false
 else
 bif ltB 1000000 a.Seq then
 some false
 else
 Option.bind (z2j a.Trust) fun x0 =>
 bif neB x0 0 then
 some false
 else
 Option.bind (z4x a.Votes) fun x1 =>
 bif !x1 then
 some false
 else
 Option.bind (z4x a.Accepts) fun x2 =>
 bif !x2 then
 some false
 else
 Option.bind (z4x a.Confirms) fun x3 =>
 bif !x3 then
 some false
 else
 Option.bind (z4r a.Votes) fun x4 =>
 bif !x4 then
 some false
 else
 Option.bind (z4r a.Accepts) fun x5 =>
 bif !x5 then
 some false
 else
 z42 a.Confirms (a.Confirms.length : Int) 0 a.Node a.Seq a.Trust.Threshold a.Trust.Nodes a.Trust.Inner a.Votes a.Accepts a.Confirms a.Heard
 ) :=
 cL o0' Tryz.func35
theorem y8y a b : eL (z76 a b) (
 bif eqB a.Node b.Node then
 bif eqB a.Seq b.Seq then
 Option.bind (z3g a.Trust b.Trust) fun x0 =>
 bif x0 then
 Option.bind (z49 a.Votes b.Votes) fun x1 =>
 bif x1 then
 Option.bind (z49 a.Accepts b.Accepts) fun x2 =>
 some x2
 else
 some false
 else
 some false
 else
 some false
 else
 some false
 ) :=
 cL o0' Tryz.func36
theorem y7a a b : eL (z6v a b) (
 Option.bind (z5k a) fun x0 =>
 Option.bind (z5k b) fun x1 =>
 Option.bind (z6f x0 x1) fun x2 =>
 bif x2 then
 Option.bind (z1s a.Confirms b.Confirms) fun x3 =>
 bif x3 then
 Option.bind (z18 a.Heard b.Heard) fun x4 =>
 some x4
 else
 some false
 else
 some false
 ) :=
 cL o0' Tryz.func38
theorem y7v a b : eL (z48 a b) (
 bif neB a.Node b.Node then
 some false
 else
 bif neB a.Seq b.Seq then
 some false
 else
 Option.bind (z3g a.Trust b.Trust) fun x0 =>
 bif !x0 then
 some false
 else
 Option.bind (z49 a.Votes b.Votes) fun x1 =>
 bif !x1 then
 some false
 else
 Option.bind (z49 a.Accepts b.Accepts) fun x2 =>
 bif !x2 then
 some false
 else
 Option.bind (z49 a.Confirms b.Confirms) fun x3 =>
 bif !x3 then
 some false
 else
 bif (neB (a.Heard.length : Int) (b.Heard.length : Int)) then
 some false
 else
 z4n (a.Heard.length : Int) 0 a.Node a.Seq a.Trust.Threshold a.Trust.Nodes a.Trust.Inner a.Votes a.Accepts a.Confirms a.Heard b.Node b.Seq b.Trust.Threshold b.Trust.Nodes b.Trust.Inner b.Votes b.Accepts b.Confirms b.Heard
 ) :=
 cL o0' Tryz.func28
theorem y23 a b : eL (z71 a b) (
 Option.bind (z1p 30 a b) fun x0 =>
 bif eqB x0.1 29 then
 Option.bind (z1n ([(-1), 0, 7, 8] : List Int) x0.2.1 x0.2.2) fun x1 =>
 Option.bind (z1n ([(-1), 0, 15, 16] : List Int) x1.2.1 x1.2.2) fun x2 =>
 some ((Claim.mk x1.1 x2.1), x2.2.1, x2.2.2)
 else
 Option.bind (z1p 3 x0.2.1 x0.2.2) fun x3 =>
 Option.bind (z1p 3 x3.2.1 x3.2.2) fun x4 =>
 some ((Claim.mk x3.1 x4.1), x4.2.1, x4.2.2)
 ) :=
 cL o30' Tryz.func39
theorem y6p a : eL (z4x a) (
 z2x a a (a.length : Int) 0
 ) :=
 cL o0' Tryz.func84
theorem y7q a : eL (z4r a) (
 z25 a a (a.length : Int) 0
 ) :=
 cL o0' Tryz.func64
theorem qr5 a b : eL (z3g a b) (
 bif neB a.Threshold b.Threshold then
 some false
 else
 Option.bind (z77 a.Nodes b.Nodes) fun x0 =>
 bif !x0 then
 some false
 else
 bif (neB (a.Inner.length : Int) (b.Inner.length : Int)) then
 some false
 else
 z3s (a.Inner.length : Int) 0 a.Threshold a.Nodes a.Inner b.Threshold b.Nodes b.Inner
 ) :=
 cL o0' Tryz.func76
theorem y62 a b : eL (z49 a b) (
 bif (neB (a.length : Int) (b.length : Int)) then
 some false
 else
 z5c a b (a.length : Int) 0
 ) :=
 cL o0' Tryz.func15
theorem y5b a b : eL (z6f a b) (
 bif eqB a.Node b.Node then
 bif eqB a.Seq b.Seq then
 Option.bind (z3f a.Trust b.Trust) fun x0 =>
 bif x0 then
 Option.bind (z1s a.Votes b.Votes) fun x1 =>
 bif x1 then
 Option.bind (z1s a.Accepts b.Accepts) fun x2 =>
 some x2
 else
 some false
 else
 some false
 else
 some false
 else
 some false
 ) :=
 cL o0' Tryz.func87
theorem y5q a b : eL (z18 a b) (
 bif (neB (a.length : Int) (b.length : Int)) then
 some false
 else
 z0e b a (a.length : Int) 0
 ) :=
 cL o0' Tryz.func89
theorem y3l a b : eL (z77 a b) (
 bif (neB (a.length : Int) (b.length : Int)) then
 some false
 else
 z4o a b (a.length : Int) 0
 ) :=
 cL o0' Tryz.func115
theorem y8u a b : eL (z6g a b) (
 Option.bind (z53 a) fun x0 =>
 bif !x0 then
 some ((Voter.mk 0 0 (Trust.mk 0 [] []) [] [] [] []), 1)
 else
 Option.bind (z31 b) fun x1 =>
 bif neB x1 0 then
 some ((Voter.mk 0 0 (Trust.mk 0 [] []) [] [] [] []), x1)
 else
 Option.bind (z3f a.Trust b) fun x2 =>
 bif x2 then
 Option.bind (z2u a) fun x3 =>
 some ((Voter.mk x3.Node x3.Seq (Trust.mk x3.Trust.Threshold x3.Trust.Nodes x3.Trust.Inner) x3.Votes x3.Accepts x3.Confirms x3.Heard), 0)
 else
 Option.bind (z3c a (Voter.mk a.Node a.Seq (Trust.mk b.Threshold b.Nodes b.Inner) a.Votes a.Accepts a.Confirms a.Heard)) fun x4 =>
 some ((Voter.mk x4.Node x4.Seq (Trust.mk x4.Trust.Threshold x4.Trust.Nodes x4.Trust.Inner) x4.Votes x4.Accepts x4.Confirms x4.Heard), 0)
 ) :=
 cL o5' Tryz.func27
theorem y9w a b : eL (z7j a b) (
 Option.bind (z5m a.Accepts b) fun x0 =>
 bif x0 then
 some false
 else
 z55 a.Accepts (a.Accepts.length : Int) 0 a.Node a.Seq a.Trust.Threshold a.Trust.Nodes a.Trust.Inner a.Votes a.Accepts a.Confirms a.Heard b.Topic b.Value
 ) :=
 cL o0' Tryz.func20
theorem y7n a b : eL (z5m a b) (
 z5x a (a.length : Int) 0 b.Topic b.Value
 ) :=
 cL o0' Tryz.func25
theorem qrx a b c d e f g h i j k l m n o p q r s t u v : eL (z1h a b c d e f g h i j k l m n o p q r s t u v) (
 bif ltB 0 b then
 Option.bind (z1p 6 c d) fun x0 =>
 bif eqB x0.1 0 then
 Option.bind (z71 x0.2.1 x0.2.2) fun x1 =>
 Option.bind (z78 (Voter.mk n o (Trust.mk p q r) s t u v) x1.1) fun x2 =>
 bif eqB x2.2 0 then
 z1h a (subI .i64 b 1) x1.2.1 x1.2.2 e f g h i j k l m x2.1.Node x2.1.Seq x2.1.Trust.Threshold x2.1.Trust.Nodes x2.1.Trust.Inner x2.1.Votes x2.1.Accepts x2.1.Confirms x2.1.Heard
 else
 z1h a (subI .i64 b 1) x1.2.1 x1.2.2 e f g h i j k l m n o p q r s t u v
 else
 bif eqB x0.1 1 then
 Option.bind (z68 a 2 x0.2.1 x0.2.2) fun x3 =>
 Option.bind (z5z (Voter.mk n o (Trust.mk p q r) s t u v) x3.1) fun x4 =>
 bif eqB x4.2 0 then
 z1h a (subI .i64 b 1) x3.2.1 x3.2.2 e f g h i j k l m x4.1.Node x4.1.Seq x4.1.Trust.Threshold x4.1.Trust.Nodes x4.1.Trust.Inner x4.1.Votes x4.1.Accepts x4.1.Confirms x4.1.Heard
 else
 z1h a (subI .i64 b 1) x3.2.1 x3.2.2 e f g h i j k l m n o p q r s t u v
 else
 Option.bind (z62 a x0.2.1 x0.2.2) fun x5 =>
 Option.bind (z79 (Voter.mk n o (Trust.mk p q r) s t u v) (Message.mk x5.1.Node (addI .i64 x5.1.Seq b) (Trust.mk x5.1.Trust.Threshold x5.1.Trust.Nodes x5.1.Trust.Inner) x5.1.Votes x5.1.Accepts)) fun x6 =>
 bif eqB x6.2 0 then
 z1h a (subI .i64 b 1) x5.2.1 x5.2.2 e f g h i j k l m x6.1.Node x6.1.Seq x6.1.Trust.Threshold x6.1.Trust.Nodes x6.1.Trust.Inner x6.1.Votes x6.1.Accepts x6.1.Confirms x6.1.Heard
 else
 z1h a (subI .i64 b 1) x5.2.1 x5.2.2 e f g h i j k l m n o p q r s t u v
 else
 some ((Voter.mk n o (Trust.mk p q r) s t u v), c, d)
 ) :=
 gL o16' (q09 Tryz.f32 [1,1,0,1,0,0])
theorem y65 a b : eL (z78 a b) (
 Option.bind (z5l a) fun x0 =>
 bif !x0 then
 some ((Voter.mk 0 0 (Trust.mk 0 [] []) [] [] [] []), 1)
 else
 Option.bind (z6w b) fun x1 =>
 bif !x1 then
 some ((Voter.mk 0 0 (Trust.mk 0 [] []) [] [] [] []), 1)
 else
 Option.bind (z4y a.Votes a.Accepts) fun x2 =>
 z4p x2 (x2.length : Int) 0 a.Node a.Seq a.Trust.Threshold a.Trust.Nodes a.Trust.Inner a.Votes a.Accepts a.Confirms a.Heard b.Topic b.Value 0 0 0 [] [] [] [] [] []
 ) :=
 cL o5' Tryz.func40
theorem y9i a b : eL (z5z a b) (
 Option.bind (z5l a) fun x0 =>
 bif !x0 then
 some ((Voter.mk 0 0 (Trust.mk 0 [] []) [] [] [] []), 1)
 else
 Option.bind (z2j b) fun x1 =>
 bif neB x1 0 then
 some ((Voter.mk 0 0 (Trust.mk 0 [] []) [] [] [] []), x1)
 else
 Option.bind (z3g a.Trust b) fun x2 =>
 bif x2 then
 some ((Voter.mk a.Node a.Seq (Trust.mk a.Trust.Threshold a.Trust.Nodes a.Trust.Inner) a.Votes a.Accepts a.Confirms a.Heard), 0)
 else
 Option.bind (z4l a (Voter.mk a.Node a.Seq (Trust.mk b.Threshold b.Nodes b.Inner) a.Votes a.Accepts a.Confirms a.Heard)) fun x3 =>
 some ((Voter.mk x3.Node x3.Seq (Trust.mk x3.Trust.Threshold x3.Trust.Nodes x3.Trust.Inner) x3.Votes x3.Accepts x3.Confirms x3.Heard), 0)
 ) :=
 cL o5' Tryz.func43
theorem ya1 a b : eL (z79 a b) (
 Option.bind (z5l a) fun x0 =>
 bif !x0 then
 some ((Voter.mk 0 0 (Trust.mk 0 [] []) [] [] [] []), 1)
 else
 Option.bind (z4z b) fun x1 =>
 bif !x1 then
 some ((Voter.mk 0 0 (Trust.mk 0 [] []) [] [] [] []), 1)
 else
 bif eqB b.Node a.Node then
 some ((Voter.mk 0 0 (Trust.mk 0 [] []) [] [] [] []), 1)
 else
 z3d false a.Heard (a.Heard.length : Int) 0 a.Node a.Seq a.Trust.Threshold a.Trust.Nodes a.Trust.Inner a.Votes a.Accepts a.Confirms a.Heard b.Node b.Seq b.Trust.Threshold b.Trust.Nodes b.Trust.Inner b.Votes b.Accepts 0 0 0 [] [] [] [] [] [] a.Node a.Seq a.Trust.Threshold a.Trust.Nodes a.Trust.Inner a.Votes a.Accepts a.Confirms []
 ) :=
 cL o5' Tryz.func42
theorem y63 a : eL (z6w a) (
 bif leB 0 a.Topic then
 bif ltB a.Topic 8 then
 bif leB 0 a.Value then
 some (leB a.Value 15)
 else
 some false
 else
 some false
 else
 some false
 ) :=
 cL o0' Tryz.func90
theorem ya4 a b : eL (z4y a b) (
 capOk (List.length ([] : List Claim) + List.length a) <|
 capOk (List.length (([] : List Claim) ++ a) + List.length b) <|
 Option.bind (z3o ((([] : List Claim) ++ a) ++ b)) fun x0 =>
 some x0
 ) :=
 cL o2' Tryz.func66
theorem y7i a b : eL (z4l a b) (
 z3y true a.Node a.Seq a.Trust.Threshold a.Trust.Nodes a.Trust.Inner a.Votes a.Accepts a.Confirms a.Heard b.Node b.Seq b.Trust.Threshold b.Trust.Nodes b.Trust.Inner b.Votes b.Accepts b.Confirms b.Heard 0 0 0 [] [] [] [] [] []
 ) :=
 cL o4' Tryz.func92
theorem y86 a : eL (z4z a) (
 bif leB 0 a.Node then
 bif ltB a.Node 10 then
 bif leB 1 a.Seq then
 Option.bind (z2j a.Trust) fun x0 =>
 bif eqB x0 0 then
 Option.bind (z4x a.Votes) fun x1 =>
 bif x1 then
 Option.bind (z4x a.Accepts) fun x2 =>
 some x2
 else
 some false
 else
 some false
 else
 some false
 else
 some false
 else
 some false
 ) :=
 cL o0' Tryz.func72
theorem y3p a b c : eL (z33 a b c) (
 bif ltB c 8 then
 z2l a b c 0
 else
 some b
 ) :=
 gL o2' (q09 Tryz.f18 [1,1,0,1,0,0])
theorem y7b a b c d e f g h i j k l m : eL (z7a a b c d e f g h i j k l m) (
 bif ltB d c then
 nth b d fun y0 =>
 Option.bind (z4y y0.Votes y0.Accepts) fun x1 =>
 Option.bind (z4y a x1) fun x2 =>
 z4v x2 b c (addI .i64 d 1) e f g h i j k l m
 else
 some a
 ) :=
 gL o2' (q09 Tryz.f19 [1,1,0,1,0,0])
theorem qvl a b c : eL (z2c a b c) (
 bif ltB c b then
 nth a c fun y0 =>
 Option.bind (z3m y0) fun x1 =>
 bif !x1 then
 some false
 else
 z2c a b (addI .i64 c 1)
 else
 some true
 ) :=
 gL o0' (q09 Tryz.f77 [1,1,0,1,0,0])
theorem qvh a b c d e : eL (z4m a b c d e) (
 bif (ltB b (e.length : Int)) then
 bif leB a 400 then
 nth e b fun y0 =>
 Option.bind (z74 y0 a) fun x1 =>
 z4m x1 (addI .i64 b 1) c d e
 else
 some a
 else
 some a
 ) :=
 gL o1' (q09 Tryz.f78 [1,1,0,1,0,0])
theorem y3i a b c d : eL (z5w a b c d) (
 bif ltB 0 b then
 Option.bind (z71 c d) fun x0 =>
 capOk (List.length a + List.length ([x0.1] : List Claim)) <|
 z5w (a ++ ([x0.1] : List Claim)) (subI .i64 b 1) x0.2.1 x0.2.2
 else
 some (a, c, d)
 ) :=
 gL o21' (q09 Tryz.f74 [1,1,0,1,0,0])
theorem y1e a b c d e f g h i j k l : eL (z3n a b c d e f g h i j k l) (
 bif ltB 0 a then
 z4e (subI .i64 a 1) b c d e f g h i 1 [] ([(Trust.mk j k l)] : List Trust)
 else
 some ((Trust.mk j k l), b, c)
 ) :=
 gL o6' (q09 Tryz.f80 [1,1,0,1,0,1,1,1,1,1,1,1,1,1,0,1,0,1,0,0])
theorem y30 a b c d e f g h i j : eL (z34 a b c d e f g h i j) (
 bif ltB 0 b then
 capOk (List.length a + List.length ([(Trust.mk 1 ([(remI .i64 b 10)] : List Int) [])] : List Trust)) <|
 z34 (a ++ ([(Trust.mk 1 ([(remI .i64 b 10)] : List Int) [])] : List Trust)) (subI .i64 b 1) c d e f g h i j
 else
 capOk (List.length a + List.length g) <|
 some ((Trust.mk e f (a ++ g)), c, d)
 ) :=
 gL o6' (q09 Tryz.f80 [1,1,0,1,0,1,1,1,1,1,1,1,1,1,1,1,0,1,0,0])
theorem qvj a b c d e f g h i j k l m : eL (z50 a b c d e f g h i j k l m) (
 bif ltB e d then
 nth c e fun y0 =>
 capOk (List.length l + List.length ([y0] : List Int)) <|
 z50 a b c d (addI .i64 e 1) f g h i j k (l ++ ([y0] : List Int)) m
 else
 bif ltB 1 b then
 Option.bind (z1n ([0, 0, 1, 1, 2, 3] : List Int) f g) fun x1 =>
 z51 a b x1.1 x1.2.1 x1.2.2 h i j k l m
 else
 Option.bind (z24 1 (addI .i64 (l.length : Int) (m.length : Int)) f g) fun x2 =>
 some ((Trust.mk x2.1 l m), x2.2.1, x2.2.2)
 ) :=
 gL o6' (q09 Tryz.f47 [1,1,1,0,1,0,0])
end Go.Proofs.YthbpagedblodfaaGreat
