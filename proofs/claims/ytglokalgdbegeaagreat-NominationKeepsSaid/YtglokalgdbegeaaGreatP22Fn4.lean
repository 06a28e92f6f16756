/- What the functions come to, printed by a program and checked by the kernel. -/
import Derived.Test.YtglokalgdbegeaaGreatP22Df
namespace Go.Proofs.YtglokalgdbegeaaGreat
open Go Go.Ab
set_option maxRecDepth 100000
theorem y95 a b c d : eL (z4e a b c d) (
 some (IntKind.wrap .u32 (shrI .u64 (xorI .u64 (mulI .u64 (xorI .u64 (mulI .u64 (xorI .u64 (addI .u64 (xorI .u64 (xorI .u64 (xorI .u64 (shlI .u64 (IntKind.wrap .u64 a) 56) (shlI .u64 (IntKind.wrap .u64 b) 24)) (shlI .u64 (IntKind.wrap .u64 c) 8)) (IntKind.wrap .u64 d)) 11400714819323198485) (shrI .u64 (addI .u64 (xorI .u64 (xorI .u64 (xorI .u64 (shlI .u64 (IntKind.wrap .u64 a) 56) (shlI .u64 (IntKind.wrap .u64 b) 24)) (shlI .u64 (IntKind.wrap .u64 c) 8)) (IntKind.wrap .u64 d)) 11400714819323198485) 30)) 13787848793156543929) (shrI .u64 (mulI .u64 (xorI .u64 (addI .u64 (xorI .u64 (xorI .u64 (xorI .u64 (shlI .u64 (IntKind.wrap .u64 a) 56) (shlI .u64 (IntKind.wrap .u64 b) 24)) (shlI .u64 (IntKind.wrap .u64 c) 8)) (IntKind.wrap .u64 d)) 11400714819323198485) (shrI .u64 (addI .u64 (xorI .u64 (xorI .u64 (xorI .u64 (shlI .u64 (IntKind.wrap .u64 a) 56) (shlI .u64 (IntKind.wrap .u64 b) 24)) (shlI .u64 (IntKind.wrap .u64 c) 8)) (IntKind.wrap .u64 d)) 11400714819323198485) 30)) 13787848793156543929) 27)) 10723151780598845931) (shrI .u64 (mulI .u64 (xorI .u64 (mulI .u64 (xorI .u64 (addI .u64 (xorI .u64 (xorI .u64 (xorI .u64 (shlI .u64 (IntKind.wrap .u64 a) 56) (shlI .u64 (IntKind.wrap .u64 b) 24)) (shlI .u64 (IntKind.wrap .u64 c) 8)) (IntKind.wrap .u64 d)) 11400714819323198485) (shrI .u64 (addI .u64 (xorI .u64 (xorI .u64 (xorI .u64 (shlI .u64 (IntKind.wrap .u64 a) 56) (shlI .u64 (IntKind.wrap .u64 b) 24)) (shlI .u64 (IntKind.wrap .u64 c) 8)) (IntKind.wrap .u64 d)) 11400714819323198485) 30)) 13787848793156543929) (shrI .u64 (mulI .u64 (xorI .u64 (addI .u64 (xorI .u64 (xorI .u64 (xorI .u64 (shlI .u64 (IntKind.wrap .u64 a) 56) (shlI .u64 (IntKind.wrap .u64 b) 24)) (shlI .u64 (IntKind.wrap .u64 c) 8)) (IntKind.wrap .u64 d)) 11400714819323198485) (shrI .u64 (addI .u64 (xorI .u64 (xorI .u64 (xorI .u64 (shlI .u64 (IntKind.wrap .u64 a) 56) (shlI .u64 (IntKind.wrap .u64 b) 24)) (shlI .u64 (IntKind.wrap .u64 c) 8)) (IntKind.wrap .u64 d)) 11400714819323198485) 30)) 13787848793156543929) 27)) 10723151780598845931) 31)) 32))
 ) :=
 cL ⟨[.lf (.i .u32)],[]⟩ Tryz.func187
theorem y5b a b : eL (z4u a b) (
 Option.bind (z2g a.Nodes b) fun x0 =>
 bif x0 then
 some ((Frac.mk a.Threshold (addI .i64 (a.Nodes.length : Int) (a.Inner.length : Int))), true)
 else
 z37 b a.Inner (a.Inner.length : Int) 0 a.Threshold a.Nodes a.Inner 0 0 a.Threshold (addI .i64 (a.Nodes.length : Int) (a.Inner.length : Int))
 ) :=
 cL o23' Tryz.func200
theorem y83 a b : eL (z2g a b) (
 Option.bind (z34 a b) fun x0 =>
 some (leB 0 x0)
 ) :=
 cL o0' Tryz.func218
theorem y5l a b : eL (z34 a b) (
 z1k a b (a.length : Int) 0
 ) :=
 cL o1' Tryz.func224
theorem y6r a b c d e f : eL (z00 a b c d e f) (
 bif leB (subI .i64 b a) 12 then
 Option.bind (z16 a b f) fun x0 =>
 some x0
 else
 bif eqB c 0 then
 Option.bind (z1d a b f) fun x1 =>
 some x1
 else
 bif !d then
 Option.bind (z17 a b f) fun x2 =>
 Option.bind (z0q a b x2) fun x3 =>
 bif eqB x3.2.1 2 then
 Option.bind (z0m a b x3.2.2) fun x4 =>
 bif d then
 bif e then
 Option.bind (z09 a b x4) fun x5 =>
 bif x5.1 then
 some x5.2
 else
 bif ltB 0 a then
 nth x5.2 (subI .i64 a 1) fun _ =>
 nth x5.2 (subI .i64 (subI .i64 b 1) (subI .i64 x3.1 a)) fun _ =>
 nthN x5.2 (Int.toNat (subI .i64 a 1)) fun y6 =>
 nthN x5.2 (Int.toNat (subI .i64 (subI .i64 b 1) (subI .i64 x3.1 a))) fun y7 =>
 Option.bind (z06 y6 y7) fun x8 =>
 bif !(ltB x8 0) then
 Option.bind (z04 a b (subI .i64 (subI .i64 b 1) (subI .i64 x3.1 a)) x5.2) fun x9 =>
 z00 x9.1 b (subI .i64 c 1) d e x9.2
 else
 Option.bind (z02 a b (subI .i64 (subI .i64 b 1) (subI .i64 x3.1 a)) x5.2) fun x10 =>
 bif ltB (subI .i64 x10.1 a) (subI .i64 b x10.1) then
 Option.bind (z01 a x10.1 (subI .i64 c 1) x10.2.2) fun x11 =>
 z00 (addI .i64 x10.1 1) b (subI .i64 c 1) (leB (quoI .i64 (subI .i64 b a) 8) (subI .i64 x10.1 a)) x10.2.1 x11
 else
 Option.bind (z01 (addI .i64 x10.1 1) b (subI .i64 c 1) x10.2.2) fun x12 =>
 z00 a x10.1 (subI .i64 c 1) (leB (quoI .i64 (subI .i64 b a) 8) (subI .i64 b x10.1)) x10.2.1 x12
 else
 Option.bind (z02 a b (subI .i64 (subI .i64 b 1) (subI .i64 x3.1 a)) x5.2) fun x13 =>
 bif ltB (subI .i64 x13.1 a) (subI .i64 b x13.1) then
 Option.bind (z01 a x13.1 (subI .i64 c 1) x13.2.2) fun x14 =>
 z00 (addI .i64 x13.1 1) b (subI .i64 c 1) (leB (quoI .i64 (subI .i64 b a) 8) (subI .i64 x13.1 a)) x13.2.1 x14
 else
 Option.bind (z01 (addI .i64 x13.1 1) b (subI .i64 c 1) x13.2.2) fun x15 =>
 z00 a x13.1 (subI .i64 c 1) (leB (quoI .i64 (subI .i64 b a) 8) (subI .i64 b x13.1)) x13.2.1 x15
 else
 bif ltB 0 a then
 nth x4 (subI .i64 a 1) fun _ =>
 nth x4 (subI .i64 (subI .i64 b 1) (subI .i64 x3.1 a)) fun _ =>
 nthN x4 (Int.toNat (subI .i64 a 1)) fun y16 =>
 nthN x4 (Int.toNat (subI .i64 (subI .i64 b 1) (subI .i64 x3.1 a))) fun y17 =>
 Option.bind (z06 y16 y17) fun x18 =>
 bif !(ltB x18 0) then
 Option.bind (z04 a b (subI .i64 (subI .i64 b 1) (subI .i64 x3.1 a)) x4) fun x19 =>
 z00 x19.1 b (subI .i64 c 1) d e x19.2
 else
 Option.bind (z02 a b (subI .i64 (subI .i64 b 1) (subI .i64 x3.1 a)) x4) fun x20 =>
 bif ltB (subI .i64 x20.1 a) (subI .i64 b x20.1) then
 Option.bind (z01 a x20.1 (subI .i64 c 1) x20.2.2) fun x21 =>
 z00 (addI .i64 x20.1 1) b (subI .i64 c 1) (leB (quoI .i64 (subI .i64 b a) 8) (subI .i64 x20.1 a)) x20.2.1 x21
 else
 Option.bind (z01 (addI .i64 x20.1 1) b (subI .i64 c 1) x20.2.2) fun x22 =>
 z00 a x20.1 (subI .i64 c 1) (leB (quoI .i64 (subI .i64 b a) 8) (subI .i64 b x20.1)) x20.2.1 x22
 else
 Option.bind (z02 a b (subI .i64 (subI .i64 b 1) (subI .i64 x3.1 a)) x4) fun x23 =>
 bif ltB (subI .i64 x23.1 a) (subI .i64 b x23.1) then
 Option.bind (z01 a x23.1 (subI .i64 c 1) x23.2.2) fun x24 =>
 z00 (addI .i64 x23.1 1) b (subI .i64 c 1) (leB (quoI .i64 (subI .i64 b a) 8) (subI .i64 x23.1 a)) x23.2.1 x24
 else
 Option.bind (z01 (addI .i64 x23.1 1) b (subI .i64 c 1) x23.2.2) fun x25 =>
 z00 a x23.1 (subI .i64 c 1) (leB (quoI .i64 (subI .i64 b a) 8) (subI .i64 b x23.1)) x23.2.1 x25
 else
 bif ltB 0 a then
 nth x4 (subI .i64 a 1) fun _ =>
 nth x4 (subI .i64 (subI .i64 b 1) (subI .i64 x3.1 a)) fun _ =>
 nthN x4 (Int.toNat (subI .i64 a 1)) fun y26 =>
 nthN x4 (Int.toNat (subI .i64 (subI .i64 b 1) (subI .i64 x3.1 a))) fun y27 =>
 Option.bind (z06 y26 y27) fun x28 =>
 bif !(ltB x28 0) then
 Option.bind (z04 a b (subI .i64 (subI .i64 b 1) (subI .i64 x3.1 a)) x4) fun x29 =>
 z00 x29.1 b (subI .i64 c 1) d e x29.2
 else
 Option.bind (z02 a b (subI .i64 (subI .i64 b 1) (subI .i64 x3.1 a)) x4) fun x30 =>
 bif ltB (subI .i64 x30.1 a) (subI .i64 b x30.1) then
 Option.bind (z01 a x30.1 (subI .i64 c 1) x30.2.2) fun x31 =>
 z00 (addI .i64 x30.1 1) b (subI .i64 c 1) (leB (quoI .i64 (subI .i64 b a) 8) (subI .i64 x30.1 a)) x30.2.1 x31
 else
 Option.bind (z01 (addI .i64 x30.1 1) b (subI .i64 c 1) x30.2.2) fun x32 =>
 z00 a x30.1 (subI .i64 c 1) (leB (quoI .i64 (subI .i64 b a) 8) (subI .i64 b x30.1)) x30.2.1 x32
 else
 Option.bind (z02 a b (subI .i64 (subI .i64 b 1) (subI .i64 x3.1 a)) x4) fun x33 =>
 bif ltB (subI .i64 x33.1 a) (subI .i64 b x33.1) then
 Option.bind (z01 a x33.1 (subI .i64 c 1) x33.2.2) fun x34 =>
 z00 (addI .i64 x33.1 1) b (subI .i64 c 1) (leB (quoI .i64 (subI .i64 b a) 8) (subI .i64 x33.1 a)) x33.2.1 x34
 else
 Option.bind (z01 (addI .i64 x33.1 1) b (subI .i64 c 1) x33.2.2) fun x35 =>
 z00 a x33.1 (subI .i64 c 1) (leB (quoI .i64 (subI .i64 b a) 8) (subI .i64 b x33.1)) x33.2.1 x35
 else
 bif d then
 bif e then
 bif eqB x3.2.1 1 then
 Option.bind (z09 a b x3.2.2) fun x36 =>
 bif x36.1 then
 some x36.2
 else
 bif ltB 0 a then
 nth x36.2 (subI .i64 a 1) fun _ =>
 nth x36.2 x3.1 fun _ =>
 nthN x36.2 (Int.toNat (subI .i64 a 1)) fun y37 =>
 nthN x36.2 (Int.toNat x3.1) fun y38 =>
 Option.bind (z06 y37 y38) fun x39 =>
 bif !(ltB x39 0) then
 Option.bind (z04 a b x3.1 x36.2) fun x40 =>
 z00 x40.1 b (subI .i64 c 1) d e x40.2
 else
 Option.bind (z02 a b x3.1 x36.2) fun x41 =>
 bif ltB (subI .i64 x41.1 a) (subI .i64 b x41.1) then
 Option.bind (z01 a x41.1 (subI .i64 c 1) x41.2.2) fun x42 =>
 z00 (addI .i64 x41.1 1) b (subI .i64 c 1) (leB (quoI .i64 (subI .i64 b a) 8) (subI .i64 x41.1 a)) x41.2.1 x42
 else
 Option.bind (z01 (addI .i64 x41.1 1) b (subI .i64 c 1) x41.2.2) fun x43 =>
 z00 a x41.1 (subI .i64 c 1) (leB (quoI .i64 (subI .i64 b a) 8) (subI .i64 b x41.1)) x41.2.1 x43
 else
 Option.bind (z02 a b x3.1 x36.2) fun x44 =>
 bif ltB (subI .i64 x44.1 a) (subI .i64 b x44.1) then
 Option.bind (z01 a x44.1 (subI .i64 c 1) x44.2.2) fun x45 =>
 z00 (addI .i64 x44.1 1) b (subI .i64 c 1) (leB (quoI .i64 (subI .i64 b a) 8) (subI .i64 x44.1 a)) x44.2.1 x45
 else
 Option.bind (z01 (addI .i64 x44.1 1) b (subI .i64 c 1) x44.2.2) fun x46 =>
 z00 a x44.1 (subI .i64 c 1) (leB (quoI .i64 (subI .i64 b a) 8) (subI .i64 b x44.1)) x44.2.1 x46
 else
 bif ltB 0 a then
 nth x3.2.2 (subI .i64 a 1) fun _ =>
 nth x3.2.2 x3.1 fun _ =>
 nthN x3.2.2 (Int.toNat (subI .i64 a 1)) fun y47 =>
 nthN x3.2.2 (Int.toNat x3.1) fun y48 =>
 Option.bind (z06 y47 y48) fun x49 =>
 bif !(ltB x49 0) then
 Option.bind (z04 a b x3.1 x3.2.2) fun x50 =>
 z00 x50.1 b (subI .i64 c 1) d e x50.2
 else
 Option.bind (z02 a b x3.1 x3.2.2) fun x51 =>
 bif ltB (subI .i64 x51.1 a) (subI .i64 b x51.1) then
 Option.bind (z01 a x51.1 (subI .i64 c 1) x51.2.2) fun x52 =>
 z00 (addI .i64 x51.1 1) b (subI .i64 c 1) (leB (quoI .i64 (subI .i64 b a) 8) (subI .i64 x51.1 a)) x51.2.1 x52
 else
 Option.bind (z01 (addI .i64 x51.1 1) b (subI .i64 c 1) x51.2.2) fun x53 =>
 z00 a x51.1 (subI .i64 c 1) (leB (quoI .i64 (subI .i64 b a) 8) (subI .i64 b x51.1)) x51.2.1 x53
 else
 Option.bind (z02 a b x3.1 x3.2.2) fun x54 =>
 bif ltB (subI .i64 x54.1 a) (subI .i64 b x54.1) then
 Option.bind (z01 a x54.1 (subI .i64 c 1) x54.2.2) fun x55 =>
 z00 (addI .i64 x54.1 1) b (subI .i64 c 1) (leB (quoI .i64 (subI .i64 b a) 8) (subI .i64 x54.1 a)) x54.2.1 x55
 else
 Option.bind (z01 (addI .i64 x54.1 1) b (subI .i64 c 1) x54.2.2) fun x56 =>
 z00 a x54.1 (subI .i64 c 1) (leB (quoI .i64 (subI .i64 b a) 8) (subI .i64 b x54.1)) x54.2.1 x56
 else
 bif ltB 0 a then
 nth x3.2.2 (subI .i64 a 1) fun _ =>
 nth x3.2.2 x3.1 fun _ =>
 nthN x3.2.2 (Int.toNat (subI .i64 a 1)) fun y57 =>
 nthN x3.2.2 (Int.toNat x3.1) fun y58 =>
 Option.bind (z06 y57 y58) fun x59 =>
 bif !(ltB x59 0) then
 Option.bind (z04 a b x3.1 x3.2.2) fun x60 =>
 z00 x60.1 b (subI .i64 c 1) d e x60.2
 else
 Option.bind (z02 a b x3.1 x3.2.2) fun x61 =>
 bif ltB (subI .i64 x61.1 a) (subI .i64 b x61.1) then
 Option.bind (z01 a x61.1 (subI .i64 c 1) x61.2.2) fun x62 =>
 z00 (addI .i64 x61.1 1) b (subI .i64 c 1) (leB (quoI .i64 (subI .i64 b a) 8) (subI .i64 x61.1 a)) x61.2.1 x62
 else
 Option.bind (z01 (addI .i64 x61.1 1) b (subI .i64 c 1) x61.2.2) fun x63 =>
 z00 a x61.1 (subI .i64 c 1) (leB (quoI .i64 (subI .i64 b a) 8) (subI .i64 b x61.1)) x61.2.1 x63
 else
 Option.bind (z02 a b x3.1 x3.2.2) fun x64 =>
 bif ltB (subI .i64 x64.1 a) (subI .i64 b x64.1) then
 Option.bind (z01 a x64.1 (subI .i64 c 1) x64.2.2) fun x65 =>
 z00 (addI .i64 x64.1 1) b (subI .i64 c 1) (leB (quoI .i64 (subI .i64 b a) 8) (subI .i64 x64.1 a)) x64.2.1 x65
 else
 Option.bind (z01 (addI .i64 x64.1 1) b (subI .i64 c 1) x64.2.2) fun x66 =>
 z00 a x64.1 (subI .i64 c 1) (leB (quoI .i64 (subI .i64 b a) 8) (subI .i64 b x64.1)) x64.2.1 x66
 else
 bif ltB 0 a then
 nth x3.2.2 (subI .i64 a 1) fun _ =>
 nth x3.2.2 x3.1 fun _ =>
 nthN x3.2.2 (Int.toNat (subI .i64 a 1)) fun y67 =>
 nthN x3.2.2 (Int.toNat x3.1) fun y68 =>
 Option.bind (z06 y67 y68) fun x69 =>
 bif !(ltB x69 0) then
 Option.bind (z04 a b x3.1 x3.2.2) fun x70 =>
 z00 x70.1 b (subI .i64 c 1) d e x70.2
 else
 Option.bind (z02 a b x3.1 x3.2.2) fun x71 =>
 bif ltB (subI .i64 x71.1 a) (subI .i64 b x71.1) then
 Option.bind (z01 a x71.1 (subI .i64 c 1) x71.2.2) fun x72 =>
 z00 (addI .i64 x71.1 1) b (subI .i64 c 1) (leB (quoI .i64 (subI .i64 b a) 8) (subI .i64 x71.1 a)) x71.2.1 x72
 else
 Option.bind (z01 (addI .i64 x71.1 1) b (subI .i64 c 1) x71.2.2) fun x73 =>
 z00 a x71.1 (subI .i64 c 1) (leB (quoI .i64 (subI .i64 b a) 8) (subI .i64 b x71.1)) x71.2.1 x73
 else
 Option.bind (z02 a b x3.1 x3.2.2) fun x74 =>
 bif ltB (subI .i64 x74.1 a) (subI .i64 b x74.1) then
 Option.bind (z01 a x74.1 (subI .i64 c 1) x74.2.2) fun x75 =>
 z00 (addI .i64 x74.1 1) b (subI .i64 c 1) (leB (quoI .i64 (subI .i64 b a) 8) (subI .i64 x74.1 a)) x74.2.1 x75
 else
 Option.bind (z01 (addI .i64 x74.1 1) b (subI .i64 c 1) x74.2.2) fun x76 =>
 z00 a x74.1 (subI .i64 c 1) (leB (quoI .i64 (subI .i64 b a) 8) (subI .i64 b x74.1)) x74.2.1 x76
 else
 Option.bind (z0q a b f) fun x77 =>
 bif eqB x77.2.1 2 then
 Option.bind (z0m a b x77.2.2) fun x78 =>
 bif d then
 bif e then
 Option.bind (z09 a b x78) fun x79 =>
 bif x79.1 then
 some x79.2
 else
 bif ltB 0 a then
 nth x79.2 (subI .i64 a 1) fun _ =>
 nth x79.2 (subI .i64 (subI .i64 b 1) (subI .i64 x77.1 a)) fun _ =>
 nthN x79.2 (Int.toNat (subI .i64 a 1)) fun y80 =>
 nthN x79.2 (Int.toNat (subI .i64 (subI .i64 b 1) (subI .i64 x77.1 a))) fun y81 =>
 Option.bind (z06 y80 y81) fun x82 =>
 bif !(ltB x82 0) then
 Option.bind (z04 a b (subI .i64 (subI .i64 b 1) (subI .i64 x77.1 a)) x79.2) fun x83 =>
 z00 x83.1 b c d e x83.2
 else
 Option.bind (z02 a b (subI .i64 (subI .i64 b 1) (subI .i64 x77.1 a)) x79.2) fun x84 =>
 bif ltB (subI .i64 x84.1 a) (subI .i64 b x84.1) then
 Option.bind (z01 a x84.1 c x84.2.2) fun x85 =>
 z00 (addI .i64 x84.1 1) b c (leB (quoI .i64 (subI .i64 b a) 8) (subI .i64 x84.1 a)) x84.2.1 x85
 else
 Option.bind (z01 (addI .i64 x84.1 1) b c x84.2.2) fun x86 =>
 z00 a x84.1 c (leB (quoI .i64 (subI .i64 b a) 8) (subI .i64 b x84.1)) x84.2.1 x86
 else
 Option.bind (z02 a b (subI .i64 (subI .i64 b 1) (subI .i64 x77.1 a)) x79.2) fun x87 =>
 bif ltB (subI .i64 x87.1 a) (subI .i64 b x87.1) then
 Option.bind (z01 a x87.1 c x87.2.2) fun x88 =>
 z00 (addI .i64 x87.1 1) b c (leB (quoI .i64 (subI .i64 b a) 8) (subI .i64 x87.1 a)) x87.2.1 x88
 else
 Option.bind (z01 (addI .i64 x87.1 1) b c x87.2.2) fun x89 =>
 z00 a x87.1 c (leB (quoI .i64 (subI .i64 b a) 8) (subI .i64 b x87.1)) x87.2.1 x89
 else
 bif ltB 0 a then
 nth x78 (subI .i64 a 1) fun _ =>
 nth x78 (subI .i64 (subI .i64 b 1) (subI .i64 x77.1 a)) fun _ =>
 nthN x78 (Int.toNat (subI .i64 a 1)) fun y90 =>
 nthN x78 (Int.toNat (subI .i64 (subI .i64 b 1) (subI .i64 x77.1 a))) fun y91 =>
 Option.bind (z06 y90 y91) fun x92 =>
 bif !(ltB x92 0) then
 Option.bind (z04 a b (subI .i64 (subI .i64 b 1) (subI .i64 x77.1 a)) x78) fun x93 =>
 z00 x93.1 b c d e x93.2
 else
 Option.bind (z02 a b (subI .i64 (subI .i64 b 1) (subI .i64 x77.1 a)) x78) fun x94 =>
 bif ltB (subI .i64 x94.1 a) (subI .i64 b x94.1) then
 Option.bind (z01 a x94.1 c x94.2.2) fun x95 =>
 z00 (addI .i64 x94.1 1) b c (leB (quoI .i64 (subI .i64 b a) 8) (subI .i64 x94.1 a)) x94.2.1 x95
 else
 Option.bind (z01 (addI .i64 x94.1 1) b c x94.2.2) fun x96 =>
 z00 a x94.1 c (leB (quoI .i64 (subI .i64 b a) 8) (subI .i64 b x94.1)) x94.2.1 x96
 else
 Option.bind (z02 a b (subI .i64 (subI .i64 b 1) (subI .i64 x77.1 a)) x78) fun x97 =>
 bif ltB (subI .i64 x97.1 a) (subI .i64 b x97.1) then
 Option.bind (z01 a x97.1 c x97.2.2) fun x98 =>
 z00 (addI .i64 x97.1 1) b c (leB (quoI .i64 (subI .i64 b a) 8) (subI .i64 x97.1 a)) x97.2.1 x98
 else
 Option.bind (z01 (addI .i64 x97.1 1) b c x97.2.2) fun x99 =>
 z00 a x97.1 c (leB (quoI .i64 (subI .i64 b a) 8) (subI .i64 b x97.1)) x97.2.1 x99
 else
 bif ltB 0 a then
 nth x78 (subI .i64 a 1) fun _ =>
 nth x78 (subI .i64 (subI .i64 b 1) (subI .i64 x77.1 a)) fun _ =>
 nthN x78 (Int.toNat (subI .i64 a 1)) fun y100 =>
 nthN x78 (Int.toNat (subI .i64 (subI .i64 b 1) (subI .i64 x77.1 a))) fun y101 =>
 Option.bind (z06 y100 y101) fun x102 =>
 bif !(ltB x102 0) then
 Option.bind (z04 a b (subI .i64 (subI .i64 b 1) (subI .i64 x77.1 a)) x78) fun x103 =>
 z00 x103.1 b c d e x103.2
 else
 Option.bind (z02 a b (subI .i64 (subI .i64 b 1) (subI .i64 x77.1 a)) x78) fun x104 =>
 bif ltB (subI .i64 x104.1 a) (subI .i64 b x104.1) then
 Option.bind (z01 a x104.1 c x104.2.2) fun x105 =>
 z00 (addI .i64 x104.1 1) b c (leB (quoI .i64 (subI .i64 b a) 8) (subI .i64 x104.1 a)) x104.2.1 x105
 else
 Option.bind (z01 (addI .i64 x104.1 1) b c x104.2.2) fun x106 =>
 z00 a x104.1 c (leB (quoI .i64 (subI .i64 b a) 8) (subI .i64 b x104.1)) x104.2.1 x106
 else
 Option.bind (z02 a b (subI .i64 (subI .i64 b 1) (subI .i64 x77.1 a)) x78) fun x107 =>
 bif ltB (subI .i64 x107.1 a) (subI .i64 b x107.1) then
 Option.bind (z01 a x107.1 c x107.2.2) fun x108 =>
 z00 (addI .i64 x107.1 1) b c (leB (quoI .i64 (subI .i64 b a) 8) (subI .i64 x107.1 a)) x107.2.1 x108
 else
 Option.bind (z01 (addI .i64 x107.1 1) b c x107.2.2) fun x109 =>
 z00 a x107.1 c (leB (quoI .i64 (subI .i64 b a) 8) (subI .i64 b x107.1)) x107.2.1 x109
 else
 bif d then
 bif e then
 bif eqB x77.2.1 1 then
 Option.bind (z09 a b x77.2.2) fun x110 =>
 bif x110.1 then
 some x110.2
 else
 bif ltB 0 a then
 nth x110.2 (subI .i64 a 1) fun _ =>
 nth x110.2 x77.1 fun _ =>
 nthN x110.2 (Int.toNat (subI .i64 a 1)) fun y111 =>
 nthN x110.2 (Int.toNat x77.1) fun y112 =>
 Option.bind (z06 y111 y112) fun x113 =>
 bif !(ltB x113 0) then
 Option.bind (z04 a b x77.1 x110.2) fun x114 =>
 z00 x114.1 b c d e x114.2
 else
 Option.bind (z02 a b x77.1 x110.2) fun x115 =>
 bif ltB (subI .i64 x115.1 a) (subI .i64 b x115.1) then
 Option.bind (z01 a x115.1 c x115.2.2) fun x116 =>
 z00 (addI .i64 x115.1 1) b c (leB (quoI .i64 (subI .i64 b a) 8) (subI .i64 x115.1 a)) x115.2.1 x116
 else
 Option.bind (z01 (addI .i64 x115.1 1) b c x115.2.2) fun x117 =>
 z00 a x115.1 c (leB (quoI .i64 (subI .i64 b a) 8) (subI .i64 b x115.1)) x115.2.1 x117
 else
 Option.bind (z02 a b x77.1 x110.2) fun x118 =>
 bif ltB (subI .i64 x118.1 a) (subI .i64 b x118.1) then
 Option.bind (z01 a x118.1 c x118.2.2) fun x119 =>
 z00 (addI .i64 x118.1 1) b c (leB (quoI .i64 (subI .i64 b a) 8) (subI .i64 x118.1 a)) x118.2.1 x119
 else
 Option.bind (z01 (addI .i64 x118.1 1) b c x118.2.2) fun x120 =>
 z00 a x118.1 c (leB (quoI .i64 (subI .i64 b a) 8) (subI .i64 b x118.1)) x118.2.1 x120
 else
 bif ltB 0 a then
 nth x77.2.2 (subI .i64 a 1) fun _ =>
 nth x77.2.2 x77.1 fun _ =>
 nthN x77.2.2 (Int.toNat (subI .i64 a 1)) fun y121 =>
 nthN x77.2.2 (Int.toNat x77.1) fun y122 =>
 Option.bind (z06 y121 y122) fun x123 =>
 bif !(ltB x123 0) then
 Option.bind (z04 a b x77.1 x77.2.2) fun x124 =>
 z00 x124.1 b c d e x124.2
 else
 Option.bind (z02 a b x77.1 x77.2.2) fun x125 =>
 bif ltB (subI .i64 x125.1 a) (subI .i64 b x125.1) then
 Option.bind (z01 a x125.1 c x125.2.2) fun x126 =>
 z00 (addI .i64 x125.1 1) b c (leB (quoI .i64 (subI .i64 b a) 8) (subI .i64 x125.1 a)) x125.2.1 x126
 else
 Option.bind (z01 (addI .i64 x125.1 1) b c x125.2.2) fun x127 =>
 z00 a x125.1 c (leB (quoI .i64 (subI .i64 b a) 8) (subI .i64 b x125.1)) x125.2.1 x127
 else
 Option.bind (z02 a b x77.1 x77.2.2) fun x128 =>
 bif ltB (subI .i64 x128.1 a) (subI .i64 b x128.1) then
 Option.bind (z01 a x128.1 c x128.2.2) fun x129 =>
 z00 (addI .i64 x128.1 1) b c (leB (quoI .i64 (subI .i64 b a) 8) (subI .i64 x128.1 a)) x128.2.1 x129
 else
 Option.bind (z01 (addI .i64 x128.1 1) b c x128.2.2) fun x130 =>
 z00 a x128.1 c (leB (quoI .i64 (subI .i64 b a) 8) (subI .i64 b x128.1)) x128.2.1 x130
 else
 bif ltB 0 a then
 nth x77.2.2 (subI .i64 a 1) fun _ =>
 nth x77.2.2 x77.1 fun _ =>
 nthN x77.2.2 (Int.toNat (subI .i64 a 1)) fun y131 =>
 nthN x77.2.2 (Int.toNat x77.1) fun y132 =>
 Option.bind (z06 y131 y132) fun x133 =>
 bif !(ltB x133 0) then
 Option.bind (z04 a b x77.1 x77.2.2) fun x134 =>
 z00 x134.1 b c d e x134.2
 else
 Option.bind (z02 a b x77.1 x77.2.2) fun x135 =>
 bif ltB (subI .i64 x135.1 a) (subI .i64 b x135.1) then
 Option.bind (z01 a x135.1 c x135.2.2) fun x136 =>
 z00 (addI .i64 x135.1 1) b c (leB (quoI .i64 (subI .i64 b a) 8) (subI .i64 x135.1 a)) x135.2.1 x136
 else
 Option.bind (z01 (addI .i64 x135.1 1) b c x135.2.2) fun x137 =>
 z00 a x135.1 c (leB (quoI .i64 (subI .i64 b a) 8) (subI .i64 b x135.1)) x135.2.1 x137
 else
 Option.bind (z02 a b x77.1 x77.2.2) fun x138 =>
 bif ltB (subI .i64 x138.1 a) (subI .i64 b x138.1) then
 Option.bind (z01 a x138.1 c x138.2.2) fun x139 =>
 z00 (addI .i64 x138.1 1) b c (leB (quoI .i64 (subI .i64 b a) 8) (subI .i64 x138.1 a)) x138.2.1 x139
 else
 Option.bind (z01 (addI .i64 x138.1 1) b c x138.2.2) fun x140 =>
 z00 a x138.1 c (leB (quoI .i64 (subI .i64 b a) 8) (subI .i64 b x138.1)) x138.2.1 x140
 else
 bif ltB 0 a then
 nth x77.2.2 (subI .i64 a 1) fun _ =>
 nth x77.2.2 x77.1 fun _ =>
 nthN x77.2.2 (Int.toNat (subI .i64 a 1)) fun y141 =>
 nthN x77.2.2 (Int.toNat x77.1) fun y142 =>
 Option.bind (z06 y141 y142) fun x143 =>
 bif !(ltB x143 0) then
 Option.bind (z04 a b x77.1 x77.2.2) fun x144 =>
 z00 x144.1 b c d e x144.2
 else
 Option.bind (z02 a b x77.1 x77.2.2) fun x145 =>
 bif ltB (subI .i64 x145.1 a) (subI .i64 b x145.1) then
 Option.bind (z01 a x145.1 c x145.2.2) fun x146 =>
 z00 (addI .i64 x145.1 1) b c (leB (quoI .i64 (subI .i64 b a) 8) (subI .i64 x145.1 a)) x145.2.1 x146
 else
 Option.bind (z01 (addI .i64 x145.1 1) b c x145.2.2) fun x147 =>
 z00 a x145.1 c (leB (quoI .i64 (subI .i64 b a) 8) (subI .i64 b x145.1)) x145.2.1 x147
 else
 Option.bind (z02 a b x77.1 x77.2.2) fun x148 =>
 bif ltB (subI .i64 x148.1 a) (subI .i64 b x148.1) then
 Option.bind (z01 a x148.1 c x148.2.2) fun x149 =>
 z00 (addI .i64 x148.1 1) b c (leB (quoI .i64 (subI .i64 b a) 8) (subI .i64 x148.1 a)) x148.2.1 x149
 else
 Option.bind (z01 (addI .i64 x148.1 1) b c x148.2.2) fun x150 =>
 z00 a x148.1 c (leB (quoI .i64 (subI .i64 b a) 8) (subI .i64 b x148.1)) x148.2.1 x150
 ) :=
 gL o2' (q0b Tryz.f188 [1,1,0,0])
theorem y6c a b c : eL (z16 a b c) (
 z0e a b (addI .i64 a 1) c
 ) :=
 cL o2' Tryz.func201
theorem y5w a b c : eL (z1d a b c) (
 z0r a 0 (subI .i64 b a) (quoI .i64 (subI .i64 (subI .i64 b a) 1) 2) c
 ) :=
 cL o2' Tryz.func202
theorem y6w a b c : eL (z17 a b c) (
 bif leB 8 (subI .i64 b a) then
 Option.bind (z3k (subI .i64 b a)) fun x0 =>
 z0b a (subI .i64 b a) x0 (subI .i64 (addI .i64 a (mulI .i64 (quoI .i64 (subI .i64 b a) 4) 2)) 1) c (IntKind.wrap .u64 (subI .i64 b a))
 else
 some c
 ) :=
 cL o2' Tryz.func203
theorem y6o a b c : eL (z0q a b c) (
 bif leB 8 (subI .i64 b a) then
 bif leB 50 (subI .i64 b a) then
 Option.bind (z0l (addI .i64 a (mulI .i64 (quoI .i64 (subI .i64 b a) 4) 1)) c 0) fun x0 =>
 Option.bind (z0l (addI .i64 a (mulI .i64 (quoI .i64 (subI .i64 b a) 4) 2)) x0.2.1 x0.2.2) fun x1 =>
 Option.bind (z0l (addI .i64 a (mulI .i64 (quoI .i64 (subI .i64 b a) 4) 3)) x1.2.1 x1.2.2) fun x2 =>
 Option.bind (z0y x0.1 x1.1 x2.1 x2.2.1 x2.2.2) fun x3 =>
 bif eqB x3.2.2 0 then
 some (x3.1, 1, x3.2.1)
 else
 bif eqB x3.2.2 12 then
 some (x3.1, 2, x3.2.1)
 else
 some (x3.1, 0, x3.2.1)
 else
 Option.bind (z0y (addI .i64 a (mulI .i64 (quoI .i64 (subI .i64 b a) 4) 1)) (addI .i64 a (mulI .i64 (quoI .i64 (subI .i64 b a) 4) 2)) (addI .i64 a (mulI .i64 (quoI .i64 (subI .i64 b a) 4) 3)) c 0) fun x4 =>
 bif eqB x4.2.2 0 then
 some (x4.1, 1, x4.2.1)
 else
 bif eqB x4.2.2 12 then
 some (x4.1, 2, x4.2.1)
 else
 some (x4.1, 0, x4.2.1)
 else
 some ((addI .i64 a (mulI .i64 (quoI .i64 (subI .i64 b a) 4) 2)), 1, c)
 ) :=
 cL o29' Tryz.func204
theorem y6v a b c : eL (z0m a b c) (
 z0v a (subI .i64 b 1) c
 ) :=
 cL o2' Tryz.func205
theorem y97 a b c : eL (z09 a b c) (
 z03 a b (addI .i64 a 1) 0 c
 ) :=
 cL o8' Tryz.func206
theorem y84 a b c d : eL (z04 a b c d) (
 nth d c fun _ =>
 nth d a fun _ =>
 nthN d (Int.toNat c) fun y0 =>
 nthN d (Int.toNat a) fun y1 =>
 nth d a fun _ =>
 nthN d (Int.toNat a) fun _y2 =>
 nth (List.set d (Int.toNat a) y0) c fun _ =>
 nthN (List.set d (Int.toNat a) y0) (Int.toNat c) fun _y3 =>
 z0a a (addI .i64 a 1) (subI .i64 b 1) (List.set (List.set d (Int.toNat a) y0) (Int.toNat c) y1)
 ) :=
 cL o9' Tryz.func207
theorem y9b a b c d : eL (z02 a b c d) (
 nth d c fun _ =>
 nth d a fun _ =>
 nthN d (Int.toNat c) fun y0 =>
 nthN d (Int.toNat a) fun y1 =>
 nth d a fun _ =>
 nthN d (Int.toNat a) fun _y2 =>
 nth (List.set d (Int.toNat a) y0) c fun _ =>
 nthN (List.set d (Int.toNat a) y0) (Int.toNat c) fun _y3 =>
 z10 a (addI .i64 a 1) (subI .i64 b 1) (List.set (List.set d (Int.toNat a) y0) (Int.toNat c) y1)
 ) :=
 cL o4' Tryz.func208
theorem y7u a : eL (z3k a) (
 Option.bind (z5w (IntKind.wrap .u64 a)) fun x0 =>
 chk (0 <= x0) <|
 some (shlI .u64 1 x0)
 ) :=
 cL ⟨[.lf (.i .u64)],[]⟩ Tryz.func220
theorem y8q a b c : eL (z0l a b c) (
 Option.bind (z0y (subI .i64 a 1) a (addI .i64 a 1) b c) fun x0 =>
 some (x0.1, x0.2.1, x0.2.2)
 ) :=
 cL o24' Tryz.func222
theorem y6i a b c d e : eL (z0y a b c d e) (
 Option.bind (z0z a b d e) fun x0 =>
 Option.bind (z0z x0.2.1 c x0.2.2.1 x0.2.2.2) fun x1 =>
 Option.bind (z0z x0.1 x1.1 x1.2.2.1 x1.2.2.2) fun x2 =>
 some (x2.2.1, x2.2.2.1, x2.2.2.2)
 ) :=
 cL o24' Tryz.func223
theorem y60 a b c d : eL (z0z a b c d) (
 nth c b fun _ =>
 nth c a fun _ =>
 nthN c (Int.toNat b) fun y0 =>
 nthN c (Int.toNat a) fun y1 =>
 Option.bind (z06 y0 y1) fun x2 =>
 bif ltB x2 0 then
 some (b, a, c, (addI .i64 d 1))
 else
 some (a, b, c, d)
 ) :=
 cL o30' Tryz.func225
theorem qt7 a b c d e f g h i j k l m n o : eL (z29 a b c d e f g h i j k l m n o) (
 bif ltB c b then
 nth a c fun y0 =>
 Option.bind (z5p y0) fun x1 =>
 bif !x1 then
 some false
 else
 bif eqB y0.Node d then
 some false
 else
 bif ltB 0 c then
 nth o (subI .i64 c 1) fun y2 =>
 bif leB y0.Node y2.Node then
 some false
 else
 z29 a b (addI .i64 c 1) d e f g h i j k l m n o
 else
 z29 a b (addI .i64 c 1) d e f g h i j k l m n o
 else
 some true
 ) :=
 gL o0' (q0b Tryz.f29 [1,1,1,1,0,1,0,0])
theorem y9m a : eL (z5p a) (
 bif leB 0 a.Node then
 bif ltB a.Node 10 then
 bif leB 1 a.Seq then
 Option.bind (z39 a.Trust) fun x0 =>
 bif eqB x0 0 then
 Option.bind (z48 a.Votes) fun x1 =>
 bif x1 then
 Option.bind (z48 a.Accepts) fun x2 =>
 some x2
 else
 some false
 else
 some false
 else
 some false
 else
 some false
 else
 some false
 ) :=
 cL o0' Tryz.func44
theorem y35 a b c d : eL (z4w a b c d) (
 bif ltB d c then
 nth b d fun y0 =>
 bif eqS a y0 then
 some true
 else
 z4w a b c (addI .i64 d 1)
 else
 some false
 ) :=
 gL o0' (q0b Tryz.f77 [1,0,1,0,0])
theorem y2o a b c d e f g h i : eL (z3z a b c d e f g h i) (
 bif ltB i h then
 nth g i fun y0 =>
 bif c then
 z3z a b true d e f g h (addI .i64 i 1)
 else
 z3z a b (eqS b y0) d e f g h (addI .i64 i 1)
 else
 bif !c then
 some false
 else
 z3w a d e (addI .i64 f 1)
 ) :=
 gL o0' (q0b Tryz.f26 [1,0,1,0,0,1,1,0,0,1,1,0,1,0,0])
theorem qyt a b c d : eL (z47 a b c d) (
 bif ltB d c then
 nth b d fun y0 =>
 bif neB y0 a then
 some y0
 else
 z47 a b c (addI .i64 d 1)
 else
 some a
 ) :=
 gL o1' (q0b Tryz.f94 [1,1,0,1,0,0])
theorem y2c a b c d e f g h i j k l m n o p q r s t u v w x y z A B C D : eL (z2m a b c d e f g h i j k l m n o p q r s t u v w x y z A B C D) (
 bif ltB k j then
 nth i k fun y0 =>
 Option.bind (z3h a y0) fun x1 =>
 z2m x1 b c d e f g h i j (addI .i64 k 1) l m n o p q r s t u v w x y z A B C D
 else
 z20 a b c d e f g (addI .i64 h 1) l m n o p q r s t u v w
 ) :=
 gL o5' (q0b Tryz.f102 [1,1,1,0,1,0,0,1,1,0,0,1,1,1,0,0,1,1,0,0,1,1,1,0,0])
theorem y1c a b c d e f g h i j k l : eL (z2n a b c d e f g h i j k l) (
 bif ltB c b then
 nth a c fun y0 =>
 Option.bind (z3f y0) fun x1 =>
 capOk (List.length l + List.length ([(Trust.mk x1.Threshold x1.Nodes x1.Inner)] : List Trust)) <|
 z2n a b (addI .i64 c 1) d e f g h i j k (l ++ ([(Trust.mk x1.Threshold x1.Nodes x1.Inner)] : List Trust))
 else
 some (Trust.mk j k l)
 ) :=
 gL o14' (q0b Tryz.f169 [1,1,0,1,0,0])
theorem qsg a b c d : eL (z2b a b c d) (
 bif ltB d c then
 nth b d fun y0 =>
 Option.bind (z5j y0) fun x1 =>
 bif !x1 then
 some false
 else
 bif ltB 0 d then
 nth a (subI .i64 d 1) fun y2 =>
 Option.bind (z59 y2 y0) fun x3 =>
 bif leB 0 x3 then
 some false
 else
 z2b a b c (addI .i64 d 1)
 else
 z2b a b c (addI .i64 d 1)
 else
 some true
 ) :=
 gL o0' (q0b Tryz.f190 [1,0,1,0,0])
theorem y50 a : eL (z5j a) (
 bif leB 0 a.Topic then
 bif ltB a.Topic 8 then
 bif leB 0 a.Value then
 some (leB a.Value 15)
 else
 some false
 else
 some false
 else
 some false
 ) :=
 cL o0' Tryz.func211
theorem y62 a b : eL (z59 a b) (
 Option.bind (z2x a.Topic b.Topic) fun x0 =>
 Option.bind (z2x a.Value b.Value) fun x1 =>
 Option.bind (z5g ([x0, x1] : List Int)) fun x2 =>
 some x2
 ) :=
 cL o1' Tryz.func212
theorem y1p a b c d e f g h : eL (z1q a b c d e f g h) (
 bif ltB e d then
 nth c e fun y0 =>
 Option.bind (z2k y0 a) fun x1 =>
 bif x1 then
 z1q a (addI .i64 b 1) c d (addI .i64 e 1) f g h
 else
 z1q a b c d (addI .i64 e 1) f g h
 else
 some (leB f b)
 ) :=
 gL o0' (q0b Tryz.f193 [1,1,1,1,0,1,0,0])
theorem y1e a b c d e : eL (z2z a b c d e) (
 bif ltB d c then
 nth b d fun y0 =>
 Option.bind (z55 (Config.mk e) y0 a) fun x1 =>
 bif !x1 then
 some (y0, true)
 else
 z2z a b c (addI .i64 d 1) e
 else
 some (0, false)
 ) :=
 gL o7' (q0b Tryz.f195 [1,0,1,0,0])
theorem y75 a b c : eL (z55 a b c) (
 nth a.Members b fun y0 =>
 Option.bind (z2k y0.Trust c) fun x1 =>
 some x1
 ) :=
 cL o0' Tryz.func214
theorem y28 a b c d e f g h i j k : eL (z37 a b c d e f g h i j k) (
 bif ltB d c then
 nth b d fun y0 =>
 Option.bind (z4u y0 a) fun x1 =>
 bif x1.2 then
 some ((Frac.mk (mulI .i64 j x1.1.Num) (mulI .i64 k x1.1.Den)), true)
 else
 z37 a b c (addI .i64 d 1) e f g h i j k
 else
 some ((Frac.mk 0 0), false)
 ) :=
 gL o23' (q0b Tryz.f200 [1,1,1,0,1,0,0])
theorem qx6 a b c d : eL (z1k a b c d) (
 bif ltB d c then
 nth a d fun y0 =>
 bif eqB b y0 then
 some d
 else
 z1k a b c (addI .i64 d 1)
 else
 some (-1)
 ) :=
 gL o1' (q0b Tryz.f224 [1,0,1,0,0])
theorem y7w a b c d : eL (z0e a b c d) (
 bif ltB c b then
 z0i a b c c d
 else
 some d
 ) :=
 gL o2' (q0b Tryz.f201 [1,0,0])
theorem y1l a b c d e : eL (z0r a b c d e) (
 bif leB 0 d then
 Option.bind (z15 d c a e) fun x0 =>
 z0r a b c (subI .i64 d 1) x0
 else
 z0s a b (subI .i64 c 1) e
 ) :=
 gL o2' (q0b Tryz.f202 [1,1,1,0,1,0,0])
theorem y98 a b c d : eL (z15 a b c d) (
 z0d b c a d
 ) :=
 cL o2' Tryz.func219
theorem y2m a b c d e f : eL (z0b a b c d e f) (
 bif (leB d (addI .i64 (addI .i64 a (mulI .i64 (quoI .i64 b 4) 2)) 1)) then
 Option.bind (z3r f) fun x0 =>
 bif (leB b (IntKind.wrap .i64 (andI .u64 x0.1 (subI .u64 c 1)))) then
 nth e (addI .i64 a (subI .i64 (IntKind.wrap .i64 (andI .u64 x0.1 (subI .u64 c 1))) b)) fun _ =>
 nth e d fun _ =>
 nthN e (Int.toNat (addI .i64 a (subI .i64 (IntKind.wrap .i64 (andI .u64 x0.1 (subI .u64 c 1))) b))) fun y1 =>
 nthN e (Int.toNat d) fun y2 =>
 nth e d fun _ =>
 nthN e (Int.toNat d) fun _y3 =>
 nth (List.set e (Int.toNat d) y1) (addI .i64 a (subI .i64 (IntKind.wrap .i64 (andI .u64 x0.1 (subI .u64 c 1))) b)) fun _ =>
 nthN (List.set e (Int.toNat d) y1) (Int.toNat (addI .i64 a (subI .i64 (IntKind.wrap .i64 (andI .u64 x0.1 (subI .u64 c 1))) b))) fun _y4 =>
 z0b a b c (addI .i64 d 1) (List.set (List.set e (Int.toNat d) y1) (Int.toNat (addI .i64 a (subI .i64 (IntKind.wrap .i64 (andI .u64 x0.1 (subI .u64 c 1))) b))) y2) x0.2
 else
 nth e (addI .i64 a (IntKind.wrap .i64 (andI .u64 x0.1 (subI .u64 c 1)))) fun _ =>
 nth e d fun _ =>
 nthN e (Int.toNat (addI .i64 a (IntKind.wrap .i64 (andI .u64 x0.1 (subI .u64 c 1))))) fun y5 =>
 nthN e (Int.toNat d) fun y6 =>
 nth e d fun _ =>
 nthN e (Int.toNat d) fun _y7 =>
 nth (List.set e (Int.toNat d) y5) (addI .i64 a (IntKind.wrap .i64 (andI .u64 x0.1 (subI .u64 c 1)))) fun _ =>
 nthN (List.set e (Int.toNat d) y5) (Int.toNat (addI .i64 a (IntKind.wrap .i64 (andI .u64 x0.1 (subI .u64 c 1))))) fun _y8 =>
 z0b a b c (addI .i64 d 1) (List.set (List.set e (Int.toNat d) y5) (Int.toNat (addI .i64 a (IntKind.wrap .i64 (andI .u64 x0.1 (subI .u64 c 1))))) y6) x0.2
 else
 some e
 ) :=
 gL o2' (q0b Tryz.f203 [1,1,0,1,1,1,0,0])
theorem y87 a : eL (z3r a) (
 some ((xorI .u64 (xorI .u64 (xorI .u64 a (shlI .u64 a 13)) (shrI .u64 (xorI .u64 a (shlI .u64 a 13)) 7)) (shlI .u64 (xorI .u64 (xorI .u64 a (shlI .u64 a 13)) (shrI .u64 (xorI .u64 a (shlI .u64 a 13)) 7)) 17)), (xorI .u64 (xorI .u64 (xorI .u64 a (shlI .u64 a 13)) (shrI .u64 (xorI .u64 a (shlI .u64 a 13)) 7)) (shlI .u64 (xorI .u64 (xorI .u64 a (shlI .u64 a 13)) (shrI .u64 (xorI .u64 a (shlI .u64 a 13)) 7)) 17)))
 ) :=
 cL o31' Tryz.func221
theorem y6n a b c : eL (z0v a b c) (
 bif ltB a b then
 nth c b fun _ =>
 nth c a fun _ =>
 nthN c (Int.toNat b) fun y0 =>
 nthN c (Int.toNat a) fun y1 =>
 nth c a fun _ =>
 nthN c (Int.toNat a) fun _y2 =>
 nth (List.set c (Int.toNat a) y0) b fun _ =>
 nthN (List.set c (Int.toNat a) y0) (Int.toNat b) fun _y3 =>
 z0v (addI .i64 a 1) (subI .i64 b 1) (List.set (List.set c (Int.toNat a) y0) (Int.toNat b) y1)
 else
 some c
 ) :=
 gL o2' (q0b Tryz.f205 [1,1,0,0])
theorem y3a a b c d e : eL (z03 a b c d e) (
 bif ltB d 5 then
 z0x a b c d true e
 else
 some (false, e)
 ) :=
 gL o8' (q0b Tryz.f206 [1,1,0,1,0,0])
theorem y8l a b c d : eL (z0a a b c d) (
 z0t a b c d
 ) :=
 gL o9' (q0b Tryz.f207 [1,1,1,0,0,0])
end Go.Proofs.YtglokalgdbegeaaGreat
