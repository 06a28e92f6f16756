/- What the functions come to: names. -/
import Derived.Test.YtkeiaodiibageaaGreatDoorP08Env
namespace Go.Proofs.YtkeiaodiibageaaGreatDoor
open Go Go.Ab
abbrev dA (c : sig.TC) (x : sig.Ty c) : TL sig := .d (.ag (sig.cells c x))
noncomputable abbrev gp (f : Nat) (fn : Func) (k : Nat) (o : OSpec sig) (p ms : List Nat) (st : TSt sig) : Option o.Out := goC tn ⟨f, fn, k⟩ o (q0i fn p) (qxc fn p ms) st
abbrev fI (n : Int) : TV sig := .fl (.d (.lf (.i .i64 n)))
abbrev fB (n : Bool) : TV sig := .fl (.d (.lf (.b n)))
abbrev fL (c : sig.TC) (l : List (sig.Ty c)) : TV sig := .fl (.d (.lf (.l c l)))
abbrev fP (n : Nat) : TV sig := .fl (.ptr n 0)
abbrev dI (n : Int) : TL sig := .d (.lf (.i .i64 n))
abbrev dL (c : sig.TC) (l : List (sig.Ty c)) : TL sig := .d (.lf (.l c l))
noncomputable section
def law08_RegistryMerges (a : List Int) : Option (Bool) := callC tn 3 [.d (.lf (.l (c := .i64) a))] [] o1'
def law08_RegistryArrives (a : List Int) : Option (Bool) := callC tn 4 [.d (.lf (.l (c := .i64) a))] [] o1'
def law08_RegistryDifference (a : List Int) : Option (Bool) := callC tn 5 [.d (.lf (.l (c := .i64) a))] [] o1'
def z3s (a : List Int) : Option (Unit × List Int × Int) := callC tn 7 [.d (.lf (.l (c := .i64) a))] [] o19'
def z0l (a b : Int) (e : List Int) (f : Int) : Option (Int × List Int × Int) := callC tn 9 [.ptr 0 0,dI a,dI b] [[.d (.lf (.l (c := .i64) e)),dI f]] o8'
def z3q (a : Int) (b : List Int) (e : Int) : Option (List Int × List Int × Int) := callC tn 8 [.ptr 0 0,dI a] [[.d (.lf (.l (c := .i64) b)),dI e]] o11'
def z26 (a : List Int) (b : Int) (e : List Int) (f : Int) : Option (Registry × List Int × Int) := callC tn 10 [.ptr 0 0,.d (.lf (.l (c := .u64) a)),dI b] [[.d (.lf (.l (c := .i64) e)),dI f]] o12'
def z0p (a b : Registry) : Option (Registry × Int) := callC tn 11 [dA .Registry a,dA .Registry b] [] o9'
def z12 (a b : Registry) : Option (Bool) := callC tn 12 [dA .Registry a,dA .Registry b] [] o1'
def z17 (a : Registry) : Option (Int) := callC tn 13 [dA .Registry a] [] o0'
def z3a (a : Registry) : Option (Int) := callC tn 14 [dA .Registry a] [] o0'
def law08_awake  : Option (Bool) := callC tn 15 [] [] o1'
def z2a (a : List Int) (b : Int) (e : List Int) (f : Int) : Option (List Declaration × List Int × Int) := callC tn 16 [.ptr 0 0,.d (.lf (.l (c := .u64) a)),dI b] [[.d (.lf (.l (c := .i64) e)),dI f]] o13'
def z0t (a : Int) : Option (Unit × Unit × List (List Declaration)) := callC tn 17 [dI a] [] o6'
def z1j (a b : Registry) : Option (List Declaration) := callC tn 20 [dA .Registry a,dA .Registry b] [] o2'
def z0z (a : Int) (b : List Int) (e : Int) : Option (Int × List Int × Int) := callC tn 24 [.ptr 0 0,dI a] [[.d (.lf (.l (c := .i64) b)),dI e]] o8'
def z3i (a : Int) : Option (Unit × Unit × List (List Declaration)) := callC tn 29 [dI a] [] o6'
def z1u (a b : Registry) : Option (Int) := callC tn 31 [dA .Registry a,dA .Registry b] [] o0'
def z0x (a b : Registry) : Option (Registry) := callC tn 32 [dA .Registry a,dA .Registry b] [] o14'
def z0i (a : List Int) (b c : List Declaration) (d e : Int) (f : List Int) (g : Int) (h i j k : List (List Declaration)) : Option (Bool) := gp 4 Tryz.f4 0 o1' [1,1,1,1,1,0,1,0] [5] ⟨[(3,fP 0),(4,fL .u64 a),(5,fL .Declaration b),(6,fP 1),(7,fP 2),(8,fP 3),(9,fP 4),(40,fL .Declaration c),(41,fI d),(42,fI e)],[[dL .i64 f,dI g],[dL .l_Declaration h],[dL .l_Declaration i],[dL .l_Declaration j],[dL .l_Declaration k]]⟩
def z1k (a : List Int) (b : Registry) (e : Declaration) : Option (Registry × Int) := callC tn 18 [.d (.lf (.l (c := .u64) a)),dA .Registry b,dA .Declaration e] [] o9'
def z2h (a : List Int) (b : Declaration) : Option (Int) := callC tn 41 [.d (.lf (.l (c := .u64) a)),dA .Declaration b] [] o0'
def z1c (a : Declaration) : Option (Int) := callC tn 59 [dA .Declaration a] [] o0'
def z1d (a : Declaration) : Option (List UInt8) := callC tn 68 [dA .Declaration a] [] o3'
def z3y (a : Int) (b : List UInt8) : Option (Int) := callC tn 67 [.d (.lf (.i .u64 a)),.d (.lf (.s b))] [] ⟨[.lf (.i .u64)],[]⟩
def z2b (a : Trust) : Option (Int) := callC tn 78 [dA .Trust a] [] o0'
def z1r (a : Trust) : Option (Int) := callC tn 79 [dA .Trust a] [] o0'
def z22 (a : Trust) : Option (Int) := callC tn 80 [dA .Trust a] [] o0'
def z0v (a : Int) : Option (List UInt8) := callC tn 85 [dI a] [] o3'
def z35 (a : Trust) : Option (List UInt8) := callC tn 89 [dA .Trust a] [] o3'
def z2c (a : Trust) : Option (Int) := callC tn 98 [dA .Trust a] [] o0'
def z3b (a : Int) : Option (List UInt8) := callC tn 102 [dI a] [] o3'
def z2p (a : Trust) : Option (List UInt8) := callC tn 104 [dA .Trust a] [] o3'
def z0a (a : List Int) : Option (Bool) := callC tn 112 [.d (.lf (.l (c := .i64) a)),.fn 113 []] [] o1'
def z3o (a : List Int) : Option (Int × Int) := callC tn 114 [.d (.lf (.l (c := .i64) a))] [] o7'
def z3v (a b : Int) : Option (List UInt8) := callC tn 115 [dI a,dI b] [] o3'
def z0g (a : List Int) : Option (Int) := callC tn 119 [.d (.lf (.l (c := .i64) a)),.fn 113 []] [] o0'
def z0e (a : List Int) (b : Int) (c : List Declaration) (d e : Int) (f : List Int) (g : Int) (h i j k : List (List Declaration)) : Option (Bool) := gp 5 Tryz.f5 0 o1' [1,1,1,1,1,1,0,1,0] [5] ⟨[(4,fL .u64 a),(5,fP 1),(6,fP 2),(7,fP 3),(8,fI b),(9,fP 4),(35,fL .Declaration c),(36,fI d),(37,fI e)],[[dL .i64 f,dI g],[dL .l_Declaration h],[dL .l_Declaration i],[dL .l_Declaration j],[dL .l_Declaration k]]⟩
def z34 (a : Int) (b : List Int) (c : Int) (d : List Int) (e : Int) : Option (List Int × List Int × Int) := gp 8 Tryz.f8 1 o11' [1,1,0,1,0] [1] ⟨[(0,fP 0),(1,fI a),(5,.fl (.own .u64 b false)),(6,fI c)],[[dL .i64 d,dI e]]⟩
def z23 (a : List Int) (b : List Declaration) (c d : Int) (e : List Int) (f : Int) (g h : List (List Declaration)) : Option (Registry × List Int × Int) := gp 10 Tryz.f10 1 o12' [1,1,0,1,0] [3] ⟨[(1,fL .u64 a),(6,fP 1),(7,fP 2),(16,fL .Declaration b),(17,fI c),(18,fI d)],[[dL .i64 e,dI f],[.own .l_Declaration g false],[dL .l_Declaration h]]⟩
def z3t (a : List Int) (b : Registry) (e : Declaration) : Option (Registry × Int) := callC tn 30 [.d (.lf (.l (c := .u64) a)),dA .Registry b,dA .Declaration e] [] o9'
def z3j (a : List Int) (b : Declaration) : Option (Int) := callC tn 55 [.d (.lf (.l (c := .u64) a)),dA .Declaration b] [] o0'
def z3c (a : Registry) : Option (Unit × Unit × List (List Declaration)) := callC tn 56 [dA .Registry a] [] o6'
def z3n (a : List Declaration) (b : Declaration) : Option (List Declaration) := callC tn 57 [.d (.lf (.l (c := .Declaration) a)),dA .Declaration b] [] o2'
def z2l (a : Declaration) : Option (Int) := callC tn 35 [dA .Declaration a] [] o0'
def z2m (a : Declaration) : Option (List UInt8) := callC tn 62 [dA .Declaration a] [] o3'
def z3z (a : Int) (b : List UInt8) : Option (Int) := callC tn 64 [.d (.lf (.i .u64 a)),.d (.lf (.s b))] [] ⟨[.lf (.i .u64)],[]⟩
def z1q (a : Trust) : Option (Int) := callC tn 61 [dA .Trust a] [] o0'
def z2n (a : Trust) : Option (Int) := callC tn 46 [dA .Trust a] [] o0'
def z2u (a : Trust) : Option (Int) := callC tn 45 [dA .Trust a] [] o0'
def z3p (a : Trust) : Option (List UInt8) := callC tn 86 [dA .Trust a] [] o3'
def z2o (a : Trust) : Option (Int) := callC tn 84 [dA .Trust a] [] o0'
def z3f (a : Trust) : Option (List UInt8) := callC tn 103 [dA .Trust a] [] o3'
def z1l (a b : Int) (c d : List (List Declaration)) : Option (Bool) := gp 12 Tryz.f12 0 o1' [1,1,0,1,0] [2] ⟨[(2,fP 0),(3,fP 1),(16,fI a),(17,fI b)],[[dL .l_Declaration c],[dL .l_Declaration d]]⟩
def z1e (a : List (List Declaration)) (b c : Int) (d : List (List Declaration)) : Option (Int) := gp 13 Tryz.f13 0 o0' [1,1,0,1,0] [1] ⟨[(11,fL .l_Declaration a),(12,fI b),(13,fI c)],[[dL .l_Declaration d]]⟩
def z36 (a : Int) (b : List Declaration) : Option (Int) := callC tn 34 [dI a,.d (.lf (.l (c := .Declaration) b))] [] o0'
def z1o (a : List (List Declaration)) (b c : Int) (d : List (List Declaration)) : Option (Int) := gp 14 Tryz.f14 0 o0' [1,1,0,1,0] [1] ⟨[(13,fL .l_Declaration a),(14,fI b),(15,fI c)],[[dL .l_Declaration d]]⟩
def z18 (a b : List Int) (c d : Int) (e : List (List Declaration)) : Option (Bool) := gp 15 Tryz.f15 0 o1' [1,1,1,0,1,0] [1] ⟨[(1,fL .u64 a),(2,fP 0),(11,fL .i64 b),(12,fI c),(13,fI d)],[[dL .l_Declaration e]]⟩
def law08_declared (a : Registry) (b : Int) : Option (List Declaration) := callC tn 38 [dA .Registry a,dI b] [] o2'
def z3g (a b c : Int) (e : Trust) : Option (Declaration × Int) := callC tn 37 [.d (.lf (.i .u64 a)),dI b,dI c,dA .Trust e] [] o20'
def z2s (a : Registry) : Option (Int) := callC tn 39 [dA .Registry a] [] o0'
def z0f (a : List Int) (b : List Declaration) (c : Int) (d : List Int) (e : Int) : Option (List Declaration × List Int × Int) := gp 16 Tryz.f16 1 o13' [1,1,0,1,0] [1] ⟨[(0,fP 0),(1,fL .u64 a),(7,.fl (.own .Declaration b false)),(8,fI c)],[[dL .i64 d,dI e]]⟩
def z2y (a b : List Int) (e : Int) : Option (Declaration × List Int × Int) := callC tn 40 [.ptr 0 0,.d (.lf (.l (c := .u64) a))] [[.d (.lf (.l (c := .i64) b)),dI e]] o21'
def z2x (a : Int) (b : List Int) (e : Int) : Option (Trust × List Int × Int) := callC tn 66 [.ptr 0 0,dI a] [[.d (.lf (.l (c := .i64) b)),dI e]] o5'
def z3r (a b : Int) (e : List Int) (f : Int) : Option (Trust × List Int × Int) := callC tn 44 [.ptr 0 0,dI a,dI b] [[.d (.lf (.l (c := .i64) e)),dI f]] o5'
def z3d (a b : Int) (e : List Int) (f : Int) : Option (Trust × List Int × Int) := callC tn 71 [.ptr 0 0,dI a,dI b] [[.d (.lf (.l (c := .i64) e)),dI f]] o5'
def z1v (a : Int) (b : List Int) (e : Int) : Option (List Int × List Int × Int) := callC tn 19 [.ptr 0 0,dI a] [[.d (.lf (.l (c := .i64) b)),dI e]] o10'
def z0k (a : List Declaration) (b : List (List Declaration)) (c d : Int) (e f g : List (List Declaration)) : Option (List Declaration) := gp 20 Tryz.f20 0 o2' [1,1,1,1,0,1,0] [3] ⟨[(3,fP 1),(5,fP 2),(6,.fl (.own .Declaration a false)),(19,fL .l_Declaration b),(20,fI c),(21,fI d)],[[dL .l_Declaration e],[dL .l_Declaration f],[dL .l_Declaration g]]⟩
def z2q (a : List Declaration) : Option (List Declaration) := callC tn 43 [.d (.lf (.l (c := .Declaration) a))] [] o2'
def z10 (a b : Int) (c d e f : List (List Declaration)) : Option (Registry) := gp 32 Tryz.f32 0 o14' [1,1,0,1,0] [4] ⟨[(2,fP 0),(3,fP 1),(4,fP 2),(5,fP 3),(14,fI a),(15,fI b)],[[dL .l_Declaration c],[dL .l_Declaration d],[.own .l_Declaration e false],[.own .l_Declaration f false]]⟩
def z2v (a b : List Declaration) : Option (List Declaration) := callC tn 58 [.d (.lf (.l (c := .Declaration) a)),.d (.lf (.l (c := .Declaration) b))] [] o2'
def z2t (a : List (List Declaration)) : Option (Unit × List Declaration) := callC tn 76 [.d (.lf (.l (c := .l_Declaration) a))] [] ⟨[.ref 0],[[.own .Declaration false]]⟩
def z07 (a : List Declaration) : Option (List Declaration) := callC tn 77 [.ref 0,.fn 60 []] [[.own .Declaration a false]] o4'
def z08 (a : Int) (b : List Declaration) : Option (List Declaration) := callC tn 97 [.ref 0,dI a,.fn 60 []] [[.own .Declaration b false]] o4'
def z0j (a : List Int) (b : List Declaration) (c : Int) (d : List Int) (e : Int) (f g h i : List (List Declaration)) : Option (Bool) := gp 4 Tryz.f4 0 o1' [1,1,1,1,1,1,0,1,0] [5] ⟨[(3,fP 0),(4,fL .u64 a),(5,fL .Declaration b),(6,fP 1),(7,fP 2),(8,fP 3),(9,fP 4),(14,fI c)],[[dL .i64 d,dI e],[dL .l_Declaration f],[dL .l_Declaration g],[dL .l_Declaration h],[dL .l_Declaration i]]⟩
def z13 (a : Int) (b : List Trust) (c d e : Int) (f : List Int) (g : List Trust) : Option (Int) := gp 79 Tryz.f79 0 o0' [1,1,0,1,0] [1] ⟨[(3,fI a),(7,fL .Trust b),(8,fI c),(9,fI d)],[[dI e,dL .i64 f,dL .Trust g]]⟩
def z1f (a : Int) (b : List Trust) (c d e : Int) (f : List Int) (g : List Trust) : Option (Int) := gp 80 Tryz.f80 0 o0' [1,1,0,1,0] [1] ⟨[(3,fI a),(14,fL .Trust b),(15,fI c),(16,fI d)],[[dI e,dL .i64 f,dL .Trust g]]⟩
def z14 (a : List Trust) (b c d : Int) (e : List Int) (f : List Trust) : Option (Int) := gp 98 Tryz.f98 0 o0' [1,1,1,1,0,1,0] [1] ⟨[(36,fL .Trust a),(37,fI b),(38,fI c)],[[dI d,dL .i64 e,dL .Trust f]]⟩
def z1g (a : List (List UInt8)) (b : List Int) (c d e : Int) (f : List Int) (g : List Trust) : Option (List UInt8) := gp 104 Tryz.f104 0 o3' [1,1,0,1,0] [1] ⟨[(1,fP 0),(3,.fl (.own .s a false)),(9,fL .i64 b),(10,fI c),(11,fI d)],[[dI e,dL .i64 f,dL .Trust g]]⟩
def z1m (a : Int) (b : List Int) (c d : Int) : Option (Int × Int) := gp 114 Tryz.f114 0 o7' [1,1,0,1,0] [0] ⟨[(4,fI a),(7,fL .i64 b),(8,fI c),(9,fI d)],[]⟩
def z3k (a b : Int) : Option (Bool) := callC tn 120 [dI a,dI b] [] o1'
def z38 (a : Int) : Option (Bool) := callC tn 130 [dI a] [] o1'
def z39 (a b : Int) : Option (Bool) := callC tn 138 [dI a,dI b] [] o1'
def z04 (a : List Int) (b c : Int) : Option (Int) := gp 119 Tryz.f119 0 o0' [1,0,1,0] [0] ⟨[(0,fL .i64 a),(1,.fl (.fn 113 [])),(7,fI b),(8,fI c)],[]⟩
def z2i (a : Int) : Option (Bool) := callC tn 113 [dI a] [] o1'
def z2z (a : Int) : Option (Bool) := callC tn 74 [dI a] [] o1'
def z1s (a : List (List Declaration)) (b c : Int) (d e f : List (List Declaration)) : Option (Unit × Unit × List (List Declaration)) := gp 56 Tryz.f56 0 o6' [1,1,0,1,0] [3] ⟨[(2,fP 1),(3,fP 2),(12,fL .l_Declaration a),(13,fI b),(14,fI c)],[[dL .l_Declaration d],[.own .l_Declaration e false],[.own .l_Declaration f false]]⟩
def z0w (a b : List Declaration) (c : Bool) (e : List Declaration) (f g h j k : Int) (l : List Int) (m : List Trust) (n : Int) : Option (List Declaration) := gp 57 Tryz.f57 0 o2' [1,1,1,0,1,0] [1] ⟨[(0,fL .Declaration a),(3,fP 0),(5,.fl (.own .Declaration b false)),(6,fB c),(14,fL .Declaration e),(15,fI f),(16,fI g)],[[dI h,dI j,dI k,dL .i64 l,dL .Trust m,.d (.lf (.i .u64 n))]]⟩
def z1w (a b : Declaration) : Option (Int) := callC tn 36 [dA .Declaration a,dA .Declaration b] [] o0'
def z2j (a : Bool) : Option (Int) := callC tn 63 [.d (.lf (.b a))] [] o0'
def z24 (a : Int) (b : List Trust) (c d e : Int) (f : List Int) (g : List Trust) : Option (Int) := gp 46 Tryz.f46 0 o0' [1,1,0,1,0] [1] ⟨[(3,fI a),(7,fL .Trust b),(8,fI c),(9,fI d)],[[dI e,dL .i64 f,dL .Trust g]]⟩
def z2e (a : Int) (b : List Trust) (c d e : Int) (f : List Int) (g : List Trust) : Option (Int) := gp 45 Tryz.f45 0 o0' [1,1,0,1,0] [1] ⟨[(3,fI a),(14,fL .Trust b),(15,fI c),(16,fI d)],[[dI e,dL .i64 f,dL .Trust g]]⟩
def z19 (a : List Int) (b c d : Int) (e : List Int) (f : List Trust) : Option (Int) := gp 84 Tryz.f84 0 o0' [1,1,0,1,0] [1] ⟨[(1,fP 0),(26,fL .i64 a),(27,fI b),(28,fI c)],[[dI d,dL .i64 e,dL .Trust f]]⟩
def z3w (a : List Int) : Option (Int × Int) := callC tn 101 [.d (.lf (.l (c := .i64) a))] [] o7'
def z2f (a b : List UInt8) (c : List Int) (e f g : Int) (h : List Int) (i : List Trust) : Option (List UInt8) := gp 103 Tryz.f103 0 o3' [1,1,1,0,1,0] [1] ⟨[(1,fP 0),(3,.fl (.d (.lf (.s a)))),(4,.fl (.d (.lf (.s b)))),(14,fL .i64 c),(15,fI e),(16,fI f)],[[dI g,dL .i64 h,dL .Trust i]]⟩
def z1x (a b c d e : Int) (f g : List (List Declaration)) : Option (Bool) := gp 12 Tryz.f12 0 o1' [1,1,0,1,0,0,1,1,0,0,1,1,1,0] [2,2,2,2] ⟨[(2,fP 0),(3,fP 1),(5,fI a),(16,fI b),(17,fI c),(38,fI d),(39,fI e)],[[dL .l_Declaration f],[dL .l_Declaration g]]⟩
def z2w (a b : Declaration) : Option (Bool) := callC tn 33 [dA .Declaration a,dA .Declaration b] [] o1'
def z2k (a b : Trust) : Option (Bool) := callC tn 28 [dA .Trust a,dA .Trust b] [] o1'
def z3h (a b : List Int) : Option (Bool) := callC tn 54 [.d (.lf (.l (c := .i64) a)),.d (.lf (.l (c := .i64) b))] [] o1'
def z0q (a : Int) (b c : List Declaration) (d e : Int) : Option (Int) := gp 34 Tryz.f34 0 o0' [1,0,1,0] [0] ⟨[(0,fI a),(1,fL .Declaration b),(8,fL .Declaration c),(9,fI d),(10,fI e)],[]⟩
def z0h (a b : Declaration) : Option (Int) := callC tn 60 [dA .Declaration a,dA .Declaration b] [] o0'
def z25 (a b : Int) : Option (Int) := callC tn 82 [dI a,dI b] [] o0'
def z21 (a b : List UInt8) : Option (Int) := callC tn 83 [.d (.lf (.s a)),.d (.lf (.s b))] [] o0'
def z3l (a : List Int) : Option (Int) := callC tn 81 [.d (.lf (.l (c := .i64) a))] [] o0'
def z2r (a : Int) : Option (Bool) := callC tn 99 [dI a] [] o1'
def z1t (a : List UInt8) : Option (Bool) := callC tn 100 [.d (.lf (.s a))] [] o1'
def z0y (a : Int) (b : List Declaration) (c : List (List Declaration)) (d e : Int) (f : List Declaration) (g h : Int) (i : List (List Declaration)) : Option (Int) := gp 14 Tryz.f14 0 o0' [1,1,0,1,0,0,1,1,0,0,1,1,0] [1,1,1,1] ⟨[(3,fI a),(4,fL .Declaration b),(13,fL .l_Declaration c),(14,fI d),(15,fI e),(20,fL .Declaration f),(21,fI g),(22,fI h)],[[dL .l_Declaration i]]⟩
def z0o (a : Int) (b : List (List Declaration)) (c d : Int) (e : List (List Declaration)) : Option (Int) := gp 39 Tryz.f39 0 o0' [1,1,1,0,1,0] [1] ⟨[(3,fI a),(13,fL .l_Declaration b),(14,fI c),(15,fI d)],[[dL .l_Declaration e]]⟩
def z30 (a : List Declaration) : Option (Int × Bool) := callC tn 65 [.d (.lf (.l (c := .Declaration) a))] [] o15'
def z27 (a b : Int) (c : List Int) (d e : Int) (f : List Int) (g h : Int) (i : List Int) (j : List Trust) (k : Int) (l : List Int) (m : List Trust) : Option (Trust × List Int × Int) := gp 71 Tryz.f71 1 o5' [1,1,1,0,1,0] [3] ⟨[(0,fP 0),(1,fI a),(2,fI b),(6,fP 1),(7,fP 2),(20,fL .i64 c),(21,fI d),(22,fI e)],[[dL .i64 f,dI g],[dI h,.own .i64 i false,.own .Trust j false],[dI k,.own .i64 l false,.own .Trust m false]]⟩
def z3e (a b : List Int) (e : Int) : Option (Int × List Int × Int) := callC tn 91 [.ptr 0 0,.d (.lf (.l (c := .i64) a))] [[.d (.lf (.l (c := .i64) b)),dI e]] o8'
def z0r (a : Int) (b : List Int) (c : Int) (d : List Int) (e : Int) : Option (List Int × List Int × Int) := gp 19 Tryz.f19 1 o10' [1,1,0,1,0] [1] ⟨[(0,fP 0),(1,fI a),(5,.fl (.own .i64 b false)),(6,fI c)],[[dL .i64 d,dI e]]⟩
def z0c (a : List Declaration) (b : Int) (c : List (List Declaration)) (d e : Int) (f : List Declaration) (g h : Int) (i j k : List (List Declaration)) : Option (List Declaration) := gp 20 Tryz.f20 0 o2' [1,1,1,1,0,1,0,0,1,1,0,0,1,1,0] [3,3,3,3] ⟨[(3,fP 1),(5,fP 2),(6,.fl (.own .Declaration a false)),(7,fI b),(19,fL .l_Declaration c),(20,fI d),(21,fI e),(26,fL .Declaration f),(27,fI g),(28,fI h)],[[dL .l_Declaration i],[dL .l_Declaration j],[dL .l_Declaration k]]⟩
def z32 (a : List Declaration) (b : Declaration) : Option (Bool) := callC tn 42 [.d (.lf (.l (c := .Declaration) a)),dA .Declaration b] [] o1'
def z0b (a : List Declaration) (b e f : Int) (g : List Int) (h : List Trust) (j : Int) : Option (Bool × Int × Int × Int × List Int × List Trust × Int) := callC tn 69 [.d (.lf (.l (c := .Declaration) a)),.fn 70 [(0,0)]] [[dI b,dI e,dI f,.d (.lf (.l (c := .i64) g)),.d (.lf (.l (c := .Trust) h)),.d (.lf (.i .u64 j))]] o16'
def z0d (a : List Declaration) (b e f : Int) (g : List Int) (h : List Trust) (j : Int) : Option (Int × Int × Int × Int × List Int × List Trust × Int) := callC tn 90 [.d (.lf (.l (c := .Declaration) a)),.fn 70 [(0,0)]] [[dI b,dI e,dI f,.d (.lf (.l (c := .i64) g)),.d (.lf (.l (c := .Trust) h)),.d (.lf (.i .u64 j))]] o17'
def z1h (a b : List Declaration) (c d : Int) : Option (List Declaration) := gp 43 Tryz.f43 0 o2' [1,1,0,1,0] [0] ⟨[(3,.fl (.own .Declaration a false)),(6,fL .Declaration b),(7,fI c),(8,fI d)],[]⟩
def z2d (a : Trust) : Option (Trust) := callC tn 53 [dA .Trust a] [] o18'
def z1z (a : List Int) : Option (Unit × List Int) := callC tn 75 [.d (.lf (.l (c := .i64) a))] [] ⟨[.ref 0],[[.own .i64 false]]⟩
def z0u (a b : List Declaration) (c d : Int) : Option (List Declaration) := gp 58 Tryz.f58 0 o2' [1,1,1,1,0,1,0] [0] ⟨[(6,.fl (.own .Declaration a false)),(16,fL .Declaration b),(17,fI c),(18,fI d)],[]⟩
def z06 (a b c d : Int) (e : List Declaration) : Option (List Declaration) := gp 97 Tryz.f97 1 o4' [1,1,0,0] [1] ⟨[(0,.fl (.ref 0)),(1,fI a),(2,.fl (.fn 60 [])),(6,fI b),(7,fI c),(8,fI d)],[[.own .Declaration e false]]⟩
def z02 (a b : Int) (c : List Declaration) : Option (List Declaration) := callC tn 110 [.ref 0,dI a,dI b,.fn 60 []] [[.own .Declaration c false]] o4'
def z0m (a : List Int) (b : List Declaration) (c : Int) (d : List Int) (e f : Int) (g : List Int) (h : Int) (i j k l : List (List Declaration)) : Option (Bool) := gp 4 Tryz.f4 0 o1' [1,1,1,1,1,1,0,1,0,0,1,0,0,1,0] [5,5,5,5] ⟨[(3,fP 0),(4,fL .u64 a),(5,fL .Declaration b),(6,fP 1),(7,fP 2),(8,fP 3),(9,fP 4),(14,fI c),(82,fL .i64 d),(83,fI e),(84,fI f)],[[dL .i64 g,dI h],[dL .l_Declaration i],[dL .l_Declaration j],[dL .l_Declaration k],[dL .l_Declaration l]]⟩
def z1i (a : List (List UInt8)) (b : List Trust) (c d e : Int) (f : List Int) (g : List Trust) : Option (List UInt8) := gp 104 Tryz.f104 0 o3' [1,1,1,0,1,0] [1] ⟨[(1,fP 0),(3,.fl (.own .s a false)),(22,fL .Trust b),(23,fI c),(24,fI d)],[[dI e,dL .i64 f,dL .Trust g]]⟩
def z3x (a : List (List UInt8)) (b : List UInt8) : Option (List UInt8) := callC tn 116 [.d (.lf (.l (c := .s) a)),.d (.lf (.s b))] [] o3'
def z15 (a b : List Declaration) (c e f g h : Int) (j : List Int) (k : List Trust) (l : Int) : Option (List Declaration) := gp 57 Tryz.f57 0 o2' [1,1,1,1,1,1,0,1,0] [1] ⟨[(10,.fl (.own .Declaration a false)),(47,fL .Declaration b),(48,fI c),(49,fI e)],[[dI f,dI g,dI h,dL .i64 j,dL .Trust k,.d (.lf (.i .u64 l))]]⟩
def z1a (a : List Trust) (b c d : Int) (e : List Int) (f : List Trust) : Option (Int) := gp 84 Tryz.f84 0 o0' [1,1,1,1,0,1,0] [1] ⟨[(49,fL .Trust a),(50,fI b),(51,fI c)],[[dI d,dL .i64 e,dL .Trust f]]⟩
def z28 (a : Int) (b : List Int) (c d : Int) : Option (Int × Int) := gp 101 Tryz.f101 0 o7' [1,1,0,1,0] [0] ⟨[(4,fI a),(7,fL .i64 b),(8,fI c),(9,fI d)],[]⟩
def z3u (a b : Int) : Option (Bool) := callC tn 51 [dI a,dI b] [] o1'
def z3m (a : Int) : Option (Bool) := callC tn 50 [dI a] [] o1'
def z2g (a b : List UInt8) (c : List Trust) (e f g : Int) (h : List Int) (i : List Trust) : Option (List UInt8) := gp 103 Tryz.f103 0 o3' [1,1,1,1,0,1,0] [1] ⟨[(3,.fl (.d (.lf (.s a)))),(4,.fl (.d (.lf (.s b)))),(28,fL .Trust c),(29,fI e),(30,fI f)],[[dI g,dL .i64 h,dL .Trust i]]⟩
def z1n (a b c : Int) (d : List Int) (e : List Trust) (f : Int) (g : List Int) (h : List Trust) : Option (Bool) := gp 28 Tryz.f28 0 o1' [1,1,0,1,0] [2] ⟨[(2,fP 0),(3,fP 1),(30,fI a),(31,fI b)],[[dI c,dL .i64 d,dL .Trust e],[dI f,dL .i64 g,dL .Trust h]]⟩
def z1y (a b : List Int) (c d : Int) : Option (Bool) := gp 54 Tryz.f54 0 o1' [1,1,0,1,0] [0] ⟨[(0,fL .i64 a),(1,fL .i64 b),(12,fI c),(13,fI d)],[]⟩
def z1b (a : Int) (b : List Int) (c d : Int) : Option (Int) := gp 81 Tryz.f81 0 o0' [1,1,0,1,0] [0] ⟨[(3,fI a),(6,fL .i64 b),(7,fI c),(8,fI d)],[]⟩
def z11 (a : List Declaration) (b : Int) : Option (Int × Bool) := gp 65 Tryz.f65 0 o15' [1,0,1,0] [0] ⟨[(0,fL .Declaration a),(4,fI b)],[]⟩
def z29 (a b c : Int) (d : List Int) (e f : Int) (g : List Int) (h : List Trust) (i : Int) (j : List Int) (k : List Trust) : Option (Trust × List Int × Int) := gp 71 Tryz.f71 1 o5' [1,1,1,1,0,1,0,0,1,0] [3] ⟨[(0,fP 0),(1,fI a),(2,fI b),(6,fP 1),(7,fP 2),(11,fI c)],[[dL .i64 d,dI e],[dI f,.own .i64 g false,.own .Trust h false],[dI i,.own .i64 j false,.own .Trust k false]]⟩
def z0s (a : List Int) (b : Int) (c : List Int) (d : Int) : Option (List Int × List Int × Int) := gp 19 Tryz.f19 1 o10' [1,1,1,0,1,0] [1] ⟨[(0,fP 0),(5,.fl (.own .i64 a false)),(7,fI b)],[[dL .i64 c,dI d]]⟩
def z03 (a : List Declaration) (b c e f g : Int) (h : List Int) (j : List Trust) (k : Int) : Option (Int × Int × Int × Int × List Int × List Trust × Int) := gp 90 Tryz.f90 1 o17' [1,0,1,0] [1] ⟨[(0,fL .Declaration a),(1,.fl (.fn 70 [(0,0)])),(7,fI b),(8,fI c)],[[dI e,dI f,dI g,dL .i64 h,dL .Trust j,.d (.lf (.i .u64 k))]]⟩
def z33 (a : Declaration) (b e f : Int) (g : List Int) (h : List Trust) (j : Int) : Option (Bool × Int × Int × Int × List Int × List Trust × Int) := callC tn 70 [dA .Declaration a,.ptr 0 0] [[dI b,dI e,dI f,.d (.lf (.l (c := .i64) g)),.d (.lf (.l (c := .Trust) h)),.d (.lf (.i .u64 j))]] o16'
def z16 (a : List Trust) (b c d : Int) (e : List Int) (f : List Trust) (g : Int) (h : List Int) (i : List Trust) (j : Int) (k : List Int) (l : List Trust) : Option (Trust) := gp 53 Tryz.f53 0 o18' [1,1,0,1,0] [3] ⟨[(2,fP 1),(3,fP 2),(13,fL .Trust a),(14,fI b),(15,fI c)],[[dI d,dL .i64 e,dL .Trust f],[dI g,.own .i64 h false,.own .Trust i false],[dI j,.own .i64 k false,.own .Trust l false]]⟩
def z05 (a b : List Declaration) (c d : Int) : Option (List Declaration) := gp 58 Tryz.f58 0 o2' [1,1,1,1,0,1,0] [0] ⟨[(6,.fl (.own .Declaration a true)),(16,fL .Declaration b),(17,fI c),(18,fI d)],[]⟩
def z09 (a b : Int) (c : List Declaration) : Option (List Declaration) := gp 97 Tryz.f97 1 o4' [1,1,1,1,0] [1] ⟨[(0,.fl (.ref 0)),(1,fI a),(2,.fl (.fn 60 [])),(6,fI b)],[[.own .Declaration c false]]⟩
def z00 (a b c : Int) (d : List Declaration) : Option (List Declaration) := gp 110 Tryz.f110 1 o4' [1,0] [1] ⟨[(0,.fl (.ref 0)),(1,fI a),(2,fI b),(3,.fl (.fn 60 [])),(8,fI c)],[[.own .Declaration d false]]⟩
def z0n (a b : List Declaration) (c e f g h : Int) (j : List Int) (k : List Trust) (l : Int) : Option (List Declaration) := gp 57 Tryz.f57 0 o2' [1,1,1,1,1,1,0,1,0] [1] ⟨[(10,.fl (.own .Declaration a true)),(47,fL .Declaration b),(48,fI c),(49,fI e)],[[dI f,dI g,dI h,dL .i64 j,dL .Trust k,.d (.lf (.i .u64 l))]]⟩
def z1p (a b c d : Int) (e : List Declaration) : Option (List Declaration) := gp 97 Tryz.f97 1 o4' [1,1,1,1,0,0,1,0,1,0,0] [1,1,1,1] ⟨[(0,.fl (.ref 0)),(1,fI a),(2,.fl (.fn 60 [])),(6,fI b),(7,fI c),(8,fI d)],[[.own .Declaration e false]]⟩
def z01 (a b c d : Int) (e : List Declaration) : Option (List Declaration) := gp 110 Tryz.f110 1 o4' [1,0,0,1,0,0,1,0] [1,1,1,1] ⟨[(0,.fl (.ref 0)),(1,fI a),(2,fI b),(3,.fl (.fn 60 [])),(8,fI c),(9,fI d)],[[.own .Declaration e false]]⟩
end
end Go.Proofs.YtkeiaodiibageaaGreatDoor
