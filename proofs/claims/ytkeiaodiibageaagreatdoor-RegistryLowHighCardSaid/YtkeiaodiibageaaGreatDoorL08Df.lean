/- What the functions come to: names. -/
import Derived.Test.YtkeiaodiibageaaGreatDoorL08Env
namespace Go.Proofs.YtkeiaodiibageaaGreatDoor
open Go Go.Ab
abbrev dA (c : sig.TC) (x : sig.Ty c) : TL sig := .d (.ag (sig.cells c x))
noncomputable abbrev gp (f : Nat) (fn : Func) (k : Nat) (o : OSpec sig) (p ms : List Nat) (st : TSt sig) : Option o.Out := goC tn ⟨f, fn, k⟩ o (q0h fn p) (y1t fn p ms) st
abbrev fI (n : Int) : TV sig := .fl (.d (.lf (.i .i64 n)))
abbrev fB (n : Bool) : TV sig := .fl (.d (.lf (.b n)))
abbrev fL (c : sig.TC) (l : List (sig.Ty c)) : TV sig := .fl (.d (.lf (.l c l)))
abbrev fP (n : Nat) : TV sig := .fl (.ptr n 0)
abbrev dI (n : Int) : TL sig := .d (.lf (.i .i64 n))
abbrev dL (c : sig.TC) (l : List (sig.Ty c)) : TL sig := .d (.lf (.l c l))
noncomputable section
def law08_RegistryLowHigh (a : List Int) : Option (Bool) := callC tn 6 [.d (.lf (.l (c := .i64) a))] [] o1'
def z4j (a : List Int) : Option (Unit × List Int × Int) := callC tn 7 [.d (.lf (.l (c := .i64) a))] [] o23'
def z0u (a b : Int) (e : List Int) (f : Int) : Option (Int × List Int × Int) := callC tn 9 [.ptr 0 0,dI a,dI b] [[.d (.lf (.l (c := .i64) e)),dI f]] o9'
def z4d (a b : Int) (e : List Int) (f : Int) : Option (List (List Trust) × List Int × Int) := callC tn 21 [.ptr 0 0,dI a,dI b] [[.d (.lf (.l (c := .i64) e)),dI f]] o10'
def z3u (a : List (List Trust)) : Option (Config × Int) := callC tn 22 [.d (.lf (.l (c := .l_Trust) a))] [] o5'
def z3h (a : List (List Trust)) : Option (Config × Int) := callC tn 23 [.d (.lf (.l (c := .l_Trust) a))] [] o5'
def z0r (a : Int) (b : List Int) (e : Int) : Option (Int × List Int × Int) := callC tn 24 [.ptr 0 0,dI a] [[.d (.lf (.l (c := .i64) b)),dI e]] o9'
def z15 (a : List (List Trust)) : Option (Config × Int) := callC tn 47 [.d (.lf (.l (c := .l_Trust) a)),.fn 48 []] [] o5'
def z11 (a : List (List Trust)) : Option (Config × Int) := callC tn 47 [.d (.lf (.l (c := .l_Trust) a)),.fn 49 []] [] o5'
def z0n (a : Int) (b : List (List Trust)) (c d : Int) (e : List Int) (f : Int) (g h : List Member) : Option (Bool) := gp 6 Tryz.f6 0 o1' [1,1,1,1,1,1,1,0,1,0] [3] ⟨[(3,fP 0),(4,fI a),(6,fP 1),(8,fP 2),(62,fL .l_Trust b),(63,fI c),(64,fI d)],[[dL .i64 e,dI f],[dL .Member g],[dL .Member h]]⟩
def z4k (a : Int) (b : List Int) (e : Int) : Option (List Int × List Int × Int) := callC tn 8 [.ptr 0 0,dI a] [[.d (.lf (.l (c := .i64) b)),dI e]] o12'
def z43 (a : List Int) (b : Int) (e : List Int) (f : Int) : Option (Registry × List Int × Int) := callC tn 10 [.ptr 0 0,.d (.lf (.l (c := .u64) a)),dI b] [[.d (.lf (.l (c := .i64) e)),dI f]] o13'
def z3i (a : Registry) : Option (Config) := callC tn 26 [dA .Registry a] [] o14'
def z44 (a : Int) : Option (Unit × Unit × List (List Declaration)) := callC tn 29 [dI a] [] o7'
def z39 (a : List Int) (b : Int) (e : List Int) (f : Int) : Option (List Declaration × List Int × Int) := callC tn 16 [.ptr 0 0,.d (.lf (.l (c := .u64) a)),dI b] [[.d (.lf (.l (c := .i64) e)),dI f]] o15'
def z2d (a : Registry) : Option (Int) := callC tn 13 [dA .Registry a] [] o0'
def z2e (a : Registry) : Option (Int) := callC tn 39 [dA .Registry a] [] o0'
def z2q (a b : Int) (c : List (List Trust)) (d : Int) (e : List Int) (f : Int) : Option (List (List Trust) × List Int × Int) := gp 21 Tryz.f21 1 o10' [1,1,0,1,0] [1] ⟨[(0,fP 0),(1,fI a),(2,fI b),(7,.fl (.own .l_Trust c false)),(8,fI d)],[[dL .i64 e,dI f]]⟩
def z09 (a : List (List Trust)) (b c : Int) (d e : List Member) : Option (Config × Int) := gp 47 Tryz.f47 0 o5' [1,1,1,0,1,0] [2] ⟨[(1,.fl (.fn 48 [])),(4,fP 0),(6,fP 1),(18,fL .l_Trust a),(19,fI b),(20,fI c)],[[.own .Member d false],[.own .Member e false]]⟩
def z1z (a : List Trust) : Option (List Trust × Int) := callC tn 72 [.d (.lf (.l (c := .Trust) a))] [] o16'
def z3z (a : Int) : Option (Int) := callC tn 48 [dI a] [] o0'
def z1c (a : Config) : Option (Int) := callC tn 73 [dA .Config a] [] o0'
def z07 (a : List (List Trust)) (b c : Int) (d e : List Member) : Option (Config × Int) := gp 47 Tryz.f47 0 o5' [1,1,1,0,1,0] [2] ⟨[(1,.fl (.fn 49 [])),(4,fP 0),(6,fP 1),(18,fL .l_Trust a),(19,fI b),(20,fI c)],[[.own .Member d false],[.own .Member e false]]⟩
def z3r (a : Int) : Option (Int) := callC tn 49 [dI a] [] o0'
def z0o (a b : Int) (c : List Trust) (d : Int) (e : List (List Trust)) (f g : Int) (h : List Int) (i : Int) (j k : List Member) : Option (Bool) := gp 6 Tryz.f6 0 o1' [1,1,1,1,1,1,1,0,1,0,0,1,1,0,0,1,1,0] [3,3,3,3] ⟨[(3,fP 0),(4,fI a),(6,fP 1),(8,fP 2),(10,fI b),(11,fL .Trust c),(12,fI d),(62,fL .l_Trust e),(63,fI f),(64,fI g)],[[dL .i64 h,dI i],[dL .Member j],[dL .Member k]]⟩
def z0h (a : List (List Declaration)) (b c : Int) (d : List Int) (e : Int) (f g : List Member) (h : List (List Declaration)) (i : List Member) : Option (Bool) := gp 6 Tryz.f6 0 o1' [1,1,1,1,1,1,1,1,1,1,1,1,0,1,0] [5] ⟨[(19,fP 3),(20,fP 4),(133,fL .l_Declaration a),(134,fI b),(135,fI c)],[[dL .i64 d,dI e],[dL .Member f],[dL .Member g],[dL .l_Declaration h],[dL .Member i]]⟩
def z3c (a : Registry) (b : Int) : Option (Evidence × Bool) := callC tn 27 [dA .Registry a,dI b] [] o17'
def z2l (a b : Trust) : Option (Bool) := callC tn 28 [dA .Trust a,dA .Trust b] [] o1'
def law08_awake  : Option (Bool) := callC tn 15 [] [] o1'
def z3o (a : Registry) : Option (Int) := callC tn 14 [dA .Registry a] [] o0'
def z40 (a b : List Int) : Option (Bool) := callC tn 54 [.d (.lf (.l (c := .i64) a)),.d (.lf (.l (c := .i64) b))] [] o1'
def z2f (a : Int) : Option (Unit × Unit × List (List Declaration)) := callC tn 17 [dI a] [] o7'
def z3g (a : Int) (b : List Int) (c : Int) (d : List Int) (e : Int) : Option (List Int × List Int × Int) := gp 8 Tryz.f8 1 o12' [1,1,0,1,0] [1] ⟨[(0,fP 0),(1,fI a),(5,.fl (.own .u64 b false)),(6,fI c)],[[dL .i64 d,dI e]]⟩
def z2g (a : List Int) (b : List Declaration) (c d : Int) (e : List Int) (f : Int) (g h : List (List Declaration)) : Option (Registry × List Int × Int) := gp 10 Tryz.f10 1 o13' [1,1,0,1,0] [3] ⟨[(1,fL .u64 a),(6,fP 1),(7,fP 2),(16,fL .Declaration b),(17,fI c),(18,fI d)],[[dL .i64 e,dI f],[.own .l_Declaration g false],[dL .l_Declaration h]]⟩
def z4e (a : List Int) (b : Registry) (e : Declaration) : Option (Registry × Int) := callC tn 30 [.d (.lf (.l (c := .u64) a)),dA .Registry b,dA .Declaration e] [] o18'
def z45 (a : List Int) (b : Declaration) : Option (Int) := callC tn 55 [.d (.lf (.l (c := .u64) a)),dA .Declaration b] [] o0'
def z3v (a : Registry) : Option (Unit × Unit × List (List Declaration)) := callC tn 56 [dA .Registry a] [] o7'
def z49 (a : List Declaration) (b : Declaration) : Option (List Declaration) := callC tn 57 [.d (.lf (.l (c := .Declaration) a)),dA .Declaration b] [] o3'
def z2z (a : Declaration) : Option (Int) := callC tn 35 [dA .Declaration a] [] o0'
def z30 (a : Declaration) : Option (List UInt8) := callC tn 62 [dA .Declaration a] [] o2'
def z4l (a : Int) (b : List UInt8) : Option (Int) := callC tn 64 [.d (.lf (.i .u64 a)),.d (.lf (.s b))] [] ⟨[.lf (.i .u64)],[]⟩
def z23 (a : Trust) : Option (Int) := callC tn 61 [dA .Trust a] [] o0'
def z2m (a : Trust) : Option (Int) := callC tn 46 [dA .Trust a] [] o0'
def z2x (a : Trust) : Option (Int) := callC tn 45 [dA .Trust a] [] o0'
def z13 (a : Int) : Option (List UInt8) := callC tn 85 [dI a] [] o2'
def z4b (a : Trust) : Option (List UInt8) := callC tn 86 [dA .Trust a] [] o2'
def z32 (a : Trust) : Option (Int) := callC tn 84 [dA .Trust a] [] o0'
def z3s (a : Int) : Option (List UInt8) := callC tn 102 [dI a] [] o2'
def z41 (a : Trust) : Option (List UInt8) := callC tn 103 [dA .Trust a] [] o2'
def z4f (a b : Int) : Option (List UInt8) := callC tn 115 [dI a,dI b] [] o2'
def z0m (a : Int) (b : List (List Declaration)) (c d : Int) (e : List (List Declaration)) (f g : List Member) : Option (Config) := gp 26 Tryz.f26 0 o14' [1,1,1,1,0,1,0] [3] ⟨[(1,fP 0),(2,fP 1),(3,fP 2),(4,fI a),(16,fL .l_Declaration b),(17,fI c),(18,fI d)],[[dL .l_Declaration e],[.own .Member f false],[.own .Member g false]]⟩
def z2h (a : Trust) : Option (Int) := callC tn 52 [dA .Trust a] [] o0'
def z1u (a : Trust) : Option (Trust) := callC tn 53 [dA .Trust a] [] o19'
def z2a (a : List Int) : Option (Unit × List Int) := callC tn 75 [.d (.lf (.l (c := .i64) a))] [] ⟨[.ref 0],[[.own .i64 false]]⟩
def z0k (a : List Int) (b : List Declaration) (c : Int) (d : List Int) (e : Int) : Option (List Declaration × List Int × Int) := gp 16 Tryz.f16 1 o15' [1,1,0,1,0] [1] ⟨[(0,fP 0),(1,fL .u64 a),(7,.fl (.own .Declaration b false)),(8,fI c)],[[dL .i64 d,dI e]]⟩
def z3d (a b : List Int) (e : Int) : Option (Declaration × List Int × Int) := callC tn 40 [.ptr 0 0,.d (.lf (.l (c := .u64) a))] [[.d (.lf (.l (c := .i64) b)),dI e]] o24'
def z3b (a : Int) (b : List Int) (e : Int) : Option (Trust × List Int × Int) := callC tn 66 [.ptr 0 0,dI a] [[.d (.lf (.l (c := .i64) b)),dI e]] o6'
def z42 (a b c : Int) (e : Trust) : Option (Declaration × Int) := callC tn 37 [.d (.lf (.i .u64 a)),dI b,dI c,dA .Trust e] [] o25'
def z48 (a b : Int) (e : List Int) (f : Int) : Option (Trust × List Int × Int) := callC tn 44 [.ptr 0 0,dI a,dI b] [[.d (.lf (.l (c := .i64) e)),dI f]] o6'
def z3w (a b : Int) (e : List Int) (f : Int) : Option (Trust × List Int × Int) := callC tn 71 [.ptr 0 0,dI a,dI b] [[.d (.lf (.l (c := .i64) e)),dI f]] o6'
def z3j (a : Int) (b : List Int) (e : Int) : Option (List Int × List Int × Int) := callC tn 19 [.ptr 0 0,dI a] [[.d (.lf (.l (c := .i64) b)),dI e]] o11'
def z1n (a : List (List Declaration)) (b c : Int) (d : List (List Declaration)) : Option (Int) := gp 13 Tryz.f13 0 o0' [1,1,0,1,0] [1] ⟨[(11,fL .l_Declaration a),(12,fI b),(13,fI c)],[[dL .l_Declaration d]]⟩
def z3k (a : Int) (b : List Declaration) : Option (Int) := callC tn 34 [dI a,.d (.lf (.l (c := .Declaration) b))] [] o0'
def z0t (a : Int) (b : List (List Declaration)) (c d : Int) (e : List (List Declaration)) : Option (Int) := gp 39 Tryz.f39 0 o0' [1,1,1,0,1,0] [1] ⟨[(3,fI a),(13,fL .l_Declaration b),(14,fI c),(15,fI d)],[[dL .l_Declaration e]]⟩
def z3e (a : List Declaration) : Option (Int × Bool) := callC tn 65 [.d (.lf (.l (c := .Declaration) a))] [] o20'
def z0i (a b : Int) (c : List (List Trust)) (d : Int) (e : List Trust) (f : Int) (g : List Int) (h : Int) : Option (List (List Trust) × List Int × Int) := gp 21 Tryz.f21 1 o10' [1,1,0,1,0,0,1,0,0,1,0,1,0] [1,1,1,1] ⟨[(0,fP 0),(1,fI a),(2,fI b),(7,.fl (.own .l_Trust c false)),(8,fI d),(9,.fl (.own .Trust e false)),(10,fI f)],[[dL .i64 g,dI h]]⟩
def z0p (a b : List Trust) (c d : Int) : Option (List Trust × Int) := gp 72 Tryz.f72 0 o16' [1,1,0,1,0] [0] ⟨[(4,.fl (.own .Trust a false)),(10,fL .Trust b),(11,fI c),(12,fI d)],[]⟩
def z1d (a : Trust) : Option (Int) := callC tn 78 [dA .Trust a] [] o0'
def z0d (a : Trust) (b : List Trust) : Option (Int × Bool × List Trust) := callC tn 92 [.ref 0,dA .Trust a,.fn 93 []] [[.own .Trust b false]] o21'
def z3t (a : Int) (b e : List Trust) : Option (Unit × Unit × List Trust) := callC tn 94 [.ref 0,dI a,.d (.lf (.l (c := .Trust) b))] [[.own .Trust e false]] ⟨[.ref 1],[[.undef],[.own .Trust false]]⟩
def z24 (a : Trust) : Option (Int) := callC tn 79 [dA .Trust a] [] o0'
def z2i (a : Trust) : Option (Int) := callC tn 80 [dA .Trust a] [] o0'
def z2r (a : Trust) : Option (Int) := callC tn 98 [dA .Trust a] [] o0'
def z0f (a : List Int) : Option (Bool) := callC tn 112 [.d (.lf (.l (c := .i64) a)),.fn 113 []] [] o1'
def z4c (a : List Int) : Option (Int × Int) := callC tn 114 [.d (.lf (.l (c := .i64) a))] [] o8'
def z0l (a : List Int) : Option (Int) := callC tn 119 [.d (.lf (.l (c := .i64) a)),.fn 113 []] [] o0'
def z0w (a : List Member) (b c : Int) (d : List Member) : Option (Int) := gp 73 Tryz.f73 0 o0' [1,1,0,1,0] [1] ⟨[(1,fP 0),(11,fL .Member a),(12,fI b),(13,fI c)],[[dL .Member d]]⟩
def z25 (a : Member) (b : Int) : Option (Int) := callC tn 95 [dA .Member a,dI b] [] o0'
def z2b (a : Trust) : Option (Bool) := callC tn 109 [dA .Trust a] [] o1'
def z0j (a b : Int) (c : List Trust) (d e : Int) (f g : Bool) (h : List (List Trust)) (i j : Int) (k : List Trust) (l m : Int) (n : List Int) (o : Int) (p q : List Member) : Option (Bool) := gp 6 Tryz.f6 0 o1' [1,1,1,1,1,1,1,0,1,0,0,1,1,0,0,1,1,0,0,1,0,0,1,1,0,1,0] [3,3,3,3,3,3,3] ⟨[(3,fP 0),(4,fI a),(6,fP 1),(8,fP 2),(10,fI b),(11,fL .Trust c),(12,fI d),(13,fI e),(14,fB f),(15,fB g),(62,fL .l_Trust h),(63,fI i),(64,fI j),(77,fL .Trust k),(78,fI l),(79,fI m)],[[dL .i64 n,dI o],[dL .Member p],[dL .Member q]]⟩
def z0y (a : Trust) (b : Int) : Option (Bool) := callC tn 25 [dA .Trust a,dI b] [] o1'
def z3p (a : Int) : Option (Bool) := callC tn 50 [dI a] [] o1'
def z17 (a : List Declaration) (b : Int) (c : List (List Declaration)) (e f g : Int) (h : List Int) (j : List Trust) (k l m n : Int) (o : List Int) (p : List Trust) (q : Int) : Option (Evidence × Bool) := gp 27 Tryz.f27 0 o17' [1,1,1,0,1,0] [2] ⟨[(4,fP 1),(6,fL .Declaration a),(7,fI b)],[[dL .l_Declaration c],[dI e,dI f,dI g,.own .i64 h false,.own .Trust j false,.d (.lf (.i .u64 k)),dI l,dI m,dI n,.own .i64 o false,.own .Trust p false,.d (.lf (.i .u64 q))]]⟩
def z1v (a b c : Int) (d : List Int) (e : List Trust) (f : Int) (g : List Int) (h : List Trust) : Option (Bool) := gp 28 Tryz.f28 0 o1' [1,1,0,1,0] [2] ⟨[(2,fP 0),(3,fP 1),(30,fI a),(31,fI b)],[[dI c,dL .i64 d,dL .Trust e],[dI f,dL .i64 g,dL .Trust h]]⟩
def z1j (a b : List Int) (c d : Int) (e : List (List Declaration)) : Option (Bool) := gp 15 Tryz.f15 0 o1' [1,1,1,0,1,0] [1] ⟨[(1,fL .u64 a),(2,fP 0),(11,fL .i64 b),(12,fI c),(13,fI d)],[[dL .l_Declaration e]]⟩
def law08_declared (a : Registry) (b : Int) : Option (List Declaration) := callC tn 38 [dA .Registry a,dI b] [] o3'
def z3x (a : List Int) (b : Registry) (e : Declaration) : Option (Registry × Int) := callC tn 18 [.d (.lf (.l (c := .u64) a)),dA .Registry b,dA .Declaration e] [] o18'
def z2v (a : List Int) (b : Declaration) : Option (Int) := callC tn 41 [.d (.lf (.l (c := .u64) a)),dA .Declaration b] [] o0'
def z33 (a b : Registry) : Option (Registry) := callC tn 32 [dA .Registry a,dA .Registry b] [] o22'
def z1o (a : Declaration) : Option (Int) := callC tn 59 [dA .Declaration a] [] o0'
def z1p (a : Declaration) : Option (List UInt8) := callC tn 68 [dA .Declaration a] [] o2'
def z4i (a : Int) (b : List UInt8) : Option (Int) := callC tn 67 [.d (.lf (.i .u64 a)),.d (.lf (.s b))] [] ⟨[.lf (.i .u64)],[]⟩
def z3l (a : Trust) : Option (List UInt8) := callC tn 89 [dA .Trust a] [] o2'
def z34 (a : Trust) : Option (List UInt8) := callC tn 104 [dA .Trust a] [] o2'
def z21 (a : List (List Declaration)) (b c : Int) (d : List (List Declaration)) : Option (Int) := gp 14 Tryz.f14 0 o0' [1,1,0,1,0] [1] ⟨[(13,fL .l_Declaration a),(14,fI b),(15,fI c)],[[dL .l_Declaration d]]⟩
def z28 (a b : List Int) (c d : Int) : Option (Bool) := gp 54 Tryz.f54 0 o1' [1,1,0,1,0] [0] ⟨[(0,fL .i64 a),(1,fL .i64 b),(12,fI c),(13,fI d)],[]⟩
def z26 (a : List (List Declaration)) (b c : Int) (d e f : List (List Declaration)) : Option (Unit × Unit × List (List Declaration)) := gp 56 Tryz.f56 0 o7' [1,1,0,1,0] [3] ⟨[(2,fP 1),(3,fP 2),(12,fL .l_Declaration a),(13,fI b),(14,fI c)],[[dL .l_Declaration d],[.own .l_Declaration e false],[.own .l_Declaration f false]]⟩
def z14 (a b : List Declaration) (c : Bool) (e : List Declaration) (f g h j k : Int) (l : List Int) (m : List Trust) (n : Int) : Option (List Declaration) := gp 57 Tryz.f57 0 o3' [1,1,1,0,1,0] [1] ⟨[(0,fL .Declaration a),(3,fP 0),(5,.fl (.own .Declaration b false)),(6,fB c),(14,fL .Declaration e),(15,fI f),(16,fI g)],[[dI h,dI j,dI k,dL .i64 l,dL .Trust m,.d (.lf (.i .u64 n))]]⟩
def z29 (a b : Declaration) : Option (Int) := callC tn 36 [dA .Declaration a,dA .Declaration b] [] o0'
def z2y (a : Bool) : Option (Int) := callC tn 63 [.d (.lf (.b a))] [] o0'
def z2j (a : Int) (b : List Trust) (c d e : Int) (f : List Int) (g : List Trust) : Option (Int) := gp 46 Tryz.f46 0 o0' [1,1,0,1,0] [1] ⟨[(3,fI a),(7,fL .Trust b),(8,fI c),(9,fI d)],[[dI e,dL .i64 f,dL .Trust g]]⟩
def z2s (a : Int) (b : List Trust) (c d e : Int) (f : List Int) (g : List Trust) : Option (Int) := gp 45 Tryz.f45 0 o0' [1,1,0,1,0] [1] ⟨[(3,fI a),(14,fL .Trust b),(15,fI c),(16,fI d)],[[dI e,dL .i64 f,dL .Trust g]]⟩
def z1k (a : List Int) (b c d : Int) (e : List Int) (f : List Trust) : Option (Int) := gp 84 Tryz.f84 0 o0' [1,1,0,1,0] [1] ⟨[(1,fP 0),(26,fL .i64 a),(27,fI b),(28,fI c)],[[dI d,dL .i64 e,dL .Trust f]]⟩
def z4g (a : List Int) : Option (Int × Int) := callC tn 101 [.d (.lf (.l (c := .i64) a))] [] o8'
def z2t (a b : List UInt8) (c : List Int) (e f g : Int) (h : List Int) (i : List Trust) : Option (List UInt8) := gp 103 Tryz.f103 0 o2' [1,1,1,0,1,0] [1] ⟨[(1,fP 0),(3,.fl (.d (.lf (.s a)))),(4,.fl (.d (.lf (.s b)))),(14,fL .i64 c),(15,fI e),(16,fI f)],[[dI g,dL .i64 h,dL .Trust i]]⟩
def z18 (a : Int) (b : List Int) (c d e : Int) (f : List Int) (g : List Trust) : Option (Int) := gp 52 Tryz.f52 0 o0' [1,1,0,1,0] [1] ⟨[(1,fP 0),(3,fI a),(9,fL .i64 b),(10,fI c),(11,fI d)],[[dI e,dL .i64 f,dL .Trust g]]⟩
def z35 (a : Int) : Option (Bool) := callC tn 74 [dI a] [] o1'
def z1f (a : List Trust) (b c d : Int) (e : List Int) (f : List Trust) (g : Int) (h : List Int) (i : List Trust) (j : Int) (k : List Int) (l : List Trust) : Option (Trust) := gp 53 Tryz.f53 0 o19' [1,1,0,1,0] [3] ⟨[(2,fP 1),(3,fP 2),(13,fL .Trust a),(14,fI b),(15,fI c)],[[dI d,dL .i64 e,dL .Trust f],[dI g,.own .i64 h false,.own .Trust i false],[dI j,.own .i64 k false,.own .Trust l false]]⟩
def z2n (a b : Int) (c : List Int) (d e : Int) (f : List Int) (g h : Int) (i : List Int) (j : List Trust) (k : Int) (l : List Int) (m : List Trust) : Option (Trust × List Int × Int) := gp 71 Tryz.f71 1 o6' [1,1,1,0,1,0] [3] ⟨[(0,fP 0),(1,fI a),(2,fI b),(6,fP 1),(7,fP 2),(20,fL .i64 c),(21,fI d),(22,fI e)],[[dL .i64 f,dI g],[dI h,.own .i64 i false,.own .Trust j false],[dI k,.own .i64 l false,.own .Trust m false]]⟩
def z3y (a b : List Int) (e : Int) : Option (Int × List Int × Int) := callC tn 91 [.ptr 0 0,.d (.lf (.l (c := .i64) a))] [[.d (.lf (.l (c := .i64) b)),dI e]] o9'
def z1x (a : Int) (b : List Int) (c : Int) (d : List Int) (e : Int) : Option (List Int × List Int × Int) := gp 19 Tryz.f19 1 o11' [1,1,0,1,0] [1] ⟨[(0,fP 0),(1,fI a),(5,.fl (.own .i64 b false)),(6,fI c)],[[dL .i64 d,dI e]]⟩
def z0x (a : Int) (b c : List Declaration) (d e : Int) : Option (Int) := gp 34 Tryz.f34 0 o0' [1,0,1,0] [0] ⟨[(0,fI a),(1,fL .Declaration b),(8,fL .Declaration c),(9,fI d),(10,fI e)],[]⟩
def z0q (a b : Declaration) : Option (Int) := callC tn 60 [dA .Declaration a,dA .Declaration b] [] o0'
def z12 (a b : Int) : Option (Int) := callC tn 82 [dI a,dI b] [] o0'
def z2c (a b : List UInt8) : Option (Int) := callC tn 83 [.d (.lf (.s a)),.d (.lf (.s b))] [] o0'
def z3q (a : List Int) : Option (Int) := callC tn 81 [.d (.lf (.l (c := .i64) a))] [] o0'
def z36 (a : Int) : Option (Bool) := callC tn 99 [dI a] [] o1'
def z27 (a : List UInt8) : Option (Bool) := callC tn 100 [.d (.lf (.s a))] [] o1'
def z19 (a : List Declaration) (b : Int) : Option (Int × Bool) := gp 65 Tryz.f65 0 o20' [1,0,1,0] [0] ⟨[(0,fL .Declaration a),(4,fI b)],[]⟩
def z01 (a b c : Int) (d : List Trust) (e : Int) (f : List Int) (g : List Trust) : Option (Int × Bool × List Trust) := gp 92 Tryz.f92 1 o21' [1,1,1,0,0] [2] ⟨[(0,.fl (.ref 0)),(2,.fl (.fn 93 [])),(4,fP 1),(8,fI a),(9,fI b),(10,fI c)],[[.own .Trust d false],[dI e,dL .i64 f,dL .Trust g]]⟩
def z2k (a b : Trust) : Option (Int) := callC tn 93 [dA .Trust a,dA .Trust b] [] o0'
def z1e (a b : List Int) : Option (Int) := callC tn 105 [.d (.lf (.l (c := .i64) a)),.d (.lf (.l (c := .i64) b))] [] o0'
def z0c (a b : List Trust) : Option (Int) := callC tn 106 [.d (.lf (.l (c := .Trust) a)),.d (.lf (.l (c := .Trust) b)),.fn 93 []] [] o0'
def z1g (a : Int) (b : List Trust) (c d e : Int) (f : List Int) (g : List Trust) : Option (Int) := gp 79 Tryz.f79 0 o0' [1,1,0,1,0] [1] ⟨[(3,fI a),(7,fL .Trust b),(8,fI c),(9,fI d)],[[dI e,dL .i64 f,dL .Trust g]]⟩
def z1q (a : Int) (b : List Trust) (c d e : Int) (f : List Int) (g : List Trust) : Option (Int) := gp 80 Tryz.f80 0 o0' [1,1,0,1,0] [1] ⟨[(3,fI a),(14,fL .Trust b),(15,fI c),(16,fI d)],[[dI e,dL .i64 f,dL .Trust g]]⟩
def z1h (a : List Trust) (b c d : Int) (e : List Int) (f : List Trust) : Option (Int) := gp 98 Tryz.f98 0 o0' [1,1,1,1,0,1,0] [1] ⟨[(36,fL .Trust a),(37,fI b),(38,fI c)],[[dI d,dL .i64 e,dL .Trust f]]⟩
def z1w (a : Int) (b : List Int) (c d : Int) : Option (Int × Int) := gp 114 Tryz.f114 0 o8' [1,1,0,1,0] [0] ⟨[(4,fI a),(7,fL .i64 b),(8,fI c),(9,fI d)],[]⟩
def z47 (a b : Int) : Option (Bool) := callC tn 120 [dI a,dI b] [] o1'
def z3m (a : Int) : Option (Bool) := callC tn 130 [dI a] [] o1'
def z3n (a b : Int) : Option (Bool) := callC tn 138 [dI a,dI b] [] o1'
def z05 (a : List Int) (b c : Int) : Option (Int) := gp 119 Tryz.f119 0 o0' [1,0,1,0] [0] ⟨[(0,fL .i64 a),(1,.fl (.fn 113 [])),(7,fI b),(8,fI c)],[]⟩
def z2w (a : Int) : Option (Bool) := callC tn 113 [dI a] [] o1'
def z0z (a b : Int) (c : List Int) (d e f : Int) (g : List Int) (h : List Trust) : Option (Bool) := gp 25 Tryz.f25 0 o1' [1,1,1,0,1,0] [1] ⟨[(1,fI a),(2,fP 0),(5,fI b),(14,fL .i64 c),(15,fI d),(16,fI e)],[[dI f,dL .i64 g,dL .Trust h]]⟩
def z4a (a b : Int) : Option (Bool) := callC tn 51 [dI a,dI b] [] o1'
def z1a (a b : Int) (c d e f : List (List Declaration)) : Option (Registry) := gp 32 Tryz.f32 0 o22' [1,1,0,1,0] [4] ⟨[(2,fP 0),(3,fP 1),(4,fP 2),(5,fP 3),(14,fI a),(15,fI b)],[[dL .l_Declaration c],[dL .l_Declaration d],[.own .l_Declaration e false],[.own .l_Declaration f false]]⟩
def z3a (a b : List Declaration) : Option (List Declaration) := callC tn 58 [.d (.lf (.l (c := .Declaration) a)),.d (.lf (.l (c := .Declaration) b))] [] o3'
def z3f (a : List Declaration) : Option (List Declaration) := callC tn 43 [.d (.lf (.l (c := .Declaration) a))] [] o3'
def z38 (a : List (List Declaration)) : Option (Unit × List Declaration) := callC tn 76 [.d (.lf (.l (c := .l_Declaration) a))] [] ⟨[.ref 0],[[.own .Declaration false]]⟩
def z0a (a : List Declaration) : Option (List Declaration) := callC tn 77 [.ref 0,.fn 60 []] [[.own .Declaration a false]] o4'
def z0b (a : Int) (b : List Declaration) : Option (List Declaration) := callC tn 97 [.ref 0,dI a,.fn 60 []] [[.own .Declaration b false]] o4'
def z1r (a : List (List UInt8)) (b : List Int) (c d e : Int) (f : List Int) (g : List Trust) : Option (List UInt8) := gp 104 Tryz.f104 0 o2' [1,1,0,1,0] [1] ⟨[(1,fP 0),(3,.fl (.own .s a false)),(9,fL .i64 b),(10,fI c),(11,fI d)],[[dI e,dL .i64 f,dL .Trust g]]⟩
def z16 (a : Int) (b : List Declaration) (c : List (List Declaration)) (d e : Int) (f : List Declaration) (g h : Int) (i : List (List Declaration)) : Option (Int) := gp 14 Tryz.f14 0 o0' [1,1,0,1,0,0,1,1,0,0,1,1,0] [1,1,1,1] ⟨[(3,fI a),(4,fL .Declaration b),(13,fL .l_Declaration c),(14,fI d),(15,fI e),(20,fL .Declaration f),(21,fI g),(22,fI h)],[[dL .l_Declaration i]]⟩
def z1i (a b : List Declaration) (c e f g h : Int) (j : List Int) (k : List Trust) (l : Int) : Option (List Declaration) := gp 57 Tryz.f57 0 o3' [1,1,1,1,1,1,0,1,0] [1] ⟨[(10,.fl (.own .Declaration a false)),(47,fL .Declaration b),(48,fI c),(49,fI e)],[[dI f,dI g,dI h,dL .i64 j,dL .Trust k,.d (.lf (.i .u64 l))]]⟩
def z1l (a : List Trust) (b c d : Int) (e : List Int) (f : List Trust) : Option (Int) := gp 84 Tryz.f84 0 o0' [1,1,1,1,0,1,0] [1] ⟨[(49,fL .Trust a),(50,fI b),(51,fI c)],[[dI d,dL .i64 e,dL .Trust f]]⟩
def z2o (a : Int) (b : List Int) (c d : Int) : Option (Int × Int) := gp 101 Tryz.f101 0 o8' [1,1,0,1,0] [0] ⟨[(4,fI a),(7,fL .i64 b),(8,fI c),(9,fI d)],[]⟩
def z2u (a b : List UInt8) (c : List Trust) (e f g : Int) (h : List Int) (i : List Trust) : Option (List UInt8) := gp 103 Tryz.f103 0 o2' [1,1,1,1,0,1,0] [1] ⟨[(3,.fl (.d (.lf (.s a)))),(4,.fl (.d (.lf (.s b)))),(28,fL .Trust c),(29,fI e),(30,fI f)],[[dI g,dL .i64 h,dL .Trust i]]⟩
def z1b (a : Int) (b : List Trust) (c d e : Int) (f : List Int) (g : List Trust) : Option (Int) := gp 52 Tryz.f52 0 o0' [1,1,1,0,1,0] [1] ⟨[(3,fI a),(23,fL .Trust b),(24,fI c),(25,fI d)],[[dI e,dL .i64 f,dL .Trust g]]⟩
def z2p (a b c : Int) (d : List Int) (e f : Int) (g : List Int) (h : List Trust) (i : Int) (j : List Int) (k : List Trust) : Option (Trust × List Int × Int) := gp 71 Tryz.f71 1 o6' [1,1,1,1,0,1,0,0,1,0] [3] ⟨[(0,fP 0),(1,fI a),(2,fI b),(6,fP 1),(7,fP 2),(11,fI c)],[[dL .i64 d,dI e],[dI f,.own .i64 g false,.own .Trust h false],[dI i,.own .i64 j false,.own .Trust k false]]⟩
def z1y (a : List Int) (b : Int) (c : List Int) (d : Int) : Option (List Int × List Int × Int) := gp 19 Tryz.f19 1 o11' [1,1,1,0,1,0] [1] ⟨[(0,fP 0),(5,.fl (.own .i64 a false)),(7,fI b)],[[dL .i64 c,dI d]]⟩
def z1m (a : Int) (b : List Int) (c d : Int) : Option (Int) := gp 81 Tryz.f81 0 o0' [1,1,0,1,0] [0] ⟨[(3,fI a),(6,fL .i64 b),(7,fI c),(8,fI d)],[]⟩
def z0g (a b c : List Int) (d e : Int) : Option (Int) := gp 105 Tryz.f105 0 o0' [1,0,1,0] [0] ⟨[(0,fL .i64 a),(1,fL .i64 b),(9,fL .i64 c),(10,fI d),(11,fI e)],[]⟩
def z02 (a b c : List Trust) (d e : Int) : Option (Int) := gp 106 Tryz.f106 0 o0' [1,0,1,0] [0] ⟨[(0,fL .Trust a),(1,fL .Trust b),(2,.fl (.fn 93 [])),(11,fL .Trust c),(12,fI d),(13,fI e)],[]⟩
def z0v (a b : Int) (c : List Trust) (d e f : Int) (g : List Int) (h : List Trust) : Option (Bool) := gp 25 Tryz.f25 0 o1' [1,1,1,1,0,1,0] [1] ⟨[(1,fI a),(2,fP 0),(5,fI b),(27,fL .Trust c),(28,fI d),(29,fI e)],[[dI f,dL .i64 g,dL .Trust h]]⟩
def z10 (a b : List Declaration) (c d : Int) : Option (List Declaration) := gp 58 Tryz.f58 0 o3' [1,1,1,1,0,1,0] [0] ⟨[(6,.fl (.own .Declaration a false)),(16,fL .Declaration b),(17,fI c),(18,fI d)],[]⟩
def z1s (a b : List Declaration) (c d : Int) : Option (List Declaration) := gp 43 Tryz.f43 0 o3' [1,1,0,1,0] [0] ⟨[(3,.fl (.own .Declaration a false)),(6,fL .Declaration b),(7,fI c),(8,fI d)],[]⟩
def z08 (a b c d : Int) (e : List Declaration) : Option (List Declaration) := gp 97 Tryz.f97 1 o4' [1,1,0,0] [1] ⟨[(0,.fl (.ref 0)),(1,fI a),(2,.fl (.fn 60 [])),(6,fI b),(7,fI c),(8,fI d)],[[.own .Declaration e false]]⟩
def z04 (a b : Int) (c : List Declaration) : Option (List Declaration) := callC tn 110 [.ref 0,dI a,dI b,.fn 60 []] [[.own .Declaration c false]] o4'
def z1t (a : List (List UInt8)) (b : List Trust) (c d e : Int) (f : List Int) (g : List Trust) : Option (List UInt8) := gp 104 Tryz.f104 0 o2' [1,1,1,0,1,0] [1] ⟨[(1,fP 0),(3,.fl (.own .s a false)),(22,fL .Trust b),(23,fI c),(24,fI d)],[[dI e,dL .i64 f,dL .Trust g]]⟩
def z4h (a : List (List UInt8)) (b : List UInt8) : Option (List UInt8) := callC tn 116 [.d (.lf (.l (c := .s) a)),.d (.lf (.s b))] [] o2'
def z0s (a b : List Declaration) (c e f g h : Int) (j : List Int) (k : List Trust) (l : Int) : Option (List Declaration) := gp 57 Tryz.f57 0 o3' [1,1,1,1,1,1,0,1,0] [1] ⟨[(10,.fl (.own .Declaration a true)),(47,fL .Declaration b),(48,fI c),(49,fI e)],[[dI f,dI g,dI h,dL .i64 j,dL .Trust k,.d (.lf (.i .u64 l))]]⟩
def z06 (a b : List Declaration) (c d : Int) : Option (List Declaration) := gp 58 Tryz.f58 0 o3' [1,1,1,1,0,1,0] [0] ⟨[(6,.fl (.own .Declaration a true)),(16,fL .Declaration b),(17,fI c),(18,fI d)],[]⟩
def z0e (a b : Int) (c : List Declaration) : Option (List Declaration) := gp 97 Tryz.f97 1 o4' [1,1,1,1,0] [1] ⟨[(0,.fl (.ref 0)),(1,fI a),(2,.fl (.fn 60 [])),(6,fI b)],[[.own .Declaration c false]]⟩
def z00 (a b c : Int) (d : List Declaration) : Option (List Declaration) := gp 110 Tryz.f110 1 o4' [1,0] [1] ⟨[(0,.fl (.ref 0)),(1,fI a),(2,fI b),(3,.fl (.fn 60 [])),(8,fI c)],[[.own .Declaration d false]]⟩
def z22 (a b c d : Int) (e : List Declaration) : Option (List Declaration) := gp 97 Tryz.f97 1 o4' [1,1,1,1,0,0,1,0,1,0,0] [1,1,1,1] ⟨[(0,.fl (.ref 0)),(1,fI a),(2,.fl (.fn 60 [])),(6,fI b),(7,fI c),(8,fI d)],[[.own .Declaration e false]]⟩
def z03 (a b c d : Int) (e : List Declaration) : Option (List Declaration) := gp 110 Tryz.f110 1 o4' [1,0,0,1,0,0,1,0] [1,1,1,1] ⟨[(0,.fl (.ref 0)),(1,fI a),(2,fI b),(3,.fl (.fn 60 [])),(8,fI c),(9,fI d)],[[.own .Declaration e false]]⟩
end
end Go.Proofs.YtkeiaodiibageaaGreatDoor
