/- What the functions come to: names. -/
import Derived.Test.YtkeiaodiibageaaDoorE08Env
namespace Go.Proofs.YtkeiaodiibageaaDoor
open Go Go.Ab
abbrev dA (c : sig.TC) (x : sig.Ty c) : TL sig := .d (.ag (sig.cells c x))
noncomputable abbrev gp (f : Nat) (fn : Func) (k : Nat) (o : OSpec sig) (p ms : List Nat) (st : TSt sig) : Option o.Out := goC tn ⟨f, fn, k⟩ o (q0v fn p) (qw2 fn p ms) st
abbrev fI (n : Int) : TV sig := .fl (.d (.lf (.i .i64 n)))
abbrev fB (n : Bool) : TV sig := .fl (.d (.lf (.b n)))
abbrev fL (c : sig.TC) (l : List (sig.Ty c)) : TV sig := .fl (.d (.lf (.l c l)))
abbrev fP (n : Nat) : TV sig := .fl (.ptr n 0)
abbrev dI (n : Int) : TL sig := .d (.lf (.i .i64 n))
abbrev dL (c : sig.TC) (l : List (sig.Ty c)) : TL sig := .d (.lf (.l c l))
noncomputable section
def law08_RegistryExposes (a : List Int) : Option (Bool) := callC tn 3 [.d (.lf (.l (c := .i64) a))] [] o1'
def z32 (a : List Int) : Option (Unit × List Int × Int) := callC tn 4 [.d (.lf (.l (c := .i64) a))] [] o14'
def z0i (a b : Int) (e : List Int) (f : Int) : Option (Int × List Int × Int) := callC tn 6 [.ptr 0 0,dI a,dI b] [[.d (.lf (.l (c := .i64) e)),dI f]] o7'
def z33 (a : Int) (b : List Int) (e : Int) : Option (List Int × List Int × Int) := callC tn 5 [.ptr 0 0,dI a] [[.d (.lf (.l (c := .i64) b)),dI e]] o9'
def z25 (a : List Int) (b : Int) (e : List Int) (f : Int) : Option (List Declaration × List Int × Int) := callC tn 7 [.ptr 0 0,.d (.lf (.l (c := .u64) a)),dI b] [[.d (.lf (.l (c := .i64) e)),dI f]] o10'
def z15 (a : Int) : Option (Unit × Unit × List (List Declaration)) := callC tn 8 [dI a] [] o15'
def z0l (a : Int) (b : List Int) (e : Int) : Option (Int × List Int × Int) := callC tn 15 [.ptr 0 0,dI a] [[.d (.lf (.l (c := .i64) b)),dI e]] o7'
def z0f (a : List Int) (b : List Declaration) (c : Int) (d : List Declaration) (e f : Int) (g : List Int) (h : Int) (i : List (List Declaration)) : Option (Bool) := gp 3 Tryd.f3 0 o1' [1,1,1,1,1,1,0,1,0] [2] ⟨[(4,fL .u64 a),(5,fL .Declaration b),(6,fP 1),(7,fI c),(27,fL .Declaration d),(28,fI e),(29,fI f)],[[dL .i64 g,dI h],[dL .l_Declaration i]]⟩
def z2d (a : Int) (b : List Int) (c : Int) (d : List Int) (e : Int) : Option (List Int × List Int × Int) := gp 5 Tryd.f5 1 o9' [1,1,0,1,0] [1] ⟨[(0,fP 0),(1,fI a),(5,.fl (.own .u64 b false)),(6,fI c)],[[dL .i64 d,dI e]]⟩
def z0b (a : List Int) (b : List Declaration) (c : Int) (d : List Int) (e : Int) : Option (List Declaration × List Int × Int) := gp 7 Tryd.f7 1 o10' [1,1,0,1,0] [1] ⟨[(0,fP 0),(1,fL .u64 a),(7,.fl (.own .Declaration b false)),(8,fI c)],[[dL .i64 d,dI e]]⟩
def z2a (a b : List Int) (e : Int) : Option (Declaration × List Int × Int) := callC tn 16 [.ptr 0 0,.d (.lf (.l (c := .u64) a))] [[.d (.lf (.l (c := .i64) b)),dI e]] o16'
def z28 (a : Int) (b : List Int) (e : Int) : Option (Trust × List Int × Int) := callC tn 27 [.ptr 0 0,dI a] [[.d (.lf (.l (c := .i64) b)),dI e]] o5'
def z2o (a b c : Int) (e : Trust) : Option (Declaration × Int) := callC tn 25 [.d (.lf (.i .u64 a)),dI b,dI c,dA .Trust e] [] o17'
def z2v (a b : Int) (e : List Int) (f : Int) : Option (Trust × List Int × Int) := callC tn 38 [.ptr 0 0,dI a,dI b] [[.d (.lf (.l (c := .i64) e)),dI f]] o5'
def z26 (a : Trust) : Option (Int) := callC tn 39 [dA .Trust a] [] o0'
def z1w (a : Trust) : Option (Int) := callC tn 40 [dA .Trust a] [] o0'
def z29 (a : Declaration) : Option (Int) := callC tn 28 [dA .Declaration a] [] o0'
def z1x (a : Declaration) : Option (List UInt8) := callC tn 17 [dA .Declaration a] [] o2'
def z34 (a : Int) (b : List UInt8) : Option (Int) := callC tn 37 [.d (.lf (.i .u64 a)),.d (.lf (.s b))] [] ⟨[.lf (.i .u64)],[]⟩
def z2l (a b : Int) (e : List Int) (f : Int) : Option (Trust × List Int × Int) := callC tn 54 [.ptr 0 0,dI a,dI b] [[.d (.lf (.l (c := .i64) e)),dI f]] o5'
def z17 (a : Trust) : Option (Int) := callC tn 41 [dA .Trust a] [] o0'
def z0k (a : Int) : Option (List UInt8) := callC tn 29 [dI a] [] o2'
def z2t (a : Trust) : Option (List UInt8) := callC tn 30 [dA .Trust a] [] o2'
def z2e (a : Int) (b : List Int) (e : Int) : Option (List Int × List Int × Int) := callC tn 64 [.ptr 0 0,dI a] [[.d (.lf (.l (c := .i64) b)),dI e]] o8'
def z1y (a : Trust) : Option (Int) := callC tn 55 [dA .Trust a] [] o0'
def z2k (a : Int) : Option (List UInt8) := callC tn 42 [dI a] [] o2'
def z2p (a : Trust) : Option (List UInt8) := callC tn 43 [dA .Trust a] [] o2'
def z2x (a b : Int) : Option (List UInt8) := callC tn 56 [dI a,dI b] [] o2'
def z0a (a : List Int) (b : List Declaration) (c : Int) (e : List Declaration) (f g : Int) (h : List Declaration) (j k : Int) (l : List Int) (m : Int) (n : List (List Declaration)) (o p q : Int) (r : List Int) (s : List Trust) (t : Int) : Option (Bool) := gp 3 Tryd.f3 0 o1' [1,1,1,1,1,1,0,1,0,0,1,1,0,0,1,0,1,0] [2,2,2,3] ⟨[(4,fL .u64 a),(5,fL .Declaration b),(6,fP 1),(7,fI c),(9,fP 2),(27,fL .Declaration e),(28,fI f),(29,fI g),(36,fL .Declaration h),(37,fI j),(38,fI k)],[[dL .i64 l,dI m],[dL .l_Declaration n],[dI o,dI p,dI q,dL .i64 r,dL .Trust s,.d (.lf (.i .u64 t))]]⟩
def z24 (a b : Declaration) : Option (Int) := callC tn 9 [dA .Declaration a,dA .Declaration b] [] o0'
def z2b (a : List Int) (b : Registry) (e : Declaration) : Option (Registry × Int) := callC tn 10 [.d (.lf (.l (c := .u64) a)),dA .Registry b,dA .Declaration e] [] o18'
def z1v (a : Bool) : Option (Int) := callC tn 18 [.d (.lf (.b a))] [] o0'
def z1d (a : Registry) : Option (Int) := callC tn 19 [dA .Registry a] [] o0'
def z1t (a : List Int) (b : Declaration) : Option (Int) := callC tn 20 [.d (.lf (.l (c := .u64) a)),dA .Declaration b] [] o0'
def z1z (a b : Registry) : Option (Registry) := callC tn 21 [dA .Registry a,dA .Registry b] [] o11'
def z0v (a : Declaration) : Option (Int) := callC tn 32 [dA .Declaration a] [] o0'
def z0w (a : Declaration) : Option (List UInt8) := callC tn 34 [dA .Declaration a] [] o2'
def z30 (a : Int) (b : List UInt8) : Option (Int) := callC tn 33 [.d (.lf (.i .u64 a)),.d (.lf (.s b))] [] ⟨[.lf (.i .u64)],[]⟩
def z1n (a : Trust) : Option (Int) := callC tn 45 [dA .Trust a] [] o0'
def z18 (a : Trust) : Option (Int) := callC tn 46 [dA .Trust a] [] o0'
def z1e (a : Trust) : Option (Int) := callC tn 47 [dA .Trust a] [] o0'
def z2f (a : Trust) : Option (List UInt8) := callC tn 49 [dA .Trust a] [] o2'
def z1o (a : Trust) : Option (Int) := callC tn 60 [dA .Trust a] [] o0'
def z21 (a : Trust) : Option (List UInt8) := callC tn 61 [dA .Trust a] [] o2'
def z09 (a : List Int) : Option (Bool) := callC tn 73 [.d (.lf (.l (c := .i64) a)),.fn 74 []] [] o1'
def z2u (a : List Int) : Option (Int × Int) := callC tn 76 [.d (.lf (.l (c := .i64) a))] [] o6'
def z0c (a : List Int) : Option (Int) := callC tn 86 [.d (.lf (.l (c := .i64) a)),.fn 74 []] [] o0'
def z0d (a : List Int) (b c d : Int) (e : List Int) (f : Int) (g : List (List Declaration)) : Option (Bool) := gp 3 Tryd.f3 0 o1' [1,1,1,1,1,1,1,0,1,0] [2] ⟨[(4,fL .u64 a),(6,fP 1),(7,fI b),(75,fI c),(76,fI d)],[[dL .i64 e,dI f],[dL .l_Declaration g]]⟩
def z19 (a : Registry) (c : Int) : Option (Evidence × Bool) := callC tn 11 [dA .Registry a,dI c] [] ⟨[.ag .Evidence,.lf .b],[]⟩
def z2m (a : List Int) (b : Evidence) : Option (Int) := callC tn 12 [.d (.lf (.l (c := .u64) a)),dA .Evidence b] [] o0'
def z1f (a : Registry) : Option (Int) := callC tn 13 [dA .Registry a] [] o0'
def law08_awake  : Option (Bool) := callC tn 14 [] [] o1'
def z1g (a : List Declaration) : Option (Int × Bool) := callC tn 22 [.d (.lf (.l (c := .Declaration) a))] [] o12'
def z1h (a : List Declaration) : Option (List Declaration) := callC tn 23 [.d (.lf (.l (c := .Declaration) a))] [] o4'
def z2j (a : List Int) (b : Declaration) : Option (Int) := callC tn 24 [.d (.lf (.l (c := .u64) a)),dA .Declaration b] [] o0'
def z1q (a : Int) (b : List Trust) (c d e : Int) (f : List Int) (g : List Trust) : Option (Int) := gp 39 Tryd.f39 0 o0' [1,1,0,1,0] [1] ⟨[(3,fI a),(14,fL .Trust b),(15,fI c),(16,fI d)],[[dI e,dL .i64 f,dL .Trust g]]⟩
def z1i (a : Int) (b : List Trust) (c d e : Int) (f : List Int) (g : List Trust) : Option (Int) := gp 40 Tryd.f40 0 o0' [1,1,0,1,0] [1] ⟨[(3,fI a),(7,fL .Trust b),(8,fI c),(9,fI d)],[[dI e,dL .i64 f,dL .Trust g]]⟩
def z1k (a b : Int) (c : List Int) (d e : Int) (f : List Int) (g h : Int) (i : List Int) (j : List Trust) (k : Int) (l : List Int) (m : List Trust) : Option (Trust × List Int × Int) := gp 54 Tryd.f54 1 o5' [1,1,1,0,1,0] [3] ⟨[(0,fP 0),(1,fI a),(2,fI b),(6,fP 1),(7,fP 2),(20,fL .i64 c),(21,fI d),(22,fI e)],[[dL .i64 f,dI g],[dI h,.own .i64 i false,.own .Trust j false],[dI k,.own .i64 l false,.own .Trust m false]]⟩
def z2n (a b : List Int) (e : Int) : Option (Int × List Int × Int) := callC tn 65 [.ptr 0 0,.d (.lf (.l (c := .i64) a))] [[.d (.lf (.l (c := .i64) b)),dI e]] o7'
def z13 (a : Int) (b : List Int) (c : Int) (d : List Int) (e : Int) : Option (List Int × List Int × Int) := gp 64 Tryd.f64 1 o8' [1,1,0,1,0] [1] ⟨[(0,fP 0),(1,fI a),(5,.fl (.own .i64 b false)),(6,fI c)],[[dL .i64 d,dI e]]⟩
def z0r (a : List Int) (b c d : Int) (e : List Int) (f : List Trust) : Option (Int) := gp 55 Tryd.f55 0 o0' [1,1,0,1,0] [1] ⟨[(1,fP 0),(26,fL .i64 a),(27,fI b),(28,fI c)],[[dI d,dL .i64 e,dL .Trust f]]⟩
def z2y (a : List Int) : Option (Int × Int) := callC tn 66 [.d (.lf (.l (c := .i64) a))] [] o6'
def z1r (a b : List UInt8) (c : List Int) (e f g : Int) (h : List Int) (i : List Trust) : Option (List UInt8) := gp 43 Tryd.f43 0 o2' [1,1,1,0,1,0] [1] ⟨[(1,fP 0),(3,.fl (.d (.lf (.s a)))),(4,.fl (.d (.lf (.s b)))),(14,fL .i64 c),(15,fI e),(16,fI f)],[[dI g,dL .i64 h,dL .Trust i]]⟩
def z0x (a : List (List Declaration)) (b c : Int) (d : List (List Declaration)) : Option (Int) := gp 19 Tryd.f19 0 o0' [1,1,0,1,0] [1] ⟨[(11,fL .l_Declaration a),(12,fI b),(13,fI c)],[[dL .l_Declaration d]]⟩
def z2g (a : Int) (b : List Declaration) : Option (Int) := callC tn 31 [dI a,.d (.lf (.l (c := .Declaration) b))] [] o0'
def z0m (a b : Int) (c d e f : List (List Declaration)) : Option (Registry) := gp 21 Tryd.f21 0 o11' [1,1,0,1,0] [4] ⟨[(2,fP 0),(3,fP 1),(4,fP 2),(5,fP 3),(14,fI a),(15,fI b)],[[dL .l_Declaration c],[dL .l_Declaration d],[.own .l_Declaration e false],[.own .l_Declaration f false]]⟩
def z27 (a b : List Declaration) : Option (List Declaration) := callC tn 35 [.d (.lf (.l (c := .Declaration) a)),.d (.lf (.l (c := .Declaration) b))] [] o4'
def z23 (a : List (List Declaration)) : Option (Unit × List Declaration) := callC tn 50 [.d (.lf (.l (c := .l_Declaration) a))] [] ⟨[.ref 0],[[.own .Declaration false]]⟩
def z06 (a : List Declaration) : Option (List Declaration) := callC tn 51 [.ref 0,.fn 44 []] [[.own .Declaration a false]] o3'
def z07 (a : Int) (b : List Declaration) : Option (List Declaration) := callC tn 63 [.ref 0,dI a,.fn 44 []] [[.own .Declaration b false]] o3'
def z0o (a : Int) (b : List Trust) (c d e : Int) (f : List Int) (g : List Trust) : Option (Int) := gp 46 Tryd.f46 0 o0' [1,1,0,1,0] [1] ⟨[(3,fI a),(7,fL .Trust b),(8,fI c),(9,fI d)],[[dI e,dL .i64 f,dL .Trust g]]⟩
def z0y (a : Int) (b : List Trust) (c d e : Int) (f : List Int) (g : List Trust) : Option (Int) := gp 47 Tryd.f47 0 o0' [1,1,0,1,0] [1] ⟨[(3,fI a),(14,fL .Trust b),(15,fI c),(16,fI d)],[[dI e,dL .i64 f,dL .Trust g]]⟩
def z0p (a : List Trust) (b c d : Int) (e : List Int) (f : List Trust) : Option (Int) := gp 60 Tryd.f60 0 o0' [1,1,1,1,0,1,0] [1] ⟨[(36,fL .Trust a),(37,fI b),(38,fI c)],[[dI d,dL .i64 e,dL .Trust f]]⟩
def z0z (a : List (List UInt8)) (b : List Int) (c d e : Int) (f : List Int) (g : List Trust) : Option (List UInt8) := gp 61 Tryd.f61 0 o2' [1,1,0,1,0] [1] ⟨[(1,fP 0),(3,.fl (.own .s a false)),(9,fL .i64 b),(10,fI c),(11,fI d)],[[dI e,dL .i64 f,dL .Trust g]]⟩
def z12 (a : Int) (b : List Int) (c d : Int) : Option (Int × Int) := gp 76 Tryd.f76 0 o6' [1,1,0,1,0] [0] ⟨[(4,fI a),(7,fL .i64 b),(8,fI c),(9,fI d)],[]⟩
def z2q (a b : Int) : Option (Bool) := callC tn 87 [dI a,dI b] [] o1'
def z2h (a : Int) : Option (Bool) := callC tn 95 [dI a] [] o1'
def z2i (a b : Int) : Option (Bool) := callC tn 99 [dI a,dI b] [] o1'
def z03 (a : List Int) (b c : Int) : Option (Int) := gp 86 Tryd.f86 0 o0' [1,0,1,0] [0] ⟨[(0,fL .i64 a),(1,.fl (.fn 74 [])),(7,fI b),(8,fI c)],[]⟩
def z1u (a : Int) : Option (Bool) := callC tn 74 [dI a] [] o1'
def z2c (a : Int) : Option (Bool) := callC tn 75 [dI a] [] o1'
def z0g (a : Int) (b : List (List Declaration)) (c d : Int) (e : List (List Declaration)) : Option (Int) := gp 13 Tryd.f13 0 o0' [1,1,1,0,1,0] [1] ⟨[(3,fI a),(13,fL .l_Declaration b),(14,fI c),(15,fI d)],[[dL .l_Declaration e]]⟩
def z0s (a b : List Int) (c d : Int) (e : List (List Declaration)) : Option (Bool) := gp 14 Tryd.f14 0 o1' [1,1,1,0,1,0] [1] ⟨[(1,fL .u64 a),(2,fP 0),(11,fL .i64 b),(12,fI c),(13,fI d)],[[dL .l_Declaration e]]⟩
def law08_declared (a : Registry) (b : Int) : Option (List Declaration) := callC tn 26 [dA .Registry a,dI b] [] o4'
def z0n (a : List Declaration) (b : Int) : Option (Int × Bool) := gp 22 Tryd.f22 0 o12' [1,0,1,0] [0] ⟨[(0,fL .Declaration a),(4,fI b)],[]⟩
def z10 (a b : List Declaration) (c d : Int) : Option (List Declaration) := gp 23 Tryd.f23 0 o4' [1,1,0,1,0] [0] ⟨[(3,.fl (.own .Declaration a false)),(6,fL .Declaration b),(7,fI c),(8,fI d)],[]⟩
def z1p (a : Trust) : Option (Trust) := callC tn 36 [dA .Trust a] [] o13'
def z1b (a : List Int) : Option (Unit × List Int) := callC tn 52 [.d (.lf (.l (c := .i64) a))] [] ⟨[.ref 0],[[.own .i64 false]]⟩
def z1l (a b c : Int) (d : List Int) (e f : Int) (g : List Int) (h : List Trust) (i : Int) (j : List Int) (k : List Trust) : Option (Trust × List Int × Int) := gp 54 Tryd.f54 1 o5' [1,1,1,1,0,1,0,0,1,0] [3] ⟨[(0,fP 0),(1,fI a),(2,fI b),(6,fP 1),(7,fP 2),(11,fI c)],[[dL .i64 d,dI e],[dI f,.own .i64 g false,.own .Trust h false],[dI i,.own .i64 j false,.own .Trust k false]]⟩
def z14 (a : List Int) (b : Int) (c : List Int) (d : Int) : Option (List Int × List Int × Int) := gp 64 Tryd.f64 1 o8' [1,1,1,0,1,0] [1] ⟨[(0,fP 0),(5,.fl (.own .i64 a false)),(7,fI b)],[[dL .i64 c,dI d]]⟩
def z0t (a : List Trust) (b c d : Int) (e : List Int) (f : List Trust) : Option (Int) := gp 55 Tryd.f55 0 o0' [1,1,1,1,0,1,0] [1] ⟨[(49,fL .Trust a),(50,fI b),(51,fI c)],[[dI d,dL .i64 e,dL .Trust f]]⟩
def z1m (a : Int) (b : List Int) (c d : Int) : Option (Int × Int) := gp 66 Tryd.f66 0 o6' [1,1,0,1,0] [0] ⟨[(4,fI a),(7,fL .i64 b),(8,fI c),(9,fI d)],[]⟩
def z2w (a b : Int) : Option (Bool) := callC tn 80 [dI a,dI b] [] o1'
def z2r (a : Int) : Option (Bool) := callC tn 92 [dI a] [] o1'
def z1s (a b : List UInt8) (c : List Trust) (e f g : Int) (h : List Int) (i : List Trust) : Option (List UInt8) := gp 43 Tryd.f43 0 o2' [1,1,1,1,0,1,0] [1] ⟨[(3,.fl (.d (.lf (.s a)))),(4,.fl (.d (.lf (.s b)))),(28,fL .Trust c),(29,fI e),(30,fI f)],[[dI g,dL .i64 h,dL .Trust i]]⟩
def z0h (a : Int) (b c : List Declaration) (d e : Int) : Option (Int) := gp 31 Tryd.f31 0 o0' [1,0,1,0] [0] ⟨[(0,fI a),(1,fL .Declaration b),(8,fL .Declaration c),(9,fI d),(10,fI e)],[]⟩
def z0e (a b : Declaration) : Option (Int) := callC tn 44 [dA .Declaration a,dA .Declaration b] [] o0'
def z1j (a b : Int) : Option (Int) := callC tn 58 [dI a,dI b] [] o0'
def z1c (a b : List UInt8) : Option (Int) := callC tn 59 [.d (.lf (.s a)),.d (.lf (.s b))] [] o0'
def z2s (a : List Int) : Option (Int) := callC tn 57 [.d (.lf (.l (c := .i64) a))] [] o0'
def z22 (a : Int) : Option (Bool) := callC tn 71 [dI a] [] o1'
def z1a (a : List UInt8) : Option (Bool) := callC tn 72 [.d (.lf (.s a))] [] o1'
def z0j (a b : List Declaration) (c d : Int) : Option (List Declaration) := gp 35 Tryd.f35 0 o4' [1,1,1,1,0,1,0] [0] ⟨[(6,.fl (.own .Declaration a false)),(16,fL .Declaration b),(17,fI c),(18,fI d)],[]⟩
def z05 (a b c d : Int) (e : List Declaration) : Option (List Declaration) := gp 63 Tryd.f63 1 o3' [1,1,0,0] [1] ⟨[(0,.fl (.ref 0)),(1,fI a),(2,.fl (.fn 44 [])),(6,fI b),(7,fI c),(8,fI d)],[[.own .Declaration e false]]⟩
def z02 (a b : Int) (c : List Declaration) : Option (List Declaration) := callC tn 78 [.ref 0,dI a,dI b,.fn 44 []] [[.own .Declaration c false]] o3'
def z11 (a : List (List UInt8)) (b : List Trust) (c d e : Int) (f : List Int) (g : List Trust) : Option (List UInt8) := gp 61 Tryd.f61 0 o2' [1,1,1,0,1,0] [1] ⟨[(1,fP 0),(3,.fl (.own .s a false)),(22,fL .Trust b),(23,fI c),(24,fI d)],[[dI e,dL .i64 f,dL .Trust g]]⟩
def z2z (a : List (List UInt8)) (b : List UInt8) : Option (List UInt8) := callC tn 77 [.d (.lf (.l (c := .s) a)),.d (.lf (.s b))] [] o2'
def z0q (a : List Trust) (b c d : Int) (e : List Int) (f : List Trust) (g : Int) (h : List Int) (i : List Trust) (j : Int) (k : List Int) (l : List Trust) : Option (Trust) := gp 36 Tryd.f36 0 o13' [1,1,0,1,0] [3] ⟨[(2,fP 1),(3,fP 2),(13,fL .Trust a),(14,fI b),(15,fI c)],[[dI d,dL .i64 e,dL .Trust f],[dI g,.own .i64 h false,.own .Trust i false],[dI j,.own .i64 k false,.own .Trust l false]]⟩
def z0u (a : Int) (b : List Int) (c d : Int) : Option (Int) := gp 57 Tryd.f57 0 o0' [1,1,0,1,0] [0] ⟨[(3,fI a),(6,fL .i64 b),(7,fI c),(8,fI d)],[]⟩
def z04 (a b : List Declaration) (c d : Int) : Option (List Declaration) := gp 35 Tryd.f35 0 o4' [1,1,1,1,0,1,0] [0] ⟨[(6,.fl (.own .Declaration a true)),(16,fL .Declaration b),(17,fI c),(18,fI d)],[]⟩
def z08 (a b : Int) (c : List Declaration) : Option (List Declaration) := gp 63 Tryd.f63 1 o3' [1,1,1,1,0] [1] ⟨[(0,.fl (.ref 0)),(1,fI a),(2,.fl (.fn 44 [])),(6,fI b)],[[.own .Declaration c false]]⟩
def z00 (a b c : Int) (d : List Declaration) : Option (List Declaration) := gp 78 Tryd.f78 1 o3' [1,0] [1] ⟨[(0,.fl (.ref 0)),(1,fI a),(2,fI b),(3,.fl (.fn 44 [])),(8,fI c)],[[.own .Declaration d false]]⟩
def z16 (a b c d : Int) (e : List Declaration) : Option (List Declaration) := gp 63 Tryd.f63 1 o3' [1,1,1,1,0,0,1,0,1,0,0] [1,1,1,1] ⟨[(0,.fl (.ref 0)),(1,fI a),(2,.fl (.fn 44 [])),(6,fI b),(7,fI c),(8,fI d)],[[.own .Declaration e false]]⟩
def z01 (a b c d : Int) (e : List Declaration) : Option (List Declaration) := gp 78 Tryd.f78 1 o3' [1,0,0,1,0,0,1,0] [1,1,1,1] ⟨[(0,.fl (.ref 0)),(1,fI a),(2,fI b),(3,.fl (.fn 44 [])),(8,fI c),(9,fI d)],[[.own .Declaration e false]]⟩
end
end Go.Proofs.YtkeiaodiibageaaDoor
