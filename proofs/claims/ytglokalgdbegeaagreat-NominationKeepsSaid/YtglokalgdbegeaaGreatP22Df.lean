/- What the functions come to: names. -/
import Derived.Test.YtglokalgdbegeaaGreatP22Env
namespace Go.Proofs.YtglokalgdbegeaaGreat
open Go Go.Ab
abbrev dA (c : sig.TC) (x : sig.Ty c) : TL sig := .d (.ag (sig.cells c x))
noncomputable abbrev gp (f : Nat) (fn : Func) (k : Nat) (o : OSpec sig) (p ms : List Nat) (st : TSt sig) : Option o.Out := goC tn ⟨f, fn, k⟩ o (q0b fn p) (y56 fn p ms) st
abbrev fI (n : Int) : TV sig := .fl (.d (.lf (.i .i64 n)))
abbrev fB (n : Bool) : TV sig := .fl (.d (.lf (.b n)))
abbrev fL (c : sig.TC) (l : List (sig.Ty c)) : TV sig := .fl (.d (.lf (.l c l)))
abbrev fP (n : Nat) : TV sig := .fl (.ptr n 0)
abbrev dI (n : Int) : TL sig := .d (.lf (.i .i64 n))
abbrev dL (c : sig.TC) (l : List (sig.Ty c)) : TL sig := .d (.lf (.l c l))
noncomputable section
def law22_NominationKeeps (a : List Int) : Option (Bool) := callC tn 5 [.d (.lf (.l (c := .i64) a))] [] o0'
def z5z (a : List Int) : Option (Unit × List Int × Int) := callC tn 8 [.d (.lf (.l (c := .i64) a))] [] o25'
def z2c (a : Int) (b : List Int) (e : Int) : Option (Int × List Int × Int) := callC tn 10 [.ptr 0 0,dI a] [[.d (.lf (.l (c := .i64) b)),dI e]] o15'
def z5a (a b : Int) (e : List Int) (f : Int) : Option (Trust × List Int × Int) := callC tn 27 [.ptr 0 0,dI a,dI b] [[.d (.lf (.l (c := .i64) e)),dI f]] o10'
def z5v (a : List Int) (b : Int) : Option (List UInt8 × List Int × Int) := callC tn 18 [.ptr 0 0] [[.d (.lf (.l (c := .i64) a)),dI b]] o26'
def z2p (a b : Int) (c : Trust) (e : List UInt8) : Option (Nominator × Int) := callC tn 12 [dI a,dI b,dA .Trust c,.d (.lf (.s e))] [] o11'
def z5h (a b : Int) (e : List Int) (f : Int) : Option (Trust × List Int × Int) := callC tn 74 [.ptr 0 0,dI a,dI b] [[.d (.lf (.l (c := .i64) e)),dI f]] o10'
def z39 (a : Trust) : Option (Int) := callC tn 75 [dA .Trust a] [] o1'
def z3n (a : Int) : Option (Bool) := callC tn 55 [dI a] [] o0'
def z23 (a : Trust) : Option (Int) := callC tn 56 [dA .Trust a] [] o1'
def z2q (a : Nominator) : Option (Nominator) := callC tn 58 [dA .Nominator a] [] o6'
def z1j (a : Nominator) : Option (Nominator) := callC tn 57 [dA .Nominator a] [] o6'
def z5b (a : Int) (b : List Int) (e : Int) : Option (List Int × List Int × Int) := callC tn 117 [.ptr 0 0,dI a] [[.d (.lf (.l (c := .i64) b)),dI e]] o16'
def z2f (a b : Int) (e : List Int) (f : Int) : Option (Int × List Int × Int) := callC tn 9 [.ptr 0 0,dI a,dI b] [[.d (.lf (.l (c := .i64) e)),dI f]] o15'
def z5f (a : Trust) : Option (Int) := callC tn 118 [dA .Trust a] [] o1'
def z5k (a : Trust) : Option (Int) := callC tn 119 [dA .Trust a] [] o1'
def z3l (a : Trust) : Option (Int) := callC tn 120 [dA .Trust a] [] o1'
def z4f (a : Trust) : Option (Int) := callC tn 97 [dA .Trust a] [] o1'
def z4q (a : Trust) : Option (Int) := callC tn 98 [dA .Trust a] [] o1'
def z4g (a : Trust) : Option (Int) := callC tn 99 [dA .Trust a] [] o1'
def z4v (a : Nominator) : Option (List (List UInt8)) := callC tn 102 [dA .Nominator a] [] o5'
def z4h (a : Nominator) : Option (Config) := callC tn 103 [dA .Nominator a] [] o12'
def z38 (a : Nominator) (b : Config) : Option (List UInt8 × Bool) := callC tn 104 [dA .Nominator a,dA .Config b] [] o13'
def z3c (a : Trust) : Option (Trust) := callC tn 100 [dA .Trust a] [] o14'
def z1b (a : List (List UInt8)) : Option (Unit × List (List UInt8)) := callC tn 101 [.d (.lf (.l (c := .s) a))] [] ⟨[.ref 0],[[.own .s false]]⟩
def z1e (a : List Int) : Option (Bool) := callC tn 134 [.d (.lf (.l (c := .i64) a)),.fn 135 []] [] o0'
def z5s (a : List Int) : Option (Int × Int) := callC tn 137 [.d (.lf (.l (c := .i64) a))] [] o3'
def z4z (a : Trust) (b c d : Int) : Option (Int × Int) := callC tn 139 [dA .Trust a,dI b,dI c,dI d] [] o3'
def z4y (a : Int) : Option (List Int) := callC tn 140 [dI a] [] o17'
def z1g (a : List Nomination) : Option (Unit × List Nomination) := callC tn 71 [.d (.lf (.l (c := .Nomination) a))] [] ⟨[.ref 0],[[.own .Nomination false]]⟩
def z4r (a : Nominator) : Option (Nomination) := callC tn 65 [dA .Nominator a] [] o18'
def z41 (a : List Nomination) : Option (List (List UInt8)) := callC tn 141 [.d (.lf (.l (c := .Nomination) a))] [] o5'
def z32 (a : List Int) : Option (Unit × List Int) := callC tn 138 [.d (.lf (.l (c := .i64) a))] [] ⟨[.ref 0],[[.own .i64 false]]⟩
def z1l (a : List Int) : Option (Int) := callC tn 163 [.d (.lf (.l (c := .i64) a)),.fn 135 []] [] o1'
def z5c (a : Trust) (b c d : Int) : Option (Int) := callC tn 164 [dA .Trust a,dI b,dI c,dI d] [] o1'
def z1r (a : Int) (b : List Int) (c e f g h i : Int) (j : List Int) (k : List Trust) (l : List UInt8) (m n o : List (List UInt8)) (p : List Nomination) : Option (Bool) := gp 5 Tryz.f5 0 o0' [1,1,1,1,0,1,0] [2] ⟨[(3,fP 0),(4,fP 1),(6,fI a)],[[dL .i64 b,dI c],[dI e,dI f,dI g,dI h,dI i,dL .i64 j,dL .Trust k,.d (.lf (.s l)),dL .s m,dL .s n,dL .s o,dL .Nomination p]]⟩
def law22_step (a : Nominator) (b e : Int) (f : List Int) (g : Int) : Option (Nominator × Int × List Int × Int) := callC tn 28 [.ptr 0 0,dA .Nominator a,dI b,dI e] [[.d (.lf (.l (c := .i64) f)),dI g]] o27'
def z5m (a : Nominator) : Option (Bool) := callC tn 29 [dA .Nominator a] [] o0'
def z2r (a : Nominator) : Option (Bool) := callC tn 30 [dA .Nominator a] [] o0'
def law22_kept (a b : List (List UInt8)) : Option (Bool) := callC tn 26 [.d (.lf (.l (c := .s) a)),.d (.lf (.l (c := .s) b))] [] o0'
def z5t (a b : Nominator) : Option (Bool) := callC tn 31 [dA .Nominator a,dA .Nominator b] [] o0'
def law22_awake  : Option (Bool) := callC tn 14 [] [] o0'
def z50 (a : Nominator) : Option (Nominator × Int) := callC tn 19 [dA .Nominator a] [] o11'
def z4b (a : Nominator) (b : Trust) : Option (Nominator × Int) := callC tn 46 [dA .Nominator a,dA .Trust b] [] o11'
def z5d (a : Int) (b : List Int) (e : Int) : Option (Nomination × List Int × Int) := callC tn 22 [.ptr 0 0,dI a] [[.d (.lf (.l (c := .i64) b)),dI e]] o28'
def z51 (a : Nominator) (b : Nomination) : Option (Nominator × Int) := callC tn 23 [dA .Nominator a,dA .Nomination b] [] o11'
def z48 (a : List (List UInt8)) : Option (Bool) := callC tn 76 [.d (.lf (.l (c := .s) a))] [] o0'
def z4c (a : Nominator) : Option (Bool) := callC tn 78 [dA .Nominator a] [] o0'
def z2o (a : List (List UInt8)) : Option (Bool) := callC tn 79 [.d (.lf (.l (c := .s) a))] [] o0'
def z18 (a : List (List UInt8)) (b e f g h : Int) (i : List Int) (j : List Trust) (k : List UInt8) (m n o : List (List UInt8)) (p : List Nomination) : Option (Bool × Int × Int × Int × Int × Int × List Int × List Trust × List UInt8 × List (List UInt8) × List (List UInt8) × List (List UInt8) × List Nomination) := callC tn 80 [.d (.lf (.l (c := .s) a)),.fn 81 [(0,0)]] [[dI b,dI e,dI f,dI g,dI h,.d (.lf (.l (c := .i64) i)),.d (.lf (.l (c := .Trust) j)),.d (.lf (.s k)),.d (.lf (.l (c := .s) m)),.d (.lf (.l (c := .s) n)),.d (.lf (.l (c := .s) o)),.d (.lf (.l (c := .Nomination) p))]] o19'
def z3o (a b : Trust) : Option (Bool) := callC tn 83 [dA .Trust a,dA .Trust b] [] o0'
def z4p (a b : List (List UInt8)) : Option (Bool) := callC tn 84 [.d (.lf (.l (c := .s) a)),.d (.lf (.l (c := .s) b))] [] o0'
def z30 (a : List (List UInt8)) : Option (List UInt8 × Bool) := callC tn 25 [.d (.lf (.l (c := .s) a))] [] o13'
def z22 (a b : Nominator) : Option (Nominator) := callC tn 63 [dA .Nominator a,dA .Nominator b] [] o6'
def z3g (a b : Trust) : Option (Bool) := callC tn 92 [dA .Trust a,dA .Trust b] [] o0'
def z5r (a : Int) (b : List Int) (e : Int) : Option (List (List UInt8) × List Int × Int) := callC tn 67 [.ptr 0 0,dI a] [[.d (.lf (.l (c := .i64) b)),dI e]] o20'
def z42 (a : Nomination) : Option (Bool) := callC tn 43 [dA .Nomination a] [] o0'
def z14 (a : List Nomination) (b : Int) : Option (Int × Bool) := callC tn 68 [.d (.lf (.l (c := .Nomination) a)),dI b,.fn 69 []] [] o7'
def z3p (a : Int) (b e : List Nomination) : Option (List Nomination × Unit) := callC tn 72 [.ref 0,dI a,.d (.lf (.l (c := .Nomination) b))] [[.own .Nomination e false]] ⟨[.lf (.l .Nomination)],[[.undef]]⟩
def z1c (a : List (List UInt8)) (b e f g h : Int) (i : List Int) (j : List Trust) (k : List UInt8) (m n o : List (List UInt8)) (p : List Nomination) : Option (Int × Int × Int × Int × Int × Int × List Int × List Trust × List UInt8 × List (List UInt8) × List (List UInt8) × List (List UInt8) × List Nomination) := callC tn 121 [.d (.lf (.l (c := .s) a)),.fn 81 [(0,0)]] [[dI b,dI e,dI f,dI g,dI h,.d (.lf (.l (c := .i64) i)),.d (.lf (.l (c := .Trust) j)),.d (.lf (.s k)),.d (.lf (.l (c := .s) m)),.d (.lf (.l (c := .s) n)),.d (.lf (.l (c := .s) o)),.d (.lf (.l (c := .Nomination) p))]] o21'
def z5l (a b : List Int) : Option (Bool) := callC tn 123 [.d (.lf (.l (c := .i64) a)),.d (.lf (.l (c := .i64) b))] [] o0'
def z1u (a b : List (List UInt8)) : Option (Bool) := callC tn 89 [.d (.lf (.l (c := .s) a)),.d (.lf (.l (c := .s) b))] [] o0'
def z33 (a b : List Int) : Option (Bool) := callC tn 131 [.d (.lf (.l (c := .i64) a)),.d (.lf (.l (c := .i64) b))] [] o0'
def z19 (a b : List Trust) : Option (Bool) := callC tn 132 [.d (.lf (.l (c := .Trust) a)),.d (.lf (.l (c := .Trust) b)),.fn 92 []] [] o0'
def z49 (a b : Int) (c : List Int) (d e : Int) (f : List Int) (g h : Int) (i : List Int) (j : List Trust) (k : Int) (l : List Int) (m : List Trust) : Option (Trust × List Int × Int) := gp 74 Tryz.f74 1 o10' [1,1,1,0,1,0] [3] ⟨[(0,fP 0),(1,fI a),(2,fI b),(6,fP 1),(7,fP 2),(20,fL .i64 c),(21,fI d),(22,fI e)],[[dL .i64 f,dI g],[dI h,.own .i64 i false,.own .Trust j false],[dI k,.own .i64 l false,.own .Trust m false]]⟩
def z5i (a b : List Int) (e : Int) : Option (Int × List Int × Int) := callC tn 16 [.ptr 0 0,.d (.lf (.l (c := .i64) a))] [[.d (.lf (.l (c := .i64) b)),dI e]] o15'
def z28 (a : List UInt8) (b : Bool) (c e f g h : Int) (i : List Int) (j : List Trust) (k : List UInt8) (l m n : List (List UInt8)) (o : List Nomination) (p q r t u : Int) (v : List Int) (w : List Trust) (x : List UInt8) (y z A : List (List UInt8)) (B : List Nomination) (C : List Member) : Option (Nominator) := gp 58 Tryz.f58 0 o6' [1,1,1,0,1,0] [3] ⟨[(1,fP 0),(2,fP 1),(3,fP 2),(4,.fl (.d (.lf (.s a)))),(5,fB b)],[[dI c,dI e,dI f,dI g,dI h,dL .i64 i,dL .Trust j,.d (.lf (.s k)),dL .s l,dL .s m,dL .s n,dL .Nomination o],[dI p,dI q,dI r,dI t,dI u,.own .i64 v false,.own .Trust w false,.d (.lf (.s x)),.own .s y false,.own .s z false,.own .s A false,.own .Nomination B false],[dL .Member C]]⟩
def z3h (a : List (List UInt8)) (b : List UInt8) : Option (List (List UInt8)) := callC tn 105 [.d (.lf (.l (c := .s) a)),.d (.lf (.s b))] [] o5'
def z0w (a : List (List UInt8)) (b : List UInt8) : Option (Int × Bool) := callC tn 144 [.d (.lf (.l (c := .s) a)),.d (.lf (.s b)),.fn 50 []] [] o7'
def z52 (a : Int) (b e : List (List UInt8)) : Option (List (List UInt8) × Unit) := callC tn 145 [.ref 0,dI a,.d (.lf (.l (c := .s) b))] [[.own .s e false]] ⟨[.lf (.l .s)],[[.undef]]⟩
def z2j (a : List Nomination) (b c e f g h i : Int) (j : List Int) (k : List Trust) (l : List UInt8) (m n o : List (List UInt8)) (p : List Nomination) (q r t u v : Int) (w : List Int) (x : List Trust) (y : List UInt8) (z A B : List (List UInt8)) (C : List Nomination) : Option (Nominator) := gp 57 Tryz.f57 0 o6' [1,1,1,1,0,1,0] [2] ⟨[(1,fP 0),(2,fP 1),(25,fL .Nomination a),(26,fI b),(27,fI c)],[[dI e,dI f,dI g,dI h,dI i,dL .i64 j,dL .Trust k,.d (.lf (.s l)),.own .s m false,.own .s n false,.own .s o false,.own .Nomination p false],[dI q,dI r,dI t,dI u,dI v,.own .i64 w false,.own .Trust x false,.d (.lf (.s y)),.own .s z false,.own .s A false,.own .s B false,.own .Nomination C false]]⟩
def z2d (a : Nomination) : Option (Nomination) := callC tn 64 [dA .Nomination a] [] o18'
def z3d (a : Int) (b : List Int) (c : Int) (d : List Int) (e : Int) : Option (List Int × List Int × Int) := gp 117 Tryz.f117 1 o16' [1,1,0,1,0] [1] ⟨[(0,fP 0),(1,fI a),(5,.fl (.own .i64 b false)),(6,fI c)],[[dL .i64 d,dI e]]⟩
def z43 (a : Int) (b : List Trust) (c d e : Int) (f : List Int) (g : List Trust) : Option (Int) := gp 118 Tryz.f118 0 o1' [1,1,0,1,0] [1] ⟨[(3,fI a),(7,fL .Trust b),(8,fI c),(9,fI d)],[[dI e,dL .i64 f,dL .Trust g]]⟩
def z4j (a : Int) (b : List Trust) (c d e : Int) (f : List Int) (g : List Trust) : Option (Int) := gp 119 Tryz.f119 0 o1' [1,1,0,1,0] [1] ⟨[(3,fI a),(14,fL .Trust b),(15,fI c),(16,fI d)],[[dI e,dL .i64 f,dL .Trust g]]⟩
def z1x (a : List Int) (b c d : Int) (e : List Int) (f : List Trust) : Option (Int) := gp 120 Tryz.f120 0 o1' [1,1,0,1,0] [1] ⟨[(1,fP 0),(26,fL .i64 a),(27,fI b),(28,fI c)],[[dI d,dL .i64 e,dL .Trust f]]⟩
def z5q (a : List Int) : Option (Int × Int) := callC tn 157 [.d (.lf (.l (c := .i64) a))] [] o3'
def z2s (a : Int) (b : List Trust) (c d e : Int) (f : List Int) (g : List Trust) : Option (Int) := gp 97 Tryz.f97 0 o1' [1,1,0,1,0] [1] ⟨[(3,fI a),(7,fL .Trust b),(8,fI c),(9,fI d)],[[dI e,dL .i64 f,dL .Trust g]]⟩
def z35 (a : Int) (b : List Trust) (c d e : Int) (f : List Int) (g : List Trust) : Option (Int) := gp 98 Tryz.f98 0 o1' [1,1,0,1,0] [1] ⟨[(3,fI a),(14,fL .Trust b),(15,fI c),(16,fI d)],[[dI e,dL .i64 f,dL .Trust g]]⟩
def z2t (a : List Trust) (b c d : Int) (e : List Int) (f : List Trust) : Option (Int) := gp 99 Tryz.f99 0 o1' [1,1,1,1,0,1,0] [1] ⟨[(36,fL .Trust a),(37,fI b),(38,fI c)],[[dI d,dL .i64 e,dL .Trust f]]⟩
def z1s (a : List (List UInt8)) (b : List Int) (c e f g h i j : Int) (k : List Int) (l : List Trust) (m : List UInt8) (n o p : List (List UInt8)) (q : List Nomination) : Option (List (List UInt8)) := gp 102 Tryz.f102 0 o5' [1,1,1,0,1,0] [1] ⟨[(1,fP 0),(3,fL .s a),(27,fL .i64 b),(28,fI c),(29,fI e)],[[dI f,dI g,dI h,dI i,dI j,dL .i64 k,dL .Trust l,.d (.lf (.s m)),dL .s n,dL .s o,dL .s p,dL .Nomination q]]⟩
def z2u (a : List Message) (b : List Nomination) (c e f g h i j : Int) (k : List Int) (l : List Trust) (m : List UInt8) (n o p : List (List UInt8)) (q : List Nomination) (r : List Member) : Option (Config) := gp 103 Tryz.f103 0 o12' [1,1,0,1,0] [2] ⟨[(1,fP 0),(2,fP 1),(3,.fl (.own .Message a false)),(7,fL .Nomination b),(8,fI c),(9,fI e)],[[dI f,dI g,dI h,dI i,dI j,dL .i64 k,dL .Trust l,.d (.lf (.s m)),dL .s n,dL .s o,dL .s p,dL .Nomination q],[.own .Member r false]]⟩
def z56 (a : Int) (b : Trust) (e : List Message) : Option (Config) := callC tn 142 [dI a,dA .Trust b,.d (.lf (.l (c := .Message) e))] [] o12'
def z24 (a : List Nomination) (b : List (List UInt8)) (c e f g h i j : Int) (k : List Int) (l : List Trust) (m : List UInt8) (n o p : List (List UInt8)) (q : List Nomination) (r : List Member) : Option (List UInt8 × Bool) := gp 104 Tryz.f104 0 o13' [1,1,0,1,0] [2] ⟨[(2,fP 0),(3,fP 1),(6,fL .Nomination a),(19,fL .s b),(20,fI c),(21,fI e)],[[dI f,dI g,dI h,dI i,dI j,dL .i64 k,dL .Trust l,.d (.lf (.s m)),dL .s n,dL .s o,dL .s p,dL .Nomination q],[dL .Member r]]⟩
def z3s (a : List Nomination) (b : List UInt8) : Option (Int × Int) := callC tn 106 [.d (.lf (.l (c := .Nomination) a)),.d (.lf (.s b))] [] o3'
def z31 (a : List (List UInt8)) (b : List UInt8) : Option (Bool) := callC tn 82 [.d (.lf (.l (c := .s) a)),.d (.lf (.s b))] [] o0'
def z3t (a : Config) (b c d : Int) : Option (Bool) := callC tn 143 [dA .Config a,dI b,dI c,dI d] [] o0'
def z1z (a : List (List UInt8)) (b : List UInt8) : Option (Bool) := callC tn 122 [.d (.lf (.l (c := .s) a)),.d (.lf (.s b))] [] o0'
def z27 (a : Int) : Option (Bool) := callC tn 171 [dI a] [] o0'
def z4i (a : Config) (b c : Int) : Option (Bool) := callC tn 172 [dA .Config a,dI b,dI c] [] o0'
def z44 (a : Config) (b : Int) : Option (Int) := callC tn 147 [dA .Config a,dI b] [] o1'
def z3m (a b : Int) : Option (Bool) := callC tn 146 [dI a,dI b] [] o0'
def z25 (a : List (List UInt8)) (b : List UInt8) : Option (Int) := callC tn 158 [.d (.lf (.l (c := .s) a)),.d (.lf (.s b))] [] o1'
def z4k (a b : Int) : Option (Bool) := callC tn 191 [dI a,dI b] [] o0'
def z2h (a : Config) : Option (Int) := callC tn 192 [dA .Config a] [] o1'
def z2k (a : Trust) (b : Int) : Option (Bool) := callC tn 193 [dA .Trust a,dI b] [] o0'
def z4m (a : Config) (b : Int) : Option (Int × List Int) := callC tn 175 [dA .Config a,dI b] [] o22'
def z2l (a : List Trust) (b c d : Int) (e : List Int) (f : List Trust) (g : Int) (h : List Int) (i : List Trust) (j : Int) (k : List Int) (l : List Trust) : Option (Trust) := gp 100 Tryz.f100 0 o14' [1,1,0,1,0] [3] ⟨[(2,fP 1),(3,fP 2),(13,fL .Trust a),(14,fI b),(15,fI c)],[[dI d,dL .i64 e,dL .Trust f],[dI g,.own .i64 h false,.own .Trust i false],[dI j,.own .i64 k false,.own .Trust l false]]⟩
def z3a (a : Int) (b : List Int) (c d : Int) : Option (Int × Int) := gp 137 Tryz.f137 0 o3' [1,1,0,1,0] [0] ⟨[(4,fI a),(7,fL .i64 b),(8,fI c),(9,fI d)],[]⟩
def z2v (a b c d e f : Int) (g : List Int) (h : List Trust) : Option (Int × Int) := gp 139 Tryz.f139 0 o3' [1,1,1,0,1,0] [1] ⟨[(1,fI a),(2,fI b),(4,fP 0),(11,fI c),(21,fI d),(22,fI e)],[[dI f,dL .i64 g,dL .Trust h]]⟩
def z45 (a : Trust) (b c d : Int) : Option (Int) := callC tn 165 [dA .Trust a,dI b,dI c,dI d] [] o1'
def z2w (a : Int) (b : List Int) (c : Int) : Option (List Int) := gp 140 Tryz.f140 0 o17' [1,1,0,1,0] [0] ⟨[(0,fI a),(3,.fl (.own .i64 b false)),(5,fI c)],[]⟩
def z36 (a : List (List UInt8)) (b : List Nomination) (c d : Int) : Option (List (List UInt8)) := gp 141 Tryz.f141 0 o5' [1,1,0,1,0] [0] ⟨[(3,.fl (.own .s a false)),(6,fL .Nomination b),(7,fI c),(8,fI d)],[]⟩
def z1a (a : List (List UInt8)) : Option (List (List UInt8)) := callC tn 166 [.ref 0,.fn 50 []] [[.own .s a false]] o2'
def z4x (a : List (List UInt8)) : Option (List (List UInt8) × Unit) := callC tn 167 [.ref 0] [[.own .s a false]] ⟨[.lf (.l .s)],[[.undef]]⟩
def z5w (a : Int) : Option (Int) := callC tn 189 [.d (.lf (.i .u64 a))] [] o1'
def z01 (a b c : Int) (d : List (List UInt8)) : Option (List (List UInt8)) := callC tn 188 [.ref 0,dI a,dI b,dI c,.fn 50 []] [[.own .s d false]] o2'
def z5u (a : Int) : Option (Int) := callC tn 210 [.d (.lf (.i .u64 a))] [] o1'
def z0p (a : List Int) (b c : Int) : Option (Int) := gp 163 Tryz.f163 0 o1' [1,0,1,0] [0] ⟨[(0,fL .i64 a),(1,.fl (.fn 135 [])),(7,fI b),(8,fI c)],[]⟩
def z4n (a : Int) : Option (Bool) := callC tn 135 [dI a] [] o0'
def z57 (a : Int) : Option (Bool) := callC tn 136 [dI a] [] o0'
def z3i (a : List (List UInt8)) (b c e f g h i : Int) (j : List Int) (k : List Trust) (l : List UInt8) (m n o : List (List UInt8)) (p : List Nomination) : Option (Bool) := gp 29 Tryz.f29 0 o0' [1,1,1,0,1,0] [1] ⟨[(1,fP 0),(74,fL .s a),(75,fI b),(76,fI c)],[[dI e,dI f,dI g,dI h,dI i,dL .i64 j,dL .Trust k,.d (.lf (.s l)),dL .s m,dL .s n,dL .s o,dL .Nomination p]]⟩
def z5x (a : List (List UInt8)) (b : List UInt8) : Option (Bool) := callC tn 77 [.d (.lf (.l (c := .s) a)),.d (.lf (.s b))] [] o0'
def z1n (a : List Nomination) (b c e f g h i : Int) (j : List Int) (k : List Trust) (l : List UInt8) (m n o : List (List UInt8)) (p : List Nomination) : Option (Bool) := gp 30 Tryz.f30 0 o0' [1,1,1,1,0,1,0] [1] ⟨[(1,fP 0),(41,fL .Nomination a),(42,fI b),(43,fI c)],[[dI e,dI f,dI g,dI h,dI i,dL .i64 j,dL .Trust k,.d (.lf (.s l)),dL .s m,dL .s n,dL .s o,dL .Nomination p]]⟩
def z3w (a b : List (List UInt8)) (c d : Int) : Option (Bool) := gp 26 Tryz.f26 0 o0' [1,0,1,0] [0] ⟨[(1,fL .s a),(10,fL .s b),(11,fI c),(12,fI d)],[]⟩
def z3x (a b c e f g h : Int) (i : List Int) (j : List Trust) (k : List UInt8) (l m n : List (List UInt8)) (o : List Nomination) (p q r t u : Int) (v : List Int) (w : List Trust) (x : List UInt8) (y z A : List (List UInt8)) (B : List Nomination) : Option (Bool) := gp 31 Tryz.f31 0 o0' [1,1,0,1,0] [2] ⟨[(2,fP 0),(3,fP 1),(82,fI a),(83,fI b)],[[dI c,dI e,dI f,dI g,dI h,dL .i64 i,dL .Trust j,.d (.lf (.s k)),dL .s l,dL .s m,dL .s n,dL .Nomination o],[dI p,dI q,dI r,dI t,dI u,dL .i64 v,dL .Trust w,.d (.lf (.s x)),dL .s y,dL .s z,dL .s A,dL .Nomination B]]⟩
def z3q (a b : Nomination) : Option (Bool) := callC tn 39 [dA .Nomination a,dA .Nomination b] [] o0'
def z2i (a b : List (List UInt8)) (c d : Int) : Option (Bool) := gp 76 Tryz.f76 0 o0' [1,0,1,0] [0] ⟨[(0,fL .s a),(5,fL .s b),(6,fI c),(7,fI d)],[]⟩
def z5n (a : List UInt8) : Option (Bool) := callC tn 93 [.d (.lf (.s a))] [] o0'
def z5e (a b : List UInt8) : Option (Int) := callC tn 51 [.d (.lf (.s a)),.d (.lf (.s b))] [] o1'
def z1v (a b : List (List UInt8)) (c d : Int) : Option (Bool) := gp 79 Tryz.f79 0 o0' [1,0,1,0] [0] ⟨[(0,fL .s a),(5,fL .s b),(6,fI c),(7,fI d)],[]⟩
def z46 (a : List UInt8) : Option (Bool) := callC tn 73 [.d (.lf (.s a))] [] o0'
def z06 (a b : List UInt8) : Option (Int) := callC tn 50 [.d (.lf (.s a)),.d (.lf (.s b))] [] o1'
def z2x (a b : Int) : Option (Int) := callC tn 70 [dI a,dI b] [] o1'
def z40 (a b : List UInt8) : Option (Int) := callC tn 95 [.d (.lf (.s a)),.d (.lf (.s b))] [] o1'
def z5g (a : List Int) : Option (Int) := callC tn 94 [.d (.lf (.l (c := .i64) a))] [] o1'
def z4s (a : Int) : Option (Bool) := callC tn 114 [dI a] [] o0'
def z3u (a : List UInt8) : Option (Bool) := callC tn 133 [.d (.lf (.s a))] [] o0'
def z3b (a b c : Int) (d : List Int) (e : List Trust) (f : Int) (g : List Int) (h : List Trust) : Option (Bool) := gp 83 Tryz.f83 0 o0' [1,1,0,1,0] [2] ⟨[(2,fP 0),(3,fP 1),(30,fI a),(31,fI b)],[[dI c,dL .i64 d,dL .Trust e],[dI f,dL .i64 g,dL .Trust h]]⟩
def z4l (a b : List (List UInt8)) (c d : Int) : Option (Bool) := gp 84 Tryz.f84 0 o0' [1,1,0,1,0] [0] ⟨[(0,fL .s a),(1,fL .s b),(12,fI c),(13,fI d)],[]⟩
def z1m (a : List UInt8) (b : List (List UInt8)) (c e : Int) : Option (List UInt8 × Bool) := gp 25 Tryz.f25 0 o13' [1,1,0,1,0] [0] ⟨[(4,.fl (.d (.lf (.s a)))),(7,fL .s b),(8,fI c),(9,fI e)],[]⟩
def z2y (a : Int) (b c : List (List UInt8)) (d e : Int) (f : List Int) (g : Int) : Option (List (List UInt8) × List Int × Int) := gp 67 Tryz.f67 1 o20' [1,1,0,1,0] [1] ⟨[(0,fP 0),(1,fI a),(5,.fl (.own .s b false)),(8,fL .s c),(9,fI d),(10,fI e)],[[dL .i64 f,dI g]]⟩
def z0f (a : List Nomination) (b c d e : Int) : Option (Int × Bool) := gp 68 Tryz.f68 0 o7' [1,1,1,0,0] [0] ⟨[(0,fL .Nomination a),(1,fI b),(2,.fl (.fn 69 [])),(8,fI c),(9,fI d),(10,fI e)],[]⟩
def z3v (a : Nomination) (b : Int) : Option (Int) := callC tn 69 [dA .Nomination a,dI b] [] o1'
def z0g (a : List (List UInt8)) (b c e f g h i : Int) (j : List Int) (k : List Trust) (l : List UInt8) (m n o : List (List UInt8)) (p : List Nomination) : Option (Int × Int × Int × Int × Int × Int × List Int × List Trust × List UInt8 × List (List UInt8) × List (List UInt8) × List (List UInt8) × List Nomination) := gp 121 Tryz.f121 1 o21' [1,0,1,0] [1] ⟨[(0,fL .s a),(1,.fl (.fn 81 [(0,0)])),(7,fI b),(8,fI c)],[[dI e,dI f,dI g,dI h,dI i,dL .i64 j,dL .Trust k,.d (.lf (.s l)),dL .s m,dL .s n,dL .s o,dL .Nomination p]]⟩
def z4d (a : List UInt8) (b e f g h : Int) (i : List Int) (j : List Trust) (k : List UInt8) (m n o : List (List UInt8)) (p : List Nomination) : Option (Bool × Int × Int × Int × Int × Int × List Int × List Trust × List UInt8 × List (List UInt8) × List (List UInt8) × List (List UInt8) × List Nomination) := callC tn 81 [.d (.lf (.s a)),.ptr 0 0] [[dI b,dI e,dI f,dI g,dI h,.d (.lf (.l (c := .i64) i)),.d (.lf (.l (c := .Trust) j)),.d (.lf (.s k)),.d (.lf (.l (c := .s) m)),.d (.lf (.l (c := .s) n)),.d (.lf (.l (c := .s) o)),.d (.lf (.l (c := .Nomination) p))]] o19'
def z3y (a b : List Int) (c d : Int) : Option (Bool) := gp 123 Tryz.f123 0 o0' [1,1,0,1,0] [0] ⟨[(0,fL .i64 a),(1,fL .i64 b),(12,fI c),(13,fI d)],[]⟩
def z1h (a b : List (List UInt8)) (c d : Int) : Option (Bool) := gp 89 Tryz.f89 0 o0' [1,1,0,1,0] [0] ⟨[(0,fL .s a),(1,fL .s b),(12,fI c),(13,fI d)],[]⟩
def z1t (a b : List Int) (c d : Int) : Option (Bool) := gp 131 Tryz.f131 0 o0' [1,1,0,1,0] [0] ⟨[(0,fL .i64 a),(1,fL .i64 b),(12,fI c),(13,fI d)],[]⟩
def z0k (a b : List Trust) (c d : Int) : Option (Bool) := gp 132 Tryz.f132 0 o0' [1,1,0,1,0] [0] ⟨[(1,fL .Trust a),(2,.fl (.fn 92 [])),(15,fL .Trust b),(16,fI c),(17,fI d)],[]⟩
def z4a (a b c : Int) (d : List Int) (e f : Int) (g : List Int) (h : List Trust) (i : Int) (j : List Int) (k : List Trust) : Option (Trust × List Int × Int) := gp 74 Tryz.f74 1 o10' [1,1,1,1,0,1,0,0,1,0] [3] ⟨[(0,fP 0),(1,fI a),(2,fI b),(6,fP 1),(7,fP 2),(11,fI c)],[[dL .i64 d,dI e],[dI f,.own .i64 g false,.own .Trust h false],[dI i,.own .i64 j false,.own .Trust k false]]⟩
def z21 (a : List Nomination) (b : List (List UInt8)) (c e f g h i j : Int) (k : List Int) (l : List Trust) (m : List UInt8) (n o p : List (List UInt8)) (q : List Nomination) (r t u v w : Int) (x : List Int) (y : List Trust) (z : List UInt8) (A B C : List (List UInt8)) (D : List Nomination) (E : List Member) : Option (Nominator) := gp 58 Tryz.f58 0 o6' [1,1,1,1,1,0,1,0] [3] ⟨[(1,fP 0),(2,fP 1),(3,fP 2),(6,fL .Nomination a),(46,fL .s b),(47,fI c),(48,fI e)],[[dI f,dI g,dI h,dI i,dI j,dL .i64 k,dL .Trust l,.d (.lf (.s m)),dL .s n,dL .s o,dL .s p,dL .Nomination q],[dI r,dI t,dI u,dI v,dI w,.own .i64 x false,.own .Trust y false,.d (.lf (.s z)),.own .s A false,.own .s B false,.own .s C false,.own .Nomination D false],[dL .Member E]]⟩
def z3j (a : Config) (b c : Int) : Option (Bool) := callC tn 107 [dA .Config a,dI b,dI c] [] o0'
def z0c (a : List (List UInt8)) (b : List UInt8) (c e f : Int) : Option (Int × Bool) := gp 144 Tryz.f144 0 o7' [1,1,1,0,0] [0] ⟨[(0,fL .s a),(1,.fl (.d (.lf (.s b)))),(2,.fl (.fn 50 [])),(8,fI c),(9,fI e),(10,fI f)],[]⟩
def z3e (a : List Int) (b : Int) (c : List Int) (d : Int) : Option (List Int × List Int × Int) := gp 117 Tryz.f117 1 o16' [1,1,1,0,1,0] [1] ⟨[(0,fP 0),(5,.fl (.own .i64 a false)),(7,fI b)],[[dL .i64 c,dI d]]⟩
def z1y (a : List Trust) (b c d : Int) (e : List Int) (f : List Trust) : Option (Int) := gp 120 Tryz.f120 0 o1' [1,1,1,1,0,1,0] [1] ⟨[(49,fL .Trust a),(50,fI b),(51,fI c)],[[dI d,dL .i64 e,dL .Trust f]]⟩
def z2a (a : Int) (b : List Int) (c d : Int) : Option (Int × Int) := gp 157 Tryz.f157 0 o3' [1,1,0,1,0] [0] ⟨[(4,fI a),(7,fL .i64 b),(8,fI c),(9,fI d)],[]⟩
def z5y (a b : Int) : Option (Bool) := callC tn 21 [dI a,dI b] [] o0'
def z5o (a : Int) : Option (Bool) := callC tn 66 [dI a] [] o0'
def z20 (a : List (List UInt8)) (b : Int) (c : List Int) (e f : Int) (g : List Nomination) (h i j k l m n : Int) (o : List Int) (p : List Trust) (q : List UInt8) (r t u : List (List UInt8)) (v : List Nomination) : Option (List (List UInt8)) := gp 102 Tryz.f102 0 o5' [1,1,1,0,1,0,0,1,1,0,0,1,1,1,0] [1,1,1,1] ⟨[(1,fP 0),(3,fL .s a),(7,fI b),(27,fL .i64 c),(28,fI e),(29,fI f),(45,fL .Nomination g),(46,fI h),(47,fI i)],[[dI j,dI k,dI l,dI m,dI n,dL .i64 o,dL .Trust p,.d (.lf (.s q)),dL .s r,dL .s t,dL .s u,dL .Nomination v]]⟩
def z26 (a : Int) (b : List Message) (c d e : Int) (f : List Int) (g : List Trust) (h i : List Member) : Option (Config) := gp 142 Tryz.f142 0 o12' [1,1,0,1,0] [3] ⟨[(0,fI a),(4,fP 0),(6,fP 1),(7,fP 2),(12,fL .Message b),(13,fI c),(14,fI d)],[[dI e,dL .i64 f,dL .Trust g],[.own .Member h false],[.own .Member i false]]⟩
def z53 (a : Message) : Option (Bool) := callC tn 168 [dA .Message a] [] o0'
def z3f (a : Trust) : Option (Trust) := callC tn 169 [dA .Trust a] [] o14'
def z4t (a : Int) : Option (Bool) := callC tn 170 [dI a] [] o0'
def z58 (a : List Claim) : Option (Bool) := callC tn 190 [.d (.lf (.l (c := .Claim) a))] [] o0'
def z1p (a : List UInt8) (b c : Int) (e : List Nomination) (f g : Int) : Option (Int × Int) := gp 106 Tryz.f106 0 o3' [1,0,1,0] [0] ⟨[(1,.fl (.d (.lf (.s a)))),(4,fI b),(5,fI c),(8,fL .Nomination e),(9,fI f),(10,fI g)],[]⟩
def z1f (a : List (List UInt8)) (b : List UInt8) (c e : Int) : Option (Int) := gp 158 Tryz.f158 0 o1' [1,0,1,0] [0] ⟨[(0,fL .s a),(1,.fl (.d (.lf (.s b)))),(7,fI c),(8,fI e)],[]⟩
def z1i (a : Int) (b : List Member) (c d : Int) (e : List Member) : Option (Int) := gp 192 Tryz.f192 0 o1' [1,1,0,1,0] [1] ⟨[(3,fI a),(7,fL .Member b),(8,fI c),(9,fI d)],[[dL .Member e]]⟩
def z1w (a b : Int) (c : List Int) (d e f : Int) (g : List Int) (h : List Trust) : Option (Bool) := gp 193 Tryz.f193 0 o0' [1,1,1,0,1,0] [1] ⟨[(1,fI a),(2,fP 0),(5,fI b),(14,fL .i64 c),(15,fI d),(16,fI e)],[[dI f,dL .i64 g,dL .Trust h]]⟩
def z2e (a : Int) (b : List Int) (c : List Member) : Option (Int × List Int) := gp 175 Tryz.f175 0 o22' [1,1,1,1,0] [1] ⟨[(1,fI a),(2,fP 0),(6,.fl (.own .i64 b false))],[[dL .Member c]]⟩
def z54 (a : Config) (b : Int) : Option (Int × Bool) := callC tn 195 [dA .Config a,dI b] [] o7'
def z1o (a b c e f g h : Int) (j : List Int) (k : List Trust) : Option (Int) := gp 165 Tryz.f165 0 o1' [1,1,0,1,0] [1] ⟨[(1,fI a),(2,fI b),(3,fI c),(4,fP 0),(9,fI e),(10,.fl (.d (.lf (.i .u32 f)))),(14,fI g)],[[dI h,dL .i64 j,dL .Trust k]]⟩
def z4o (a : Trust) (b c d e : Int) : Option (Bool) := callC tn 186 [dA .Trust a,dI b,dI c,dI d,dI e] [] o0'
def z4e (a b c d : Int) : Option (Int) := callC tn 187 [dI a,dI b,dI c,dI d] [] ⟨[.lf (.i .u32)],[]⟩
def z4u (a : Trust) (b : Int) : Option (Frac × Bool) := callC tn 200 [dA .Trust a,dI b] [] o23'
def z2g (a : List Int) (b : Int) : Option (Bool) := callC tn 218 [.d (.lf (.l (c := .i64) a)),dI b] [] o0'
def z34 (a : List Int) (b : Int) : Option (Int) := callC tn 224 [.d (.lf (.l (c := .i64) a)),dI b] [] o1'
def z00 (a b c : Int) (d e : Bool) (f : List (List UInt8)) : Option (List (List UInt8)) := gp 188 Tryz.f188 1 o2' [1,1,0] [1] ⟨[(0,.fl (.ref 0)),(1,fI a),(2,fI b),(3,fI c),(4,.fl (.fn 50 [])),(10,fB d),(11,fB e)],[[.own .s f false]]⟩
def z16 (a b : Int) (c : List (List UInt8)) : Option (List (List UInt8)) := callC tn 201 [.ref 0,dI a,dI b,.fn 50 []] [[.own .s c false]] o2'
def z1d (a b : Int) (c : List (List UInt8)) : Option (List (List UInt8)) := callC tn 202 [.ref 0,dI a,dI b,.fn 50 []] [[.own .s c false]] o2'
def z17 (a b : Int) (c : List (List UInt8)) : Option (List (List UInt8)) := callC tn 203 [.ref 0,dI a,dI b,.fn 50 []] [[.own .s c false]] o2'
def z0q (a b : Int) (c : List (List UInt8)) : Option (Int × Int × List (List UInt8)) := callC tn 204 [.ref 0,dI a,dI b,.fn 50 []] [[.own .s c false]] o29'
def z0m (a b : Int) (c : List (List UInt8)) : Option (List (List UInt8)) := callC tn 205 [.ref 0,dI a,dI b,.fn 50 []] [[.own .s c false]] o2'
def z09 (a b : Int) (c : List (List UInt8)) : Option (Bool × List (List UInt8)) := callC tn 206 [.ref 0,dI a,dI b,.fn 50 []] [[.own .s c false]] o8'
def z04 (a b c : Int) (d : List (List UInt8)) : Option (Int × List (List UInt8)) := callC tn 207 [.ref 0,dI a,dI b,dI c,.fn 50 []] [[.own .s d false]] o9'
def z02 (a b c : Int) (d : List (List UInt8)) : Option (Int × Bool × List (List UInt8)) := callC tn 208 [.ref 0,dI a,dI b,dI c,.fn 50 []] [[.own .s d false]] o4'
def z3k (a : Int) : Option (Int) := callC tn 220 [dI a] [] ⟨[.lf (.i .u64)],[]⟩
def z0l (a : Int) (b : List (List UInt8)) (c : Int) : Option (Int × List (List UInt8) × Int) := callC tn 222 [.ref 0,dI a,.ptr 1 0,.fn 50 []] [[.own .s b false],[dI c]] o24'
def z0y (a b c : Int) (d : List (List UInt8)) (e : Int) : Option (Int × List (List UInt8) × Int) := callC tn 223 [.ref 0,dI a,dI b,dI c,.ptr 1 0,.fn 50 []] [[.own .s d false],[dI e]] o24'
def z0z (a b : Int) (c : List (List UInt8)) (d : Int) : Option (Int × Int × List (List UInt8) × Int) := callC tn 225 [.ref 0,dI a,dI b,.ptr 1 0,.fn 50 []] [[.own .s c false],[dI d]] o30'
def z29 (a : List Nomination) (b c e f g h i : Int) (j : List Int) (k : List Trust) (l : List UInt8) (m n o : List (List UInt8)) (p : List Nomination) : Option (Bool) := gp 29 Tryz.f29 0 o0' [1,1,1,1,0,1,0] [1] ⟨[(1,fP 0),(87,fL .Nomination a),(88,fI b),(89,fI c)],[[dI e,dI f,dI g,dI h,dI i,dL .i64 j,dL .Trust k,.d (.lf (.s l)),dL .s m,dL .s n,dL .s o,dL .Nomination p]]⟩
def z5p (a : Nomination) : Option (Bool) := callC tn 44 [dA .Nomination a] [] o0'
def z4w (a : List UInt8) (b : List (List UInt8)) (c e : Int) : Option (Bool) := gp 77 Tryz.f77 0 o0' [1,0,1,0] [0] ⟨[(1,.fl (.d (.lf (.s a)))),(7,fL .s b),(8,fI c),(9,fI e)],[]⟩
def z3z (a : List (List UInt8)) (b : List UInt8) (c : Bool) (e : List (List UInt8)) (f g : Int) (h : List (List UInt8)) (i j : Int) : Option (Bool) := gp 26 Tryz.f26 0 o0' [1,0,1,0,0,1,1,0,0,1,1,0,1,0] [0,0,0,0] ⟨[(1,fL .s a),(6,.fl (.d (.lf (.s b)))),(7,fB c),(10,fL .s e),(11,fI f),(12,fI g),(16,fL .s h),(17,fI i),(18,fI j)],[]⟩
def z47 (a : Int) (b : List Int) (c d : Int) : Option (Int) := gp 94 Tryz.f94 0 o1' [1,1,0,1,0] [0] ⟨[(3,fI a),(6,fL .i64 b),(7,fI c),(8,fI d)],[]⟩
def z2m (a : List (List UInt8)) (b : Int) (c : List Int) (e f : Int) (g : List Nomination) (h i : Int) (j : List (List UInt8)) (k l m n o p q : Int) (r : List Int) (t : List Trust) (u : List UInt8) (v w x : List (List UInt8)) (y : List Nomination) (z A B : Int) (C : List Int) (D : List Trust) (E F : List (List UInt8)) : Option (List (List UInt8)) := gp 102 Tryz.f102 0 o5' [1,1,1,0,1,0,0,1,1,0,0,1,1,1,0,0,1,1,0,0,1,1,1,0] [1,1,1,1,1,1,2] ⟨[(1,fP 0),(3,fL .s a),(7,fI b),(27,fL .i64 c),(28,fI e),(29,fI f),(45,fL .Nomination g),(46,fI h),(47,fI i),(57,fL .s j),(58,fI k),(59,fI l)],[[dI m,dI n,dI o,dI p,dI q,dL .i64 r,dL .Trust t,.d (.lf (.s u)),dL .s v,dL .s w,dL .s x,dL .Nomination y],[dI z,dI A,dI B,dL .i64 C,dL .Trust D,dL .s E,dL .s F]]⟩
def z2n (a : List Trust) (b c d : Int) (e : List Int) (f : List Trust) (g : Int) (h : List Int) (i : List Trust) (j : Int) (k : List Int) (l : List Trust) : Option (Trust) := gp 169 Tryz.f169 0 o14' [1,1,0,1,0] [3] ⟨[(2,fP 1),(3,fP 2),(13,fL .Trust a),(14,fI b),(15,fI c)],[[dI d,dL .i64 e,dL .Trust f],[dI g,.own .i64 h false,.own .Trust i false],[dI j,.own .i64 k false,.own .Trust l false]]⟩
def z2b (a b : List Claim) (c d : Int) : Option (Bool) := gp 190 Tryz.f190 0 o0' [1,0,1,0] [0] ⟨[(0,fL .Claim a),(5,fL .Claim b),(6,fI c),(7,fI d)],[]⟩
def z5j (a : Claim) : Option (Bool) := callC tn 211 [dA .Claim a] [] o0'
def z59 (a b : Claim) : Option (Int) := callC tn 212 [dA .Claim a,dA .Claim b] [] o1'
def z1q (a b : Int) (c : List Trust) (d e f : Int) (g : List Int) (h : List Trust) : Option (Bool) := gp 193 Tryz.f193 0 o0' [1,1,1,1,0,1,0] [1] ⟨[(1,fI a),(2,fP 0),(5,fI b),(27,fL .Trust c),(28,fI d),(29,fI e)],[[dI f,dL .i64 g,dL .Trust h]]⟩
def z2z (a : Int) (b : List Int) (c d : Int) (e : List Member) : Option (Int × Bool) := gp 195 Tryz.f195 0 o7' [1,0,1,0] [1] ⟨[(1,fI a),(2,fP 0),(9,fL .i64 b),(10,fI c),(11,fI d)],[[dL .Member e]]⟩
def z55 (a : Config) (b c : Int) : Option (Bool) := callC tn 214 [dA .Config a,dI b,dI c] [] o0'
def z37 (a : Int) (b : List Trust) (c d e : Int) (f : List Int) (g : List Trust) (h i j k : Int) : Option (Frac × Bool) := gp 200 Tryz.f200 0 o23' [1,1,1,0,1,0] [3] ⟨[(1,fI a),(4,fP 1),(6,fP 2),(27,fL .Trust b),(28,fI c),(29,fI d)],[[dI e,dL .i64 f,dL .Trust g],[dI h,dI i],[dI j,dI k]]⟩
def z1k (a : List Int) (b c d : Int) : Option (Int) := gp 224 Tryz.f224 0 o1' [1,0,1,0] [0] ⟨[(0,fL .i64 a),(1,fI b),(7,fI c),(8,fI d)],[]⟩
def z0e (a b c : Int) (d : List (List UInt8)) : Option (List (List UInt8)) := gp 201 Tryz.f201 1 o2' [1,0] [1] ⟨[(0,.fl (.ref 0)),(1,fI a),(2,fI b),(3,.fl (.fn 50 [])),(8,fI c)],[[.own .s d false]]⟩
def z0r (a b c d : Int) (e : List (List UInt8)) : Option (List (List UInt8)) := gp 202 Tryz.f202 1 o2' [1,1,1,0,1,0] [1] ⟨[(0,.fl (.ref 0)),(3,.fl (.fn 50 [])),(8,fI a),(9,fI b),(10,fI c),(11,fI d)],[[.own .s e false]]⟩
def z15 (a b c : Int) (d : List (List UInt8)) : Option (List (List UInt8)) := callC tn 219 [.ref 0,dI a,dI b,dI c,.fn 50 []] [[.own .s d false]] o2'
def z0b (a b c e : Int) (f : List (List UInt8)) (g : Int) : Option (List (List UInt8)) := gp 203 Tryz.f203 1 o2' [1,1,0,1,1,1,0] [2] ⟨[(0,.fl (.ref 0)),(1,fI a),(8,fI b),(9,fP 1),(10,.fl (.d (.lf (.i .u64 c)))),(11,fI e)],[[.own .s f false],[.d (.lf (.i .u64 g))]]⟩
def z3r (a : Int) : Option (Int × Int) := callC tn 221 [.ptr 0 0] [[.d (.lf (.i .u64 a))]] o31'
def z0v (a b : Int) (c : List (List UInt8)) : Option (List (List UInt8)) := gp 205 Tryz.f205 1 o2' [1,1,0] [1] ⟨[(0,.fl (.ref 0)),(8,fI a),(9,fI b)],[[.own .s c false]]⟩
def z03 (a b c d : Int) (e : List (List UInt8)) : Option (Bool × List (List UInt8)) := gp 206 Tryz.f206 1 o8' [1,1,0,1,0] [1] ⟨[(0,.fl (.ref 0)),(1,fI a),(2,fI b),(3,.fl (.fn 50 [])),(9,fI c),(10,fI d)],[[.own .s e false]]⟩
def z0a (a b c : Int) (d : List (List UInt8)) : Option (Int × List (List UInt8)) := gp 207 Tryz.f207 1 o9' [1,1,1,0,0] [1] ⟨[(0,.fl (.ref 0)),(1,fI a),(4,.fl (.fn 50 [])),(11,fI b),(12,fI c)],[[.own .s d false]]⟩
def z10 (a b c : Int) (d : List (List UInt8)) : Option (Int × Bool × List (List UInt8)) := gp 208 Tryz.f208 1 o4' [1,1,1,0,0] [1] ⟨[(0,.fl (.ref 0)),(1,fI a),(4,.fl (.fn 50 [])),(12,fI b),(13,fI c)],[[.own .s d false]]⟩
def z0i (a b c d : Int) (e : List (List UInt8)) : Option (List (List UInt8)) := gp 201 Tryz.f201 1 o2' [1,0,0,1,0,0,1,0] [1,1,1,1] ⟨[(0,.fl (.ref 0)),(1,fI a),(2,fI b),(3,.fl (.fn 50 [])),(8,fI c),(9,fI d)],[[.own .s e false]]⟩
def z0s (a b c : Int) (d : List (List UInt8)) : Option (List (List UInt8)) := gp 202 Tryz.f202 1 o2' [1,1,1,1,1,0] [1] ⟨[(0,.fl (.ref 0)),(3,.fl (.fn 50 [])),(8,fI a),(9,fI b),(12,fI c)],[[.own .s d false]]⟩
def z0d (a b c : Int) (d : List (List UInt8)) : Option (List (List UInt8)) := gp 219 Tryz.f219 1 o2' [1,0] [1] ⟨[(0,.fl (.ref 0)),(2,fI a),(3,fI b),(4,.fl (.fn 50 [])),(10,fI c)],[[.own .s d false]]⟩
def z0x (a b c d : Int) (e : Bool) (f : List (List UInt8)) : Option (Bool × List (List UInt8)) := gp 206 Tryz.f206 1 o8' [1,1,0,1,0,0,1,0,0,0,0] [1,1,1,1] ⟨[(0,.fl (.ref 0)),(1,fI a),(2,fI b),(3,.fl (.fn 50 [])),(9,fI c),(10,fI d),(16,fB e)],[[.own .s f false]]⟩
def z0t (a b c : Int) (d : List (List UInt8)) : Option (Int × List (List UInt8)) := gp 207 Tryz.f207 1 o9' [1,1,1,0,0,0,0,0,0] [1,1,1,1] ⟨[(0,.fl (.ref 0)),(1,fI a),(4,.fl (.fn 50 [])),(11,fI b),(12,fI c)],[[.own .s d false]]⟩
def z0n (a b c : Int) (d : Bool) (e : List (List UInt8)) : Option (Int × Bool × List (List UInt8)) := gp 208 Tryz.f208 1 o4' [1,1,1,1,0,0] [1] ⟨[(0,.fl (.ref 0)),(1,fI a),(4,.fl (.fn 50 [])),(12,fI b),(13,fI c),(47,fB d)],[[.own .s e false]]⟩
def z0j (a b c d : Int) (e : List (List UInt8)) : Option (Bool × List (List UInt8)) := gp 206 Tryz.f206 1 o8' [1,1,0,1,0,0,1,0,0,0,0] [1,1,1,1] ⟨[(0,.fl (.ref 0)),(1,fI a),(2,fI b),(3,.fl (.fn 50 [])),(9,fI c),(10,fI d)],[[.own .s e false]]⟩
def z08 (a b c d e : Int) (f : List (List UInt8)) : Option (Bool × List (List UInt8)) := gp 206 Tryz.f206 1 o8' [1,1,0,1,0,0,1,0,0,1,1,1,1,0,1,0,1,0] [1,1,1,1] ⟨[(0,.fl (.ref 0)),(1,fI a),(2,fI b),(3,.fl (.fn 50 [])),(9,fI c),(10,fI d),(11,fI e)],[[.own .s f false]]⟩
def z05 (a b c d e : Int) (f : List (List UInt8)) : Option (Bool × List (List UInt8)) := gp 206 Tryz.f206 1 o8' [1,1,0,1,0,0,1,0,0,1,1,1,1,1,1,0,1,0] [1,1,1,1] ⟨[(0,.fl (.ref 0)),(1,fI a),(2,fI b),(3,.fl (.fn 50 [])),(9,fI c),(10,fI d),(12,fI e)],[[.own .s f false]]⟩
def z0h (a b c : Int) (d : Bool) (e : List (List UInt8)) : Option (Int × List (List UInt8)) := gp 207 Tryz.f207 1 o9' [1,1,1,0,0,0,0,1,0,0] [1,1,1,1] ⟨[(0,.fl (.ref 0)),(1,fI a),(4,.fl (.fn 50 [])),(11,fI b),(12,fI c),(47,fB d)],[[.own .s e false]]⟩
def z11 (a b c : Int) (d : List (List UInt8)) : Option (Int × Bool × List (List UInt8)) := gp 208 Tryz.f208 1 o4' [1,1,1,1,0,0] [1] ⟨[(0,.fl (.ref 0)),(1,fI a),(4,.fl (.fn 50 [])),(12,fI b),(13,fI c)],[[.own .s d false]]⟩
def z07 (a b c : Int) (d : List (List UInt8)) : Option (Int × Bool × List (List UInt8)) := gp 208 Tryz.f208 1 o4' [1,1,1,1,1,1,1,1,1,0,0] [1] ⟨[(0,.fl (.ref 0)),(1,fI a),(4,.fl (.fn 50 [])),(12,fI b),(13,fI c)],[[.own .s d false]]⟩
def z0u (a b c : Int) (d : List (List UInt8)) : Option (Int × List (List UInt8)) := gp 207 Tryz.f207 1 o9' [1,1,1,0,0,0,0,1,0,0] [1,1,1,1] ⟨[(0,.fl (.ref 0)),(1,fI a),(4,.fl (.fn 50 [])),(11,fI b),(12,fI c)],[[.own .s d false]]⟩
def z12 (a b c : Int) (d : List (List UInt8)) : Option (Int × Bool × List (List UInt8)) := gp 208 Tryz.f208 1 o4' [1,1,1,1,1,1,1,1,1,0,0,0,0,0,0] [1,1,1,1] ⟨[(0,.fl (.ref 0)),(1,fI a),(4,.fl (.fn 50 [])),(12,fI b),(13,fI c)],[[.own .s d false]]⟩
def z0o (a b c : Int) (d : Bool) (e : List (List UInt8)) : Option (Int × Bool × List (List UInt8)) := gp 208 Tryz.f208 1 o4' [1,1,1,1,1,1,1,1,1,0,0,0,0,1,0,0] [1,1,1,1] ⟨[(0,.fl (.ref 0)),(1,fI a),(4,.fl (.fn 50 [])),(12,fI b),(13,fI c),(120,fB d)],[[.own .s e false]]⟩
def z13 (a b c : Int) (d : List (List UInt8)) : Option (Int × Bool × List (List UInt8)) := gp 208 Tryz.f208 1 o4' [1,1,1,1,1,1,1,1,1,0,0,0,0,1,0,0] [1,1,1,1] ⟨[(0,.fl (.ref 0)),(1,fI a),(4,.fl (.fn 50 [])),(12,fI b),(13,fI c)],[[.own .s d false]]⟩
end
end Go.Proofs.YtglokalgdbegeaaGreat
