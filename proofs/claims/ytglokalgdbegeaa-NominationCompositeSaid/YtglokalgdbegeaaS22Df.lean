/- What the functions come to: names. -/
import Derived.Test.YtglokalgdbegeaaS22Env
namespace Go.Proofs.Ytglokalgdbegeaa
open Go Go.Ab
abbrev dA (c : sig.TC) (x : sig.Ty c) : TL sig := .d (.ag (sig.cells c x))
noncomputable abbrev gp (f : Nat) (fn : Func) (k : Nat) (o : OSpec sig) (p ms : List Nat) (st : TSt sig) : Option o.Out := goC tn ⟨f, fn, k⟩ o (q0c fn p) (y0p fn p ms) st
abbrev fI (n : Int) : TV sig := .fl (.d (.lf (.i .i64 n)))
abbrev fB (n : Bool) : TV sig := .fl (.d (.lf (.b n)))
abbrev fL (c : sig.TC) (l : List (sig.Ty c)) : TV sig := .fl (.d (.lf (.l c l)))
abbrev fP (n : Nat) : TV sig := .fl (.ptr n 0)
abbrev dI (n : Int) : TL sig := .d (.lf (.i .i64 n))
abbrev dL (c : sig.TC) (l : List (sig.Ty c)) : TL sig := .d (.lf (.l c l))
noncomputable section
def law22_NominationComposite (a b : List (List UInt8)) : Option (Bool) := callC tn 3 [.d (.lf (.l (c := .s) a)),.d (.lf (.l (c := .s) b))] [] o0'
def law22_awake  : Option (Bool) := callC tn 4 [] [] o0'
def z1a (a : List (List UInt8)) : Option (List UInt8 × Bool) := callC tn 5 [.d (.lf (.l (c := .s) a))] [] o9'
def law22_kept (a b : List (List UInt8)) : Option (Bool) := callC tn 6 [.d (.lf (.l (c := .s) a)),.d (.lf (.l (c := .s) b))] [] o0'
def z2w (a b : Int) (c : Trust) (e : List UInt8) : Option (Nominator × Int) := callC tn 7 [dI a,dI b,dA .Trust c,.d (.lf (.s e))] [] o18'
def z3k (a : Int) : Option (Bool) := callC tn 10 [dI a] [] o0'
def z2d (a : Trust) : Option (Int) := callC tn 11 [dA .Trust a] [] o1'
def z2j (a : Nominator) : Option (Nominator) := callC tn 13 [dA .Nominator a] [] o7'
def z2x (a : Nominator) : Option (Nominator) := callC tn 12 [dA .Nominator a] [] o7'
def z33 (a : Trust) : Option (Int) := callC tn 17 [dA .Trust a] [] o1'
def z3b (a : Trust) : Option (Int) := callC tn 18 [dA .Trust a] [] o1'
def z34 (a : Trust) : Option (Int) := callC tn 19 [dA .Trust a] [] o1'
def z3g (a : Nominator) : Option (List (List UInt8)) := callC tn 23 [dA .Nominator a] [] o4'
def z35 (a : Nominator) : Option (Config) := callC tn 24 [dA .Nominator a] [] o10'
def z2e (a : Nominator) (b : Config) : Option (List UInt8 × Bool) := callC tn 25 [dA .Nominator a,dA .Config b] [] o9'
def z2g (a : Trust) : Option (Trust) := callC tn 20 [dA .Trust a] [] o11'
def z15 (a : List (List UInt8)) : Option (Unit × List (List UInt8)) := callC tn 21 [.d (.lf (.l (c := .s) a))] [] ⟨[.ref 0],[[.own .s false]]⟩
def z17 (a : List Int) : Option (Bool) := callC tn 33 [.d (.lf (.l (c := .i64) a)),.fn 34 []] [] o0'
def z3x (a : List Int) : Option (Int × Int) := callC tn 36 [.d (.lf (.l (c := .i64) a))] [] o5'
def z3l (a : Trust) (b c d : Int) : Option (Int × Int) := callC tn 38 [dA .Trust a,dI b,dI c,dI d] [] o5'
def z3j (a : Int) : Option (List Int) := callC tn 39 [dI a] [] o13'
def z1i (a : List Nomination) : Option (Unit × List Nomination) := callC tn 27 [.d (.lf (.l (c := .Nomination) a))] [] ⟨[.ref 0],[[.own .Nomination false]]⟩
def z3c (a : Nominator) : Option (Nomination) := callC tn 28 [dA .Nominator a] [] o14'
def z2y (a : List Nomination) : Option (List (List UInt8)) := callC tn 40 [.d (.lf (.l (c := .Nomination) a))] [] o4'
def z28 (a : List Int) : Option (Unit × List Int) := callC tn 37 [.d (.lf (.l (c := .i64) a))] [] ⟨[.ref 0],[[.own .i64 false]]⟩
def z1c (a : List Int) : Option (Int) := callC tn 48 [.d (.lf (.l (c := .i64) a)),.fn 34 []] [] o1'
def z3u (a : Trust) (b c d : Int) : Option (Int) := callC tn 49 [dA .Trust a,dI b,dI c,dI d] [] o1'
def z1d (a : List UInt8) (b : List (List UInt8)) (c e : Int) : Option (List UInt8 × Bool) := gp 5 Try.f5 0 o9' [1,1,0,1,0] [0] ⟨[(4,.fl (.d (.lf (.s a)))),(7,fL .s b),(8,fI c),(9,fI e)],[]⟩
def z3h (a : List UInt8) : Option (Bool) := callC tn 8 [.d (.lf (.s a))] [] o0'
def z06 (a b : List UInt8) : Option (Int) := callC tn 9 [.d (.lf (.s a)),.d (.lf (.s b))] [] o1'
def z2h (a b : Int) : Option (Int) := callC tn 15 [dI a,dI b] [] o1'
def z2v (a b : List UInt8) : Option (Int) := callC tn 16 [.d (.lf (.s a)),.d (.lf (.s b))] [] o1'
def z3v (a : List Int) : Option (Int) := callC tn 14 [.d (.lf (.l (c := .i64) a))] [] o1'
def z3d (a : Int) : Option (Bool) := callC tn 31 [dI a] [] o0'
def z2q (a : List UInt8) : Option (Bool) := callC tn 32 [.d (.lf (.s a))] [] o0'
def z2t (a b : List (List UInt8)) (c d : Int) : Option (Bool) := gp 6 Try.f6 0 o0' [1,0,1,0] [0] ⟨[(1,fL .s a),(10,fL .s b),(11,fI c),(12,fI d)],[]⟩
def z1r (a : List UInt8) (b : Bool) (c e f g h : Int) (i : List Int) (j : List Trust) (k : List UInt8) (l m n : List (List UInt8)) (o : List Nomination) (p q r t u : Int) (v : List Int) (w : List Trust) (x : List UInt8) (y z A : List (List UInt8)) (B : List Nomination) (C : List Member) : Option (Nominator) := gp 13 Try.f13 0 o7' [1,1,1,0,1,0] [3] ⟨[(1,fP 0),(2,fP 1),(3,fP 2),(4,.fl (.d (.lf (.s a)))),(5,fB b)],[[dI c,dI e,dI f,dI g,dI h,dL .i64 i,dL .Trust j,.d (.lf (.s k)),dL .s l,dL .s m,dL .s n,dL .Nomination o],[dI p,dI q,dI r,dI t,dI u,.own .i64 v false,.own .Trust w false,.d (.lf (.s x)),.own .s y false,.own .s z false,.own .s A false,.own .Nomination B false],[dL .Member C]]⟩
def z2k (a : List (List UInt8)) (b : List UInt8) : Option (List (List UInt8)) := callC tn 26 [.d (.lf (.l (c := .s) a)),.d (.lf (.s b))] [] o4'
def z0t (a : List (List UInt8)) (b : List UInt8) : Option (Int × Bool) := callC tn 44 [.d (.lf (.l (c := .s) a)),.d (.lf (.s b)),.fn 9 []] [] o12'
def z3m (a : Int) (b e : List (List UInt8)) : Option (List (List UInt8) × Unit) := callC tn 45 [.ref 0,dI a,.d (.lf (.l (c := .s) b))] [[.own .s e false]] ⟨[.lf (.l .s)],[[.undef]]⟩
def z1x (a : List Nomination) (b c e f g h i : Int) (j : List Int) (k : List Trust) (l : List UInt8) (m n o : List (List UInt8)) (p : List Nomination) (q r t u v : Int) (w : List Int) (x : List Trust) (y : List UInt8) (z A B : List (List UInt8)) (C : List Nomination) : Option (Nominator) := gp 12 Try.f12 0 o7' [1,1,1,1,0,1,0] [2] ⟨[(1,fP 0),(2,fP 1),(25,fL .Nomination a),(26,fI b),(27,fI c)],[[dI e,dI f,dI g,dI h,dI i,dL .i64 j,dL .Trust k,.d (.lf (.s l)),.own .s m false,.own .s n false,.own .s o false,.own .Nomination p false],[dI q,dI r,dI t,dI u,dI v,.own .i64 w false,.own .Trust x false,.d (.lf (.s y)),.own .s z false,.own .s A false,.own .s B false,.own .Nomination C false]]⟩
def z1t (a : Nomination) : Option (Nomination) := callC tn 22 [dA .Nomination a] [] o14'
def z22 (a : Int) (b : List Trust) (c d e : Int) (f : List Int) (g : List Trust) : Option (Int) := gp 17 Try.f17 0 o1' [1,1,0,1,0] [1] ⟨[(3,fI a),(7,fL .Trust b),(8,fI c),(9,fI d)],[[dI e,dL .i64 f,dL .Trust g]]⟩
def z2a (a : Int) (b : List Trust) (c d e : Int) (f : List Int) (g : List Trust) : Option (Int) := gp 18 Try.f18 0 o1' [1,1,0,1,0] [1] ⟨[(3,fI a),(14,fL .Trust b),(15,fI c),(16,fI d)],[[dI e,dL .i64 f,dL .Trust g]]⟩
def z23 (a : List Trust) (b c d : Int) (e : List Int) (f : List Trust) : Option (Int) := gp 19 Try.f19 0 o1' [1,1,1,1,0,1,0] [1] ⟨[(36,fL .Trust a),(37,fI b),(38,fI c)],[[dI d,dL .i64 e,dL .Trust f]]⟩
def z1h (a : List (List UInt8)) (b : List Int) (c e f g h i j : Int) (k : List Int) (l : List Trust) (m : List UInt8) (n o p : List (List UInt8)) (q : List Nomination) : Option (List (List UInt8)) := gp 23 Try.f23 0 o4' [1,1,1,0,1,0] [1] ⟨[(1,fP 0),(3,fL .s a),(27,fL .i64 b),(28,fI c),(29,fI e)],[[dI f,dI g,dI h,dI i,dI j,dL .i64 k,dL .Trust l,.d (.lf (.s m)),dL .s n,dL .s o,dL .s p,dL .Nomination q]]⟩
def z24 (a : List Message) (b : List Nomination) (c e f g h i j : Int) (k : List Int) (l : List Trust) (m : List UInt8) (n o p : List (List UInt8)) (q : List Nomination) (r : List Member) : Option (Config) := gp 24 Try.f24 0 o10' [1,1,0,1,0] [2] ⟨[(1,fP 0),(2,fP 1),(3,.fl (.own .Message a false)),(7,fL .Nomination b),(8,fI c),(9,fI e)],[[dI f,dI g,dI h,dI i,dI j,dL .i64 k,dL .Trust l,.d (.lf (.s m)),dL .s n,dL .s o,dL .s p,dL .Nomination q],[.own .Member r false]]⟩
def z3q (a : Int) (b : Trust) (e : List Message) : Option (Config) := callC tn 41 [dI a,dA .Trust b,.d (.lf (.l (c := .Message) e))] [] o10'
def z1n (a : List Nomination) (b : List (List UInt8)) (c e f g h i j : Int) (k : List Int) (l : List Trust) (m : List UInt8) (n o p : List (List UInt8)) (q : List Nomination) (r : List Member) : Option (List UInt8 × Bool) := gp 25 Try.f25 0 o9' [1,1,0,1,0] [2] ⟨[(2,fP 0),(3,fP 1),(6,fL .Nomination a),(19,fL .s b),(20,fI c),(21,fI e)],[[dI f,dI g,dI h,dI i,dI j,dL .i64 k,dL .Trust l,.d (.lf (.s m)),dL .s n,dL .s o,dL .s p,dL .Nomination q],[dL .Member r]]⟩
def z2r (a : List Nomination) (b : List UInt8) : Option (Int × Int) := callC tn 29 [.d (.lf (.l (c := .Nomination) a)),.d (.lf (.s b))] [] o5'
def z2l (a : List (List UInt8)) (b : List UInt8) : Option (Bool) := callC tn 42 [.d (.lf (.l (c := .s) a)),.d (.lf (.s b))] [] o0'
def z2s (a : Config) (b c d : Int) : Option (Bool) := callC tn 43 [dA .Config a,dI b,dI c,dI d] [] o0'
def z1k (a : List (List UInt8)) (b : List UInt8) : Option (Bool) := callC tn 56 [.d (.lf (.l (c := .s) a)),.d (.lf (.s b))] [] o0'
def z1q (a : Int) : Option (Bool) := callC tn 57 [dI a] [] o0'
def z36 (a : Config) (b c : Int) : Option (Bool) := callC tn 58 [dA .Config a,dI b,dI c] [] o0'
def z2z (a : Config) (b : Int) : Option (Int) := callC tn 47 [dA .Config a,dI b] [] o1'
def z2o (a b : Int) : Option (Bool) := callC tn 46 [dI a,dI b] [] o0'
def z1o (a : List (List UInt8)) (b : List UInt8) : Option (Int) := callC tn 67 [.d (.lf (.l (c := .s) a)),.d (.lf (.s b))] [] o1'
def z37 (a b : Int) : Option (Bool) := callC tn 68 [dI a,dI b] [] o0'
def z1w (a : Config) : Option (Int) := callC tn 69 [dA .Config a] [] o1'
def z1y (a : Trust) (b : Int) : Option (Bool) := callC tn 70 [dA .Trust a,dI b] [] o0'
def z38 (a : Config) (b : Int) : Option (Int × List Int) := callC tn 61 [dA .Config a,dI b] [] o15'
def z1z (a : List Trust) (b c d : Int) (e : List Int) (f : List Trust) (g : Int) (h : List Int) (i : List Trust) (j : Int) (k : List Int) (l : List Trust) : Option (Trust) := gp 20 Try.f20 0 o11' [1,1,0,1,0] [3] ⟨[(2,fP 1),(3,fP 2),(13,fL .Trust a),(14,fI b),(15,fI c)],[[dI d,dL .i64 e,dL .Trust f],[dI g,.own .i64 h false,.own .Trust i false],[dI j,.own .i64 k false,.own .Trust l false]]⟩
def z2f (a : Int) (b : List Int) (c d : Int) : Option (Int × Int) := gp 36 Try.f36 0 o5' [1,1,0,1,0] [0] ⟨[(4,fI a),(7,fL .i64 b),(8,fI c),(9,fI d)],[]⟩
def z25 (a b c d e f : Int) (g : List Int) (h : List Trust) : Option (Int × Int) := gp 38 Try.f38 0 o5' [1,1,1,0,1,0] [1] ⟨[(1,fI a),(2,fI b),(4,fP 0),(11,fI c),(21,fI d),(22,fI e)],[[dI f,dL .i64 g,dL .Trust h]]⟩
def z30 (a : Trust) (b c d : Int) : Option (Int) := callC tn 50 [dA .Trust a,dI b,dI c,dI d] [] o1'
def z26 (a : Int) (b : List Int) (c : Int) : Option (List Int) := gp 39 Try.f39 0 o13' [1,1,0,1,0] [0] ⟨[(0,fI a),(3,.fl (.own .i64 b false)),(5,fI c)],[]⟩
def z2b (a : List (List UInt8)) (b : List Nomination) (c d : Int) : Option (List (List UInt8)) := gp 40 Try.f40 0 o4' [1,1,0,1,0] [0] ⟨[(3,.fl (.own .s a false)),(6,fL .Nomination b),(7,fI c),(8,fI d)],[]⟩
def z14 (a : List (List UInt8)) : Option (List (List UInt8)) := callC tn 51 [.ref 0,.fn 9 []] [[.own .s a false]] o2'
def z3i (a : List (List UInt8)) : Option (List (List UInt8) × Unit) := callC tn 52 [.ref 0] [[.own .s a false]] ⟨[.lf (.l .s)],[[.undef]]⟩
def z3z (a : Int) : Option (Int) := callC tn 65 [.d (.lf (.i .u64 a))] [] o1'
def z01 (a b c : Int) (d : List (List UInt8)) : Option (List (List UInt8)) := callC tn 64 [.ref 0,dI a,dI b,dI c,.fn 9 []] [[.own .s d false]] o2'
def z3y (a : Int) : Option (Int) := callC tn 83 [.d (.lf (.i .u64 a))] [] o1'
def z0m (a : List Int) (b c : Int) : Option (Int) := gp 48 Try.f48 0 o1' [1,0,1,0] [0] ⟨[(0,fL .i64 a),(1,.fl (.fn 34 [])),(7,fI b),(8,fI c)],[]⟩
def z39 (a : Int) : Option (Bool) := callC tn 34 [dI a] [] o0'
def z3r (a : Int) : Option (Bool) := callC tn 35 [dI a] [] o0'
def z31 (a : Int) (b : List Int) (c d : Int) : Option (Int) := gp 14 Try.f14 0 o1' [1,1,0,1,0] [0] ⟨[(3,fI a),(6,fL .i64 b),(7,fI c),(8,fI d)],[]⟩
def z2u (a : List (List UInt8)) (b : List UInt8) (c : Bool) (e : List (List UInt8)) (f g : Int) (h : List (List UInt8)) (i j : Int) : Option (Bool) := gp 6 Try.f6 0 o0' [1,0,1,0,0,1,1,0,0,1,1,0,1,0] [0,0,0,0] ⟨[(1,fL .s a),(6,.fl (.d (.lf (.s b)))),(7,fB c),(10,fL .s e),(11,fI f),(12,fI g),(16,fL .s h),(17,fI i),(18,fI j)],[]⟩
def z1m (a : List Nomination) (b : List (List UInt8)) (c e f g h i j : Int) (k : List Int) (l : List Trust) (m : List UInt8) (n o p : List (List UInt8)) (q : List Nomination) (r t u v w : Int) (x : List Int) (y : List Trust) (z : List UInt8) (A B C : List (List UInt8)) (D : List Nomination) (E : List Member) : Option (Nominator) := gp 13 Try.f13 0 o7' [1,1,1,1,1,0,1,0] [3] ⟨[(1,fP 0),(2,fP 1),(3,fP 2),(6,fL .Nomination a),(46,fL .s b),(47,fI c),(48,fI e)],[[dI f,dI g,dI h,dI i,dI j,dL .i64 k,dL .Trust l,.d (.lf (.s m)),dL .s n,dL .s o,dL .s p,dL .Nomination q],[dI r,dI t,dI u,dI v,dI w,.own .i64 x false,.own .Trust y false,.d (.lf (.s z)),.own .s A false,.own .s B false,.own .s C false,.own .Nomination D false],[dL .Member E]]⟩
def z2m (a : Config) (b c : Int) : Option (Bool) := callC tn 30 [dA .Config a,dI b,dI c] [] o0'
def z0c (a : List (List UInt8)) (b : List UInt8) (c e f : Int) : Option (Int × Bool) := gp 44 Try.f44 0 o12' [1,1,1,0,0] [0] ⟨[(0,fL .s a),(1,.fl (.d (.lf (.s b)))),(2,.fl (.fn 9 [])),(8,fI c),(9,fI e),(10,fI f)],[]⟩
def z1l (a : List (List UInt8)) (b : Int) (c : List Int) (e f : Int) (g : List Nomination) (h i j k l m n : Int) (o : List Int) (p : List Trust) (q : List UInt8) (r t u : List (List UInt8)) (v : List Nomination) : Option (List (List UInt8)) := gp 23 Try.f23 0 o4' [1,1,1,0,1,0,0,1,1,0,0,1,1,1,0] [1,1,1,1] ⟨[(1,fP 0),(3,fL .s a),(7,fI b),(27,fL .i64 c),(28,fI e),(29,fI f),(45,fL .Nomination g),(46,fI h),(47,fI i)],[[dI j,dI k,dI l,dI m,dI n,dL .i64 o,dL .Trust p,.d (.lf (.s q)),dL .s r,dL .s t,dL .s u,dL .Nomination v]]⟩
def z1p (a : Int) (b : List Message) (c d e : Int) (f : List Int) (g : List Trust) (h i : List Member) : Option (Config) := gp 41 Try.f41 0 o10' [1,1,0,1,0] [3] ⟨[(0,fI a),(4,fP 0),(6,fP 1),(7,fP 2),(12,fL .Message b),(13,fI c),(14,fI d)],[[dI e,dL .i64 f,dL .Trust g],[.own .Member h false],[.own .Member i false]]⟩
def z3n (a : Message) : Option (Bool) := callC tn 53 [dA .Message a] [] o0'
def z2i (a : Trust) : Option (Trust) := callC tn 54 [dA .Trust a] [] o11'
def z3e (a : Int) : Option (Bool) := callC tn 55 [dI a] [] o0'
def z3s (a : List Claim) : Option (Bool) := callC tn 66 [.d (.lf (.l (c := .Claim) a))] [] o0'
def z1f (a : List UInt8) (b c : Int) (e : List Nomination) (f g : Int) : Option (Int × Int) := gp 29 Try.f29 0 o5' [1,0,1,0] [0] ⟨[(1,.fl (.d (.lf (.s a)))),(4,fI b),(5,fI c),(8,fL .Nomination e),(9,fI f),(10,fI g)],[]⟩
def z18 (a : List (List UInt8)) (b : List UInt8) (c e : Int) : Option (Int) := gp 67 Try.f67 0 o1' [1,0,1,0] [0] ⟨[(0,fL .s a),(1,.fl (.d (.lf (.s b)))),(7,fI c),(8,fI e)],[]⟩
def z19 (a : Int) (b : List Member) (c d : Int) (e : List Member) : Option (Int) := gp 69 Try.f69 0 o1' [1,1,0,1,0] [1] ⟨[(3,fI a),(7,fL .Member b),(8,fI c),(9,fI d)],[[dL .Member e]]⟩
def z1j (a b : Int) (c : List Int) (d e f : Int) (g : List Int) (h : List Trust) : Option (Bool) := gp 70 Try.f70 0 o0' [1,1,1,0,1,0] [1] ⟨[(1,fI a),(2,fP 0),(5,fI b),(14,fL .i64 c),(15,fI d),(16,fI e)],[[dI f,dL .i64 g,dL .Trust h]]⟩
def z1u (a : Int) (b : List Int) (c : List Member) : Option (Int × List Int) := gp 61 Try.f61 0 o15' [1,1,1,1,0] [1] ⟨[(1,fI a),(2,fP 0),(6,.fl (.own .i64 b false))],[[dL .Member c]]⟩
def z3o (a : Config) (b : Int) : Option (Int × Bool) := callC tn 72 [dA .Config a,dI b] [] o12'
def z1e (a b c e f g h : Int) (j : List Int) (k : List Trust) : Option (Int) := gp 50 Try.f50 0 o1' [1,1,0,1,0] [1] ⟨[(1,fI a),(2,fI b),(3,fI c),(4,fP 0),(9,fI e),(10,.fl (.d (.lf (.i .u32 f)))),(14,fI g)],[[dI h,dL .i64 j,dL .Trust k]]⟩
def z3a (a : Trust) (b c d e : Int) : Option (Bool) := callC tn 62 [dA .Trust a,dI b,dI c,dI d,dI e] [] o0'
def z32 (a b c d : Int) : Option (Int) := callC tn 63 [dI a,dI b,dI c,dI d] [] ⟨[.lf (.i .u32)],[]⟩
def z3f (a : Trust) (b : Int) : Option (Frac × Bool) := callC tn 73 [dA .Trust a,dI b] [] o16'
def z1v (a : List Int) (b : Int) : Option (Bool) := callC tn 88 [.d (.lf (.l (c := .i64) a)),dI b] [] o0'
def z29 (a : List Int) (b : Int) : Option (Int) := callC tn 94 [.d (.lf (.l (c := .i64) a)),dI b] [] o1'
def z00 (a b c : Int) (d e : Bool) (f : List (List UInt8)) : Option (List (List UInt8)) := gp 64 Try.f64 1 o2' [1,1,0] [1] ⟨[(0,.fl (.ref 0)),(1,fI a),(2,fI b),(3,fI c),(4,.fl (.fn 9 [])),(10,fB d),(11,fB e)],[[.own .s f false]]⟩
def z12 (a b : Int) (c : List (List UInt8)) : Option (List (List UInt8)) := callC tn 74 [.ref 0,dI a,dI b,.fn 9 []] [[.own .s c false]] o2'
def z16 (a b : Int) (c : List (List UInt8)) : Option (List (List UInt8)) := callC tn 75 [.ref 0,dI a,dI b,.fn 9 []] [[.own .s c false]] o2'
def z13 (a b : Int) (c : List (List UInt8)) : Option (List (List UInt8)) := callC tn 76 [.ref 0,dI a,dI b,.fn 9 []] [[.own .s c false]] o2'
def z0n (a b : Int) (c : List (List UInt8)) : Option (Int × Int × List (List UInt8)) := callC tn 77 [.ref 0,dI a,dI b,.fn 9 []] [[.own .s c false]] o19'
def z0j (a b : Int) (c : List (List UInt8)) : Option (List (List UInt8)) := callC tn 78 [.ref 0,dI a,dI b,.fn 9 []] [[.own .s c false]] o2'
def z09 (a b : Int) (c : List (List UInt8)) : Option (Bool × List (List UInt8)) := callC tn 79 [.ref 0,dI a,dI b,.fn 9 []] [[.own .s c false]] o6'
def z04 (a b c : Int) (d : List (List UInt8)) : Option (Int × List (List UInt8)) := callC tn 80 [.ref 0,dI a,dI b,dI c,.fn 9 []] [[.own .s d false]] o8'
def z02 (a b c : Int) (d : List (List UInt8)) : Option (Int × Bool × List (List UInt8)) := callC tn 81 [.ref 0,dI a,dI b,dI c,.fn 9 []] [[.own .s d false]] o3'
def z2n (a : Int) : Option (Int) := callC tn 90 [dI a] [] ⟨[.lf (.i .u64)],[]⟩
def z0i (a : Int) (b : List (List UInt8)) (c : Int) : Option (Int × List (List UInt8) × Int) := callC tn 92 [.ref 0,dI a,.ptr 1 0,.fn 9 []] [[.own .s b false],[dI c]] o17'
def z0v (a b c : Int) (d : List (List UInt8)) (e : Int) : Option (Int × List (List UInt8) × Int) := callC tn 93 [.ref 0,dI a,dI b,dI c,.ptr 1 0,.fn 9 []] [[.own .s d false],[dI e]] o17'
def z0w (a b : Int) (c : List (List UInt8)) (d : Int) : Option (Int × Int × List (List UInt8) × Int) := callC tn 95 [.ref 0,dI a,dI b,.ptr 1 0,.fn 9 []] [[.own .s c false],[dI d]] o20'
def z20 (a : List (List UInt8)) (b : Int) (c : List Int) (e f : Int) (g : List Nomination) (h i : Int) (j : List (List UInt8)) (k l m n o p q : Int) (r : List Int) (t : List Trust) (u : List UInt8) (v w x : List (List UInt8)) (y : List Nomination) (z A B : Int) (C : List Int) (D : List Trust) (E F : List (List UInt8)) : Option (List (List UInt8)) := gp 23 Try.f23 0 o4' [1,1,1,0,1,0,0,1,1,0,0,1,1,1,0,0,1,1,0,0,1,1,1,0] [1,1,1,1,1,1,2] ⟨[(1,fP 0),(3,fL .s a),(7,fI b),(27,fL .i64 c),(28,fI e),(29,fI f),(45,fL .Nomination g),(46,fI h),(47,fI i),(57,fL .s j),(58,fI k),(59,fI l)],[[dI m,dI n,dI o,dI p,dI q,dL .i64 r,dL .Trust t,.d (.lf (.s u)),dL .s v,dL .s w,dL .s x,dL .Nomination y],[dI z,dI A,dI B,dL .i64 C,dL .Trust D,dL .s E,dL .s F]]⟩
def z21 (a : List Trust) (b c d : Int) (e : List Int) (f : List Trust) (g : Int) (h : List Int) (i : List Trust) (j : Int) (k : List Int) (l : List Trust) : Option (Trust) := gp 54 Try.f54 0 o11' [1,1,0,1,0] [3] ⟨[(2,fP 1),(3,fP 2),(13,fL .Trust a),(14,fI b),(15,fI c)],[[dI d,dL .i64 e,dL .Trust f],[dI g,.own .i64 h false,.own .Trust i false],[dI j,.own .i64 k false,.own .Trust l false]]⟩
def z1s (a b : List Claim) (c d : Int) : Option (Bool) := gp 66 Try.f66 0 o0' [1,0,1,0] [0] ⟨[(0,fL .Claim a),(5,fL .Claim b),(6,fI c),(7,fI d)],[]⟩
def z3w (a : Claim) : Option (Bool) := callC tn 84 [dA .Claim a] [] o0'
def z3t (a b : Claim) : Option (Int) := callC tn 85 [dA .Claim a,dA .Claim b] [] o1'
def z1g (a b : Int) (c : List Trust) (d e f : Int) (g : List Int) (h : List Trust) : Option (Bool) := gp 70 Try.f70 0 o0' [1,1,1,1,0,1,0] [1] ⟨[(1,fI a),(2,fP 0),(5,fI b),(27,fL .Trust c),(28,fI d),(29,fI e)],[[dI f,dL .i64 g,dL .Trust h]]⟩
def z27 (a : Int) (b : List Int) (c d : Int) (e : List Member) : Option (Int × Bool) := gp 72 Try.f72 0 o12' [1,0,1,0] [1] ⟨[(1,fI a),(2,fP 0),(9,fL .i64 b),(10,fI c),(11,fI d)],[[dL .Member e]]⟩
def z3p (a : Config) (b c : Int) : Option (Bool) := callC tn 87 [dA .Config a,dI b,dI c] [] o0'
def z2c (a : Int) (b : List Trust) (c d e : Int) (f : List Int) (g : List Trust) (h i j k : Int) : Option (Frac × Bool) := gp 73 Try.f73 0 o16' [1,1,1,0,1,0] [3] ⟨[(1,fI a),(4,fP 1),(6,fP 2),(27,fL .Trust b),(28,fI c),(29,fI d)],[[dI e,dL .i64 f,dL .Trust g],[dI h,dI i],[dI j,dI k]]⟩
def z1b (a : List Int) (b c d : Int) : Option (Int) := gp 94 Try.f94 0 o1' [1,0,1,0] [0] ⟨[(0,fL .i64 a),(1,fI b),(7,fI c),(8,fI d)],[]⟩
def z0e (a b c : Int) (d : List (List UInt8)) : Option (List (List UInt8)) := gp 74 Try.f74 1 o2' [1,0] [1] ⟨[(0,.fl (.ref 0)),(1,fI a),(2,fI b),(3,.fl (.fn 9 [])),(8,fI c)],[[.own .s d false]]⟩
def z0o (a b c d : Int) (e : List (List UInt8)) : Option (List (List UInt8)) := gp 75 Try.f75 1 o2' [1,1,1,0,1,0] [1] ⟨[(0,.fl (.ref 0)),(3,.fl (.fn 9 [])),(8,fI a),(9,fI b),(10,fI c),(11,fI d)],[[.own .s e false]]⟩
def z11 (a b c : Int) (d : List (List UInt8)) : Option (List (List UInt8)) := callC tn 89 [.ref 0,dI a,dI b,dI c,.fn 9 []] [[.own .s d false]] o2'
def z0b (a b c e : Int) (f : List (List UInt8)) (g : Int) : Option (List (List UInt8)) := gp 76 Try.f76 1 o2' [1,1,0,1,1,1,0] [2] ⟨[(0,.fl (.ref 0)),(1,fI a),(8,fI b),(9,fP 1),(10,.fl (.d (.lf (.i .u64 c)))),(11,fI e)],[[.own .s f false],[.d (.lf (.i .u64 g))]]⟩
def z2p (a : Int) : Option (Int × Int) := callC tn 91 [.ptr 0 0] [[.d (.lf (.i .u64 a))]] o21'
def z0s (a b : Int) (c : List (List UInt8)) : Option (List (List UInt8)) := gp 78 Try.f78 1 o2' [1,1,0] [1] ⟨[(0,.fl (.ref 0)),(8,fI a),(9,fI b)],[[.own .s c false]]⟩
def z03 (a b c d : Int) (e : List (List UInt8)) : Option (Bool × List (List UInt8)) := gp 79 Try.f79 1 o6' [1,1,0,1,0] [1] ⟨[(0,.fl (.ref 0)),(1,fI a),(2,fI b),(3,.fl (.fn 9 [])),(9,fI c),(10,fI d)],[[.own .s e false]]⟩
def z0a (a b c : Int) (d : List (List UInt8)) : Option (Int × List (List UInt8)) := gp 80 Try.f80 1 o8' [1,1,1,0,0] [1] ⟨[(0,.fl (.ref 0)),(1,fI a),(4,.fl (.fn 9 [])),(11,fI b),(12,fI c)],[[.own .s d false]]⟩
def z0x (a b c : Int) (d : List (List UInt8)) : Option (Int × Bool × List (List UInt8)) := gp 81 Try.f81 1 o3' [1,1,1,0,0] [1] ⟨[(0,.fl (.ref 0)),(1,fI a),(4,.fl (.fn 9 [])),(12,fI b),(13,fI c)],[[.own .s d false]]⟩
def z0g (a b c d : Int) (e : List (List UInt8)) : Option (List (List UInt8)) := gp 74 Try.f74 1 o2' [1,0,0,1,0,0,1,0] [1,1,1,1] ⟨[(0,.fl (.ref 0)),(1,fI a),(2,fI b),(3,.fl (.fn 9 [])),(8,fI c),(9,fI d)],[[.own .s e false]]⟩
def z0p (a b c : Int) (d : List (List UInt8)) : Option (List (List UInt8)) := gp 75 Try.f75 1 o2' [1,1,1,1,1,0] [1] ⟨[(0,.fl (.ref 0)),(3,.fl (.fn 9 [])),(8,fI a),(9,fI b),(12,fI c)],[[.own .s d false]]⟩
def z0d (a b c : Int) (d : List (List UInt8)) : Option (List (List UInt8)) := gp 89 Try.f89 1 o2' [1,0] [1] ⟨[(0,.fl (.ref 0)),(2,fI a),(3,fI b),(4,.fl (.fn 9 [])),(10,fI c)],[[.own .s d false]]⟩
def z0u (a b c d : Int) (e : Bool) (f : List (List UInt8)) : Option (Bool × List (List UInt8)) := gp 79 Try.f79 1 o6' [1,1,0,1,0,0,1,0,0,0,0] [1,1,1,1] ⟨[(0,.fl (.ref 0)),(1,fI a),(2,fI b),(3,.fl (.fn 9 [])),(9,fI c),(10,fI d),(16,fB e)],[[.own .s f false]]⟩
def z0q (a b c : Int) (d : List (List UInt8)) : Option (Int × List (List UInt8)) := gp 80 Try.f80 1 o8' [1,1,1,0,0,0,0,0,0] [1,1,1,1] ⟨[(0,.fl (.ref 0)),(1,fI a),(4,.fl (.fn 9 [])),(11,fI b),(12,fI c)],[[.own .s d false]]⟩
def z0k (a b c : Int) (d : Bool) (e : List (List UInt8)) : Option (Int × Bool × List (List UInt8)) := gp 81 Try.f81 1 o3' [1,1,1,1,0,0] [1] ⟨[(0,.fl (.ref 0)),(1,fI a),(4,.fl (.fn 9 [])),(12,fI b),(13,fI c),(47,fB d)],[[.own .s e false]]⟩
def z0h (a b c d : Int) (e : List (List UInt8)) : Option (Bool × List (List UInt8)) := gp 79 Try.f79 1 o6' [1,1,0,1,0,0,1,0,0,0,0] [1,1,1,1] ⟨[(0,.fl (.ref 0)),(1,fI a),(2,fI b),(3,.fl (.fn 9 [])),(9,fI c),(10,fI d)],[[.own .s e false]]⟩
def z08 (a b c d e : Int) (f : List (List UInt8)) : Option (Bool × List (List UInt8)) := gp 79 Try.f79 1 o6' [1,1,0,1,0,0,1,0,0,1,1,1,1,0,1,0,1,0] [1,1,1,1] ⟨[(0,.fl (.ref 0)),(1,fI a),(2,fI b),(3,.fl (.fn 9 [])),(9,fI c),(10,fI d),(11,fI e)],[[.own .s f false]]⟩
def z05 (a b c d e : Int) (f : List (List UInt8)) : Option (Bool × List (List UInt8)) := gp 79 Try.f79 1 o6' [1,1,0,1,0,0,1,0,0,1,1,1,1,1,1,0,1,0] [1,1,1,1] ⟨[(0,.fl (.ref 0)),(1,fI a),(2,fI b),(3,.fl (.fn 9 [])),(9,fI c),(10,fI d),(12,fI e)],[[.own .s f false]]⟩
def z0f (a b c : Int) (d : Bool) (e : List (List UInt8)) : Option (Int × List (List UInt8)) := gp 80 Try.f80 1 o8' [1,1,1,0,0,0,0,1,0,0] [1,1,1,1] ⟨[(0,.fl (.ref 0)),(1,fI a),(4,.fl (.fn 9 [])),(11,fI b),(12,fI c),(47,fB d)],[[.own .s e false]]⟩
def z0y (a b c : Int) (d : List (List UInt8)) : Option (Int × Bool × List (List UInt8)) := gp 81 Try.f81 1 o3' [1,1,1,1,0,0] [1] ⟨[(0,.fl (.ref 0)),(1,fI a),(4,.fl (.fn 9 [])),(12,fI b),(13,fI c)],[[.own .s d false]]⟩
def z07 (a b c : Int) (d : List (List UInt8)) : Option (Int × Bool × List (List UInt8)) := gp 81 Try.f81 1 o3' [1,1,1,1,1,1,1,1,1,0,0] [1] ⟨[(0,.fl (.ref 0)),(1,fI a),(4,.fl (.fn 9 [])),(12,fI b),(13,fI c)],[[.own .s d false]]⟩
def z0r (a b c : Int) (d : List (List UInt8)) : Option (Int × List (List UInt8)) := gp 80 Try.f80 1 o8' [1,1,1,0,0,0,0,1,0,0] [1,1,1,1] ⟨[(0,.fl (.ref 0)),(1,fI a),(4,.fl (.fn 9 [])),(11,fI b),(12,fI c)],[[.own .s d false]]⟩
def z0z (a b c : Int) (d : List (List UInt8)) : Option (Int × Bool × List (List UInt8)) := gp 81 Try.f81 1 o3' [1,1,1,1,1,1,1,1,1,0,0,0,0,0,0] [1,1,1,1] ⟨[(0,.fl (.ref 0)),(1,fI a),(4,.fl (.fn 9 [])),(12,fI b),(13,fI c)],[[.own .s d false]]⟩
def z0l (a b c : Int) (d : Bool) (e : List (List UInt8)) : Option (Int × Bool × List (List UInt8)) := gp 81 Try.f81 1 o3' [1,1,1,1,1,1,1,1,1,0,0,0,0,1,0,0] [1,1,1,1] ⟨[(0,.fl (.ref 0)),(1,fI a),(4,.fl (.fn 9 [])),(12,fI b),(13,fI c),(120,fB d)],[[.own .s e false]]⟩
def z10 (a b c : Int) (d : List (List UInt8)) : Option (Int × Bool × List (List UInt8)) := gp 81 Try.f81 1 o3' [1,1,1,1,1,1,1,1,1,0,0,0,0,1,0,0] [1,1,1,1] ⟨[(0,.fl (.ref 0)),(1,fI a),(4,.fl (.fn 9 [])),(12,fI b),(13,fI c)],[[.own .s d false]]⟩
end
end Go.Proofs.Ytglokalgdbegeaa
