/- What the functions come to: names. -/
import Derived.Test.YthbpagedblodfaaGreatP19Env
namespace Go.Proofs.YthbpagedblodfaaGreat
open Go Go.Ab
abbrev dA (c : sig.TC) (x : sig.Ty c) : TL sig := .d (.ag (sig.cells c x))
noncomputable abbrev gp (f : Nat) (fn : Func) (k : Nat) (o : OSpec sig) (p ms : List Nat) (st : TSt sig) : Option o.Out := goC tn ⟨f, fn, k⟩ o (q09 fn p) (y6u fn p ms) st
abbrev fI (n : Int) : TV sig := .fl (.d (.lf (.i .i64 n)))
abbrev fB (n : Bool) : TV sig := .fl (.d (.lf (.b n)))
abbrev fL (c : sig.TC) (l : List (sig.Ty c)) : TV sig := .fl (.d (.lf (.l c l)))
abbrev fP (n : Nat) : TV sig := .fl (.ptr n 0)
abbrev dI (n : Int) : TL sig := .d (.lf (.i .i64 n))
abbrev dL (c : sig.TC) (l : List (sig.Ty c)) : TL sig := .d (.lf (.l c l))
noncomputable section
def law19_VotingAnswers (a : List Int) (b : Voter) (e : Message) (f : Claim) (g : Trust) (h : Int) : Option (Bool) := callC tn 7 [.d (.lf (.l (c := .i64) a)),dA .Voter b,dA .Message e,dA .Claim f,dA .Trust g,dI h] [] o0'
def z3b (a : Voter) : Option (Bool) := callC tn 29 [dA .Voter a] [] o0'
def law19_awake  : Option (Bool) := callC tn 16 [] [] o0'
def z3m (a : Message) : Option (Bool) := callC tn 30 [dA .Message a] [] o0'
def z59 (a : Trust) : Option (Bool) := callC tn 31 [dA .Trust a] [] o0'
def z7l (a : List Int) : Option (Unit × List Int × Int) := callC tn 8 [.d (.lf (.l (c := .i64) a))] [] o29'
def z7k (a b : Int) (e : List Int) (f : Int) : Option (Voter × List Int × Int) := callC tn 32 [.ptr 0 0,dI a,dI b] [[.d (.lf (.l (c := .i64) e)),dI f]] o16'
def z62 (a : Int) (b : List Int) (e : Int) : Option (Message × List Int × Int) := callC tn 26 [.ptr 0 0,dI a] [[.d (.lf (.l (c := .i64) b)),dI e]] o20'
def z2t (a : Voter) (b : List Int) (e : Int) : Option (Voter × List Int × Int) := callC tn 33 [.ptr 0 0,dA .Voter a] [[.d (.lf (.l (c := .i64) b)),dI e]] o16'
def z68 (a b : Int) (e : List Int) (f : Int) : Option (Trust × List Int × Int) := callC tn 10 [.ptr 0 0,dI a,dI b] [[.d (.lf (.l (c := .i64) e)),dI f]] o6'
def z6c (a : Int) (b : Trust) : Option (Voter × Int) := callC tn 9 [dI a,dA .Trust b] [] o5'
def z69 (a : Voter) (b : Claim) : Option (Voter × Int) := callC tn 11 [dA .Voter a,dA .Claim b] [] o5'
def z1p (a : Int) (b : List Int) (e : Int) : Option (Int × List Int × Int) := callC tn 12 [.ptr 0 0,dI a] [[.d (.lf (.l (c := .i64) b)),dI e]] o17'
def z3o (a : List Claim) : Option (List Claim) := callC tn 18 [.d (.lf (.l (c := .Claim) a))] [] o2'
def z7b (a : Voter) (b : Message) : Option (Voter × Int) := callC tn 14 [dA .Voter a,dA .Message b] [] o5'
def z6s (a : Voter) : Option (List Claim) := callC tn 19 [dA .Voter a] [] o2'
def z3t (a : List Message) : Option (Bool) := callC tn 77 [.d (.lf (.l (c := .Message) a))] [] o0'
def z73 (a : Voter) : Option (Message) := callC tn 37 [dA .Voter a] [] o11'
def z74 (a : Trust) (b : Int) : Option (Int) := callC tn 78 [dA .Trust a,dI b] [] o1'
def z6t (a : Int) (b : Trust) : Option (Voter × Int) := callC tn 44 [dI a,dA .Trust b] [] o5'
def z24 (a b : Int) (e : List Int) (f : Int) : Option (Int × List Int × Int) := callC tn 73 [.ptr 0 0,dI a,dI b] [[.d (.lf (.l (c := .i64) e)),dI f]] o17'
def z2n (a : Int) (b : List Int) (e : Int) : Option (List Claim × List Int × Int) := callC tn 74 [.ptr 0 0,dI a] [[.d (.lf (.l (c := .i64) b)),dI e]] o21'
def z1n (a b : List Int) (e : Int) : Option (Int × List Int × Int) := callC tn 79 [.ptr 0 0,.d (.lf (.l (c := .i64) a))] [[.d (.lf (.l (c := .i64) b)),dI e]] o17'
def z3p (a : Trust) (b : List Int) (e : Int) : Option (Trust × List Int × Int) := callC tn 80 [.ptr 0 0,dA .Trust a] [[.d (.lf (.l (c := .i64) b)),dI e]] o6'
def z2v (a : Message) (b : List Int) (e : Int) : Option (Message × List Int × Int) := callC tn 41 [.ptr 0 0,dA .Message a] [[.d (.lf (.l (c := .i64) b)),dI e]] o20'
def z6z (a b : Int) (e : List Int) (f : Int) : Option (Trust × List Int × Int) := callC tn 47 [.ptr 0 0,dI a,dI b] [[.d (.lf (.l (c := .i64) e)),dI f]] o6'
def z2j (a : Trust) : Option (Int) := callC tn 48 [dA .Trust a] [] o1'
def z31 (a : Trust) : Option (Int) := callC tn 45 [dA .Trust a] [] o1'
def z52 (a : Trust) : Option (Trust) := callC tn 46 [dA .Trust a] [] o12'
def z53 (a : Voter) : Option (Bool) := callC tn 34 [dA .Voter a] [] o0'
def z5v (a : Claim) : Option (Bool) := callC tn 49 [dA .Claim a] [] o0'
def z1e (a : List Claim) (b e : Int) : Option (Bool × Int × Int) := callC tn 52 [.d (.lf (.l (c := .Claim) a)),.fn 50 [(0,0)]] [[dI b,dI e]] o22'
def z5j (a : List Claim) (b : Claim) : Option (Bool) := callC tn 53 [.d (.lf (.l (c := .Claim) a)),dA .Claim b] [] o0'
def z2u (a : Voter) : Option (Voter) := callC tn 54 [dA .Voter a] [] o4'
def z6l (a : List Claim) (b : Claim) : Option (List Claim) := callC tn 55 [.d (.lf (.l (c := .Claim) a)),dA .Claim b] [] o2'
def z3c (a b : Voter) : Option (Voter) := callC tn 56 [dA .Voter a,dA .Voter b] [] o4'
def z32 (a : Message) : Option (Bool) := callC tn 57 [dA .Message a] [] o0'
def z19 (a : List Message) (b : Int) : Option (Int × Bool) := callC tn 58 [.d (.lf (.l (c := .Message) a)),dI b,.fn 59 []] [] o13'
def z1u (a : List Message) : Option (Unit × List Message) := callC tn 61 [.d (.lf (.l (c := .Message) a))] [] ⟨[.ref 0],[[.own .Message false]]⟩
def z54 (a : Int) (b e : List Message) : Option (List Message × Unit) := callC tn 62 [.ref 0,dI a,.d (.lf (.l (c := .Message) b))] [[.own .Message e false]] ⟨[.lf (.l .Message)],[[.undef]]⟩
def z6k (a : Voter) : Option (List Message) := callC tn 65 [dA .Voter a] [] ⟨[.lf (.l .Message)],[]⟩
def z5k (a : Voter) : Option (Message) := callC tn 86 [dA .Voter a] [] o11'
def z3e (a : Message) : Option (Message) := callC tn 85 [dA .Message a] [] o11'
def z6n (a : Int) (b : List Int) (e : Int) : Option (List Int × List Int × Int) := callC tn 13 [.ptr 0 0,dI a] [[.d (.lf (.l (c := .i64) b)),dI e]] o18'
def z6u (a : Trust) : Option (Int) := callC tn 97 [dA .Trust a] [] o1'
def z75 (a : Trust) : Option (Int) := callC tn 98 [dA .Trust a] [] o1'
def z45 (a : Trust) : Option (Int) := callC tn 99 [dA .Trust a] [] o1'
def z56 (a : Trust) : Option (Int) := callC tn 93 [dA .Trust a] [] o1'
def z5o (a : Trust) : Option (Int) := callC tn 94 [dA .Trust a] [] o1'
def z57 (a : Trust) : Option (Int) := callC tn 95 [dA .Trust a] [] o1'
def z3j (a : List Int) : Option (Unit × List Int) := callC tn 96 [.d (.lf (.l (c := .i64) a))] [] ⟨[.ref 0],[[.own .i64 false]]⟩
def z47 (a : List Claim) : Option (Bool) := callC tn 81 [.d (.lf (.l (c := .Claim) a))] [] o0'
def z6b (a : List Claim) : Option (Bool) := callC tn 82 [.d (.lf (.l (c := .Claim) a))] [] o0'
def z1k (a : List Claim) (b e f : Int) (g : List Int) (h : List Trust) (i j k : List Claim) (m : List Message) : Option (Bool × Int × Int × Int × List Int × List Trust × List Claim × List Claim × List Claim × List Message) := callC tn 52 [.d (.lf (.l (c := .Claim) a)),.fn 83 [(0,0)]] [[dI b,dI e,dI f,.d (.lf (.l (c := .i64) g)),.d (.lf (.l (c := .Trust) h)),.d (.lf (.l (c := .Claim) i)),.d (.lf (.l (c := .Claim) j)),.d (.lf (.l (c := .Claim) k)),.d (.lf (.l (c := .Message) m))]] o23'
def z1m (a : List Claim) (b e : Int) : Option (Int × Int × Int) := callC tn 100 [.d (.lf (.l (c := .Claim) a)),.fn 50 [(0,0)]] [[dI b,dI e]] o24'
def z2o (a : List Claim) (b : Claim) : Option (Bool) := callC tn 101 [.d (.lf (.l (c := .Claim) a)),dA .Claim b] [] o0'
def z1a (a : List Claim) : Option (Unit × List Claim) := callC tn 102 [.d (.lf (.l (c := .Claim) a))] [] o19'
def z70 (a b : List Claim) : Option (List Claim) := callC tn 103 [.d (.lf (.l (c := .Claim) a)),.d (.lf (.l (c := .Claim) b))] [] o2'
def z6d (a : Voter) : Option (Voter) := callC tn 104 [dA .Voter a] [] o4'
def z3f (a b : Trust) : Option (Bool) := callC tn 75 [dA .Trust a,dA .Trust b] [] o0'
def z1s (a b : List Claim) : Option (Bool) := callC tn 88 [.d (.lf (.l (c := .Claim) a)),.d (.lf (.l (c := .Claim) b))] [] o0'
def z5p (a : Int) : Option (Bool) := callC tn 105 [dI a] [] o0'
def z7f (a : Voter) : Option (Message) := callC tn 21 [dA .Voter a] [] o11'
def z1i (a : List Int) : Option (Bool) := callC tn 118 [.d (.lf (.l (c := .i64) a)),.fn 119 []] [] o0'
def z7g (a : List Int) : Option (Int × Int) := callC tn 121 [.d (.lf (.l (c := .i64) a))] [] o14'
def z1l (a : List Claim) (b e f : Int) (g : List Int) (h : List Trust) (i j k : List Claim) (m : List Message) : Option (Int × Int × Int × Int × List Int × List Trust × List Claim × List Claim × List Claim × List Message) := callC tn 100 [.d (.lf (.l (c := .Claim) a)),.fn 83 [(0,0)]] [[dI b,dI e,dI f,.d (.lf (.l (c := .i64) g)),.d (.lf (.l (c := .Trust) h)),.d (.lf (.l (c := .Claim) i)),.d (.lf (.l (c := .Claim) j)),.d (.lf (.l (c := .Claim) k)),.d (.lf (.l (c := .Message) m))]] o25'
def z35 (a : List Claim) (b : Claim) : Option (Int) := callC tn 123 [.d (.lf (.l (c := .Claim) a)),dA .Claim b] [] o1'
def z6y (a : List (List Claim)) : Option (Unit × List Claim) := callC tn 125 [.d (.lf (.l (c := .l_Claim) a))] [] o19'
def z5y (a : List Claim) : Option (List Claim) := callC tn 124 [.d (.lf (.l (c := .Claim) a))] [] o2'
def z5q (a : Int) (b : Trust) (e : List Message) : Option (Config) := callC tn 126 [dI a,dA .Trust b,.d (.lf (.l (c := .Message) e))] [] o15'
def z6a (a : Voter) (b : Config) : Option (Claim × Bool) := callC tn 127 [dA .Voter a,dA .Config b] [] o26'
def z3k (a b : List Int) : Option (Bool) := callC tn 113 [.d (.lf (.l (c := .i64) a)),.d (.lf (.l (c := .i64) b))] [] o0'
def z1d (a b : List Trust) : Option (Bool) := callC tn 114 [.d (.lf (.l (c := .Trust) a)),.d (.lf (.l (c := .Trust) b)),.fn 75 []] [] o0'
def z1v (a : List Int) : Option (Int) := callC tn 134 [.d (.lf (.l (c := .i64) a)),.fn 119 []] [] o1'
def z1j (a : List Claim) : Option (Unit × List Claim) := callC tn 136 [.ref 0,.fn 137 []] [[.own .Claim a false]] o19'
def z1f (a : List Claim) : Option (List Claim) := callC tn 138 [.ref 0,.fn 116 []] [[.own .Claim a false]] o3'
def z6o (a : List Claim) : Option (List Claim × Unit) := callC tn 139 [.ref 0] [[.own .Claim a false]] ⟨[.lf (.l .Claim)],[[.undef]]⟩
def z6e (a : List Message) : Option (List Claim) := callC tn 142 [.d (.lf (.l (c := .Message) a))] [] o2'
def z1t (a : List Claim) : Option (Int × List Claim) := callC tn 100 [.ref 0,.fn 137 []] [[.own .Claim a false]] o9'
def z7i (a : Int) : Option (Int) := callC tn 151 [.d (.lf (.i .u64 a))] [] o1'
def z01 (a b c : Int) (d : List Claim) : Option (List Claim) := callC tn 150 [.ref 0,dI a,dI b,dI c,.fn 116 []] [[.own .Claim d false]] o3'
def z7h (a : Int) : Option (Int) := callC tn 165 [.d (.lf (.i .u64 a))] [] o1'
def z1r (a : Int) (b : List Voter) (c d e f g : Int) (h : List Int) (i : List Trust) (j k l : List Claim) (m : List Message) (n o p : Int) (q : List Int) (r : List Trust) (s t : List Claim) (u v w : Int) (x : List Int) (y : List Trust) (z : List Int) (A B C D : Int) (E : List Int) (F : List Trust) (G H I : List Claim) (J : List Message) (K L M : Int) (N : List Int) (O : List Trust) (P Q : List Claim) : Option (Bool) := gp 7 Tryz.f7 0 o0' [1,1,1,1,1,1,0,1,0] [7] ⟨[(5,fI a),(7,fP 0),(8,fP 1),(9,fP 2),(10,fP 3),(13,fP 4),(14,fP 5),(15,fP 6),(69,fL .Voter b),(70,fI c),(71,fI d)],[[dI e,dI f,dI g,dL .i64 h,dL .Trust i,dL .Claim j,dL .Claim k,dL .Claim l,dL .Message m],[dI n,dI o,dI p,dL .i64 q,dL .Trust r,dL .Claim s,dL .Claim t],[dI u,dI v],[dI w,dL .i64 x,dL .Trust y],[dL .i64 z,dI A],[dI B,dI C,dI D,dL .i64 E,dL .Trust F,dL .Claim G,dL .Claim H,dL .Claim I,dL .Message J],[dI K,dI L,dI M,dL .i64 N,dL .Trust O,dL .Claim P,dL .Claim Q]]⟩
def z5l (a : Voter) : Option (Bool) := callC tn 35 [dA .Voter a] [] o0'
def z76 (a b : Message) : Option (Bool) := callC tn 36 [dA .Message a,dA .Message b] [] o0'
def z6v (a b : Voter) : Option (Bool) := callC tn 38 [dA .Voter a,dA .Voter b] [] o0'
def z48 (a b : Voter) : Option (Bool) := callC tn 28 [dA .Voter a,dA .Voter b] [] o0'
def z71 (a : List Int) (b : Int) : Option (Claim × List Int × Int) := callC tn 39 [.ptr 0 0] [[.d (.lf (.l (c := .i64) a)),dI b]] o30'
def z4x (a : List Claim) : Option (Bool) := callC tn 84 [.d (.lf (.l (c := .Claim) a))] [] o0'
def z4r (a : List Claim) : Option (Bool) := callC tn 64 [.d (.lf (.l (c := .Claim) a))] [] o0'
def z3g (a b : Trust) : Option (Bool) := callC tn 76 [dA .Trust a,dA .Trust b] [] o0'
def z49 (a b : List Claim) : Option (Bool) := callC tn 15 [.d (.lf (.l (c := .Claim) a)),.d (.lf (.l (c := .Claim) b))] [] o0'
def z6f (a b : Message) : Option (Bool) := callC tn 87 [dA .Message a,dA .Message b] [] o0'
def z18 (a b : List Message) : Option (Bool) := callC tn 89 [.d (.lf (.l (c := .Message) a)),.d (.lf (.l (c := .Message) b)),.fn 87 []] [] o0'
def z77 (a b : List Int) : Option (Bool) := callC tn 115 [.d (.lf (.l (c := .i64) a)),.d (.lf (.l (c := .i64) b))] [] o0'
def z6g (a : Voter) (b : Trust) : Option (Voter × Int) := callC tn 27 [dA .Voter a,dA .Trust b] [] o5'
def z7j (a : Voter) (b : Claim) : Option (Bool) := callC tn 20 [dA .Voter a,dA .Claim b] [] o0'
def z5m (a : List Claim) (b : Claim) : Option (Bool) := callC tn 25 [.d (.lf (.l (c := .Claim) a)),dA .Claim b] [] o0'
def z1h (a b : Int) (c : List Int) (d e f g : Int) (h : List Int) (i : List Trust) (j k l : List Claim) (m : List Message) (n o p : Int) (q : List Int) (r : List Trust) (s t u : List Claim) (v : List Message) : Option (Voter × List Int × Int) := gp 32 Tryz.f32 1 o16' [1,1,0,1,0] [3] ⟨[(0,fP 0),(1,fI a),(6,fP 1),(7,fP 2),(9,fI b)],[[dL .i64 c,dI d],[dI e,dI f,dI g,.own .i64 h false,.own .Trust i false,.own .Claim j false,.own .Claim k false,.own .Claim l false,.own .Message m false],[dI n,dI o,dI p,dL .i64 q,dL .Trust r,dL .Claim s,dL .Claim t,dL .Claim u,dL .Message v]]⟩
def z78 (a : Voter) (b : Claim) : Option (Voter × Int) := callC tn 40 [dA .Voter a,dA .Claim b] [] o5'
def z5z (a : Voter) (b : Trust) : Option (Voter × Int) := callC tn 43 [dA .Voter a,dA .Trust b] [] o5'
def z79 (a : Voter) (b : Message) : Option (Voter × Int) := callC tn 42 [dA .Voter a,dA .Message b] [] o5'
def z6w (a : Claim) : Option (Bool) := callC tn 90 [dA .Claim a] [] o0'
def z4y (a b : List Claim) : Option (List Claim) := callC tn 66 [.d (.lf (.l (c := .Claim) a)),.d (.lf (.l (c := .Claim) b))] [] o2'
def z4l (a b : Voter) : Option (Voter) := callC tn 92 [dA .Voter a,dA .Voter b] [] o4'
def z4z (a : Message) : Option (Bool) := callC tn 72 [dA .Message a] [] o0'
def z33 (a b : List Claim) (c : Int) : Option (List Claim) := gp 18 Tryz.f18 0 o2' [1,1,0,1,0] [0] ⟨[(0,fL .Claim a),(3,.fl (.own .Claim b false)),(4,fI c)],[]⟩
def z7a (a : List Claim) (b : List Message) (c d e f g : Int) (h : List Int) (i : List Trust) (j k l : List Claim) (m : List Message) : Option (List Claim) := gp 19 Tryz.f19 0 o2' [1,1,0,1,0] [1] ⟨[(3,.fl (.own .Claim a false)),(7,fL .Message b),(8,fI c),(9,fI d)],[[dI e,dI f,dI g,dL .i64 h,dL .Trust i,dL .Claim j,dL .Claim k,dL .Claim l,dL .Message m]]⟩
def z2c (a : List Message) (b c : Int) : Option (Bool) := gp 77 Tryz.f77 0 o0' [1,1,0,1,0] [0] ⟨[(8,fL .Message a),(9,fI b),(10,fI c)],[]⟩
def z4m (a b c : Int) (d : List Int) (e : List Trust) : Option (Int) := gp 78 Tryz.f78 0 o1' [1,1,0,1,0] [1] ⟨[(1,fI a),(2,fP 0),(5,fI b)],[[dI c,dL .i64 d,dL .Trust e]]⟩
def z5w (a : List Claim) (b : Int) (c : List Int) (d : Int) : Option (List Claim × List Int × Int) := gp 74 Tryz.f74 1 o21' [1,1,0,1,0] [1] ⟨[(0,fP 0),(5,.fl (.own .Claim a false)),(6,fI b)],[[dL .i64 c,dI d]]⟩
def z3n (a : Int) (b : List Int) (c d : Int) (e : List Int) (f : List Trust) (g : Int) (h : List Int) (i : List Trust) (j : Int) (k : List Int) (l : List Trust) : Option (Trust × List Int × Int) := gp 80 Tryz.f80 1 o6' [1,1,0,1,0,1,1,1,1,1,1,1,1,1,0,1,0,1,0] [3,4] ⟨[(4,fP 2),(6,fP 3),(7,fI a)],[[dL .i64 b,dI c],[dI d,dL .i64 e,dL .Trust f],[dI g,.own .i64 h false,.own .Trust i false],[dI j,dL .i64 k,dL .Trust l]]⟩
def z34 (a : List Trust) (b : Int) (c : List Int) (d e : Int) (f : List Int) (g : List Trust) (h : Int) (i : List Int) (j : List Trust) : Option (Trust × List Int × Int) := gp 80 Tryz.f80 1 o6' [1,1,0,1,0,1,1,1,1,1,1,1,1,1,1,1,0,1,0] [3,3] ⟨[(3,fP 1),(4,fP 2),(8,.fl (.own .Trust a false)),(9,fI b)],[[dL .i64 c,dI d],[dI e,dL .i64 f,dL .Trust g],[dI h,.own .i64 i false,.own .Trust j false]]⟩
def z50 (a b : Int) (c : List Int) (d e : Int) (f : List Int) (g h : Int) (i : List Int) (j : List Trust) (k : Int) (l : List Int) (m : List Trust) : Option (Trust × List Int × Int) := gp 47 Tryz.f47 1 o6' [1,1,1,0,1,0] [3] ⟨[(0,fP 0),(1,fI a),(2,fI b),(6,fP 1),(7,fP 2),(20,fL .i64 c),(21,fI d),(22,fI e)],[[dL .i64 f,dI g],[dI h,.own .i64 i false,.own .Trust j false],[dI k,.own .i64 l false,.own .Trust m false]]⟩
def z4a (a : List Trust) (b c d : Int) (e : List Int) (f : List Trust) (g : Int) (h : List Int) (i : List Trust) (j : Int) (k : List Int) (l : List Trust) : Option (Trust) := gp 46 Tryz.f46 0 o12' [1,1,0,1,0] [3] ⟨[(2,fP 1),(3,fP 2),(13,fL .Trust a),(14,fI b),(15,fI c)],[[dI d,dL .i64 e,dL .Trust f],[dI g,.own .i64 h false,.own .Trust i false],[dI j,.own .i64 k false,.own .Trust l false]]⟩
def z26 (a : List Message) (b c d e f : Int) (g : List Int) (h : List Trust) (i j k : List Claim) (l : List Message) : Option (Bool) := gp 34 Tryz.f34 0 o0' [1,1,1,1,0,1,0] [1] ⟨[(1,fP 0),(62,fL .Message a),(63,fI b),(64,fI c)],[[dI d,dI e,dI f,dL .i64 g,dL .Trust h,dL .Claim i,dL .Claim j,dL .Claim k,dL .Message l]]⟩
def z4b (a : List Message) (b c d e f : Int) (g : List Int) (h : List Trust) (i j k : List Claim) (l : List Message) (m n o : Int) (p : List Int) (q : List Trust) (r s t : List Claim) (u : List Message) : Option (Voter) := gp 54 Tryz.f54 0 o4' [1,1,1,1,0,1,0] [2] ⟨[(1,fP 0),(2,fP 1),(25,fL .Message a),(26,fI b),(27,fI c)],[[dI d,dI e,dI f,dL .i64 g,dL .Trust h,.own .Claim i false,.own .Claim j false,.own .Claim k false,.own .Message l false],[dI m,dI n,dI o,.own .i64 p false,.own .Trust q false,.own .Claim r false,.own .Claim s false,.own .Claim t false,.own .Message u false]]⟩
def z0g (a : List Message) (b c d e : Int) : Option (Int × Bool) := gp 58 Tryz.f58 0 o13' [1,1,1,0,0] [0] ⟨[(0,fL .Message a),(1,fI b),(2,.fl (.fn 59 [])),(8,fI c),(9,fI d),(10,fI e)],[]⟩
def z60 (a : Message) (b : Int) : Option (Int) := callC tn 59 [dA .Message a,dI b] [] o1'
def z3u (a b : Int) : Option (Int) := callC tn 60 [dI a,dI b] [] o1'
def z5r (a : Int) : Option (Bool) := callC tn 106 [dI a] [] o0'
def z3v (a : Int) (b : List Int) (c : Int) (d : List Int) (e : Int) : Option (List Int × List Int × Int) := gp 13 Tryz.f13 1 o18' [1,1,0,1,0] [1] ⟨[(0,fP 0),(1,fI a),(5,.fl (.own .i64 b false)),(6,fI c)],[[dL .i64 d,dI e]]⟩
def z4s (a : Int) (b : List Trust) (c d e : Int) (f : List Int) (g : List Trust) : Option (Int) := gp 97 Tryz.f97 0 o1' [1,1,0,1,0] [1] ⟨[(3,fI a),(7,fL .Trust b),(8,fI c),(9,fI d)],[[dI e,dL .i64 f,dL .Trust g]]⟩
def z5a (a : Int) (b : List Trust) (c d e : Int) (f : List Int) (g : List Trust) : Option (Int) := gp 98 Tryz.f98 0 o1' [1,1,0,1,0] [1] ⟨[(3,fI a),(14,fL .Trust b),(15,fI c),(16,fI d)],[[dI e,dL .i64 f,dL .Trust g]]⟩
def z22 (a : List Int) (b c d : Int) (e : List Int) (f : List Trust) : Option (Int) := gp 99 Tryz.f99 0 o1' [1,1,0,1,0] [1] ⟨[(1,fP 0),(26,fL .i64 a),(27,fI b),(28,fI c)],[[dI d,dL .i64 e,dL .Trust f]]⟩
def z7e (a : List Int) : Option (Int × Int) := callC tn 122 [.d (.lf (.l (c := .i64) a))] [] o14'
def z36 (a : Int) (b : List Trust) (c d e : Int) (f : List Int) (g : List Trust) : Option (Int) := gp 93 Tryz.f93 0 o1' [1,1,0,1,0] [1] ⟨[(3,fI a),(7,fL .Trust b),(8,fI c),(9,fI d)],[[dI e,dL .i64 f,dL .Trust g]]⟩
def z3l (a : Int) (b : List Trust) (c d e : Int) (f : List Int) (g : List Trust) : Option (Int) := gp 94 Tryz.f94 0 o1' [1,1,0,1,0] [1] ⟨[(3,fI a),(14,fL .Trust b),(15,fI c),(16,fI d)],[[dI e,dL .i64 f,dL .Trust g]]⟩
def z37 (a : List Trust) (b c d : Int) (e : List Int) (f : List Trust) : Option (Int) := gp 95 Tryz.f95 0 o1' [1,1,1,1,0,1,0] [1] ⟨[(36,fL .Trust a),(37,fI b),(38,fI c)],[[dI d,dL .i64 e,dL .Trust f]]⟩
def z2k (a b : List Claim) (c d : Int) : Option (Bool) := gp 81 Tryz.f81 0 o0' [1,0,1,0] [0] ⟨[(0,fL .Claim a),(5,fL .Claim b),(6,fI c),(7,fI d)],[]⟩
def z09 (a b : Claim) : Option (Int) := callC tn 116 [dA .Claim a,dA .Claim b] [] o1'
def z7c (a : List Int) : Option (Int) := callC tn 133 [.d (.lf (.l (c := .i64) a))] [] o1'
def z0v (a : List Claim) (b c d e : Int) : Option (Int × Int × Int) := gp 100 Tryz.f100 1 o24' [1,0,1,0] [1] ⟨[(0,fL .Claim a),(1,.fl (.fn 50 [(0,0)])),(7,fI b),(8,fI c)],[[dI d,dI e]]⟩
def z6p (a : Claim) (b c : Int) : Option (Bool × Int × Int) := callC tn 50 [dA .Claim a,.ptr 0 0] [[dI b,dI c]] o22'
def z5d (a b : Claim) : Option (Bool) := callC tn 51 [dA .Claim a,dA .Claim b] [] o0'
def z4i (a : Bool) (b c d : Int) (e : List Int) (f : List Trust) (g h i : List Claim) (j : List Message) (k l m : Int) (n : List Int) (o : List Trust) (p q r : List Claim) (s : List Message) (t : List Member) (u v : Int) : Option (Voter) := gp 104 Tryz.f104 0 o4' [1,1,0,1,0] [4] ⟨[(1,fP 0),(2,fP 1),(3,fP 2),(4,fP 3),(5,fB a)],[[dI b,dI c,dI d,dL .i64 e,dL .Trust f,dL .Claim g,dL .Claim h,dL .Claim i,dL .Message j],[dI k,dI l,dI m,.own .i64 n false,.own .Trust o false,.own .Claim p false,.own .Claim q false,.own .Claim r false,.own .Message s false],[dL .Member t],[dI u,dI v]]⟩
def z1y (a b : List Claim) (c d : Int) : Option (Bool) := gp 88 Tryz.f88 0 o0' [1,1,0,1,0] [0] ⟨[(0,fL .Claim a),(1,fL .Claim b),(12,fI c),(13,fI d)],[]⟩
def z3r (a : Int) (b : List Int) (c d : Int) : Option (Int × Int) := gp 121 Tryz.f121 0 o14' [1,1,0,1,0] [0] ⟨[(4,fI a),(7,fL .i64 b),(8,fI c),(9,fI d)],[]⟩
def z46 (a b : Int) : Option (Bool) := callC tn 135 [dI a,dI b] [] o0'
def z2h (a : Int) : Option (Bool) := callC tn 149 [dI a] [] o0'
def z5b (a b : Int) : Option (Bool) := callC tn 155 [dI a,dI b] [] o0'
def z0s (a : List Claim) (b c d e f : Int) (g : List Int) (h : List Trust) (i j k : List Claim) (l : List Message) : Option (Int × Int × Int × Int × List Int × List Trust × List Claim × List Claim × List Claim × List Message) := gp 100 Tryz.f100 1 o25' [1,0,1,0] [1] ⟨[(0,fL .Claim a),(1,.fl (.fn 83 [(0,0)])),(7,fI b),(8,fI c)],[[dI d,dI e,dI f,dL .i64 g,dL .Trust h,dL .Claim i,dL .Claim j,dL .Claim k,dL .Message l]]⟩
def z6h (a : Claim) (b e f : Int) (g : List Int) (h : List Trust) (i j k : List Claim) (m : List Message) : Option (Bool × Int × Int × Int × List Int × List Trust × List Claim × List Claim × List Claim × List Message) := callC tn 83 [dA .Claim a,.ptr 0 0] [[dI b,dI e,dI f,.d (.lf (.l (c := .i64) g)),.d (.lf (.l (c := .Trust) h)),.d (.lf (.l (c := .Claim) i)),.d (.lf (.l (c := .Claim) j)),.d (.lf (.l (c := .Claim) k)),.d (.lf (.l (c := .Message) m))]] o23'
def z1q (a : List Claim) (b c d e : Int) : Option (Int) := gp 123 Tryz.f123 0 o1' [1,0,1,0] [1] ⟨[(0,fL .Claim a),(3,fP 0),(7,fI b),(8,fI c)],[[dI d,dI e]]⟩
def z2e (a : Int) (b : List Message) (c d e : Int) (f : List Int) (g : List Trust) (h i : List Member) : Option (Config) := gp 126 Tryz.f126 0 o15' [1,1,0,1,0] [3] ⟨[(0,fI a),(4,fP 0),(6,fP 1),(7,fP 2),(12,fL .Message b),(13,fI c),(14,fI d)],[[dI e,dL .i64 f,dL .Trust g],[.own .Member h false],[.own .Member i false]]⟩
def z3w (a : Trust) : Option (Trust) := callC tn 141 [dA .Trust a] [] o12'
def z3h (a : List Message) (b : List Claim) (c d e f g : Int) (h : List Int) (i : List Trust) (j k l : List Claim) (m : List Message) (n : List Member) (o p : Int) : Option (Claim × Bool) := gp 127 Tryz.f127 0 o26' [1,1,0,1,0] [3] ⟨[(2,fP 0),(3,fP 1),(4,fP 2),(6,fL .Message a),(17,fL .Claim b),(18,fI c),(19,fI d)],[[dI e,dI f,dI g,dL .i64 h,dL .Trust i,dL .Claim j,dL .Claim k,dL .Claim l,dL .Message m],[dL .Member n],[dI o,dI p]]⟩
def z63 (a : List Message) (b : Claim) : Option (Int) := callC tn 144 [.d (.lf (.l (c := .Message) a)),dA .Claim b] [] o1'
def z40 (a : List Message) (b : Claim) : Option (Int) := callC tn 129 [.d (.lf (.l (c := .Message) a)),dA .Claim b] [] o1'
def z4j (a : Config) (b c d : Int) : Option (Bool) := callC tn 143 [dA .Config a,dI b,dI c,dI d] [] o0'
def z1z (a : List Message) (b : Claim) : Option (Int) := callC tn 146 [.d (.lf (.l (c := .Message) a)),dA .Claim b,.fn 153 []] [] o1'
def z1w (a : List Message) (b : Claim) : Option (Int) := callC tn 146 [.d (.lf (.l (c := .Message) a)),dA .Claim b,.fn 147 []] [] o1'
def z58 (a : Config) (b c : Int) : Option (Bool) := callC tn 152 [dA .Config a,dI b,dI c] [] o0'
def z4t (a : Config) (b : Int) : Option (Int) := callC tn 145 [dA .Config a,dI b] [] o1'
def z2w (a : Config) : Option (Int) := callC tn 166 [dA .Config a] [] o1'
def z2z (a : Trust) (b : Int) : Option (Bool) := callC tn 167 [dA .Trust a,dI b] [] o0'
def z5e (a : Config) (b : Int) : Option (Int × List Int) := callC tn 154 [dA .Config a,dI b] [] o27'
def z20 (a b : List Int) (c d : Int) : Option (Bool) := gp 113 Tryz.f113 0 o0' [1,1,0,1,0] [0] ⟨[(0,fL .i64 a),(1,fL .i64 b),(12,fI c),(13,fI d)],[]⟩
def z0i (a b : List Trust) (c d : Int) : Option (Bool) := gp 114 Tryz.f114 0 o0' [1,1,0,1,0] [0] ⟨[(1,fL .Trust a),(2,.fl (.fn 75 [])),(15,fL .Trust b),(16,fI c),(17,fI d)],[]⟩
def z0l (a : List Int) (b c : Int) : Option (Int) := gp 134 Tryz.f134 0 o1' [1,0,1,0] [0] ⟨[(0,fL .i64 a),(1,.fl (.fn 119 [])),(7,fI b),(8,fI c)],[]⟩
def z5f (a : Int) : Option (Bool) := callC tn 119 [dI a] [] o0'
def z6i (a : Int) : Option (Bool) := callC tn 120 [dI a] [] o0'
def z5g (a b : Int) (c : List Claim) : Option (Unit × List Claim) := gp 136 Tryz.f136 1 o19' [1,1,1,0,1,0] [1] ⟨[(0,.fl (.ref 0)),(1,.fl (.fn 137 [])),(5,fI a),(6,fI b)],[[.own .Claim c false]]⟩
def z4c (a : List Claim) (b : List Message) (c d : Int) : Option (List Claim) := gp 142 Tryz.f142 0 o2' [1,1,0,1,0] [0] ⟨[(3,.fl (.own .Claim a false)),(6,fL .Message b),(7,fI c),(8,fI d)],[]⟩
def z0y (a b : Int) (c : List Claim) : Option (Int × List Claim) := gp 100 Tryz.f100 1 o9' [1,0,1,0] [1] ⟨[(0,.fl (.ref 0)),(1,.fl (.fn 137 [])),(7,fI a),(8,fI b)],[[.own .Claim c false]]⟩
def z64 (a : Claim) : Option (Bool) := callC tn 137 [dA .Claim a] [] o0'
def z00 (a b c : Int) (d e : Bool) (f : List Claim) : Option (List Claim) := gp 150 Tryz.f150 1 o3' [1,1,0] [1] ⟨[(0,.fl (.ref 0)),(1,fI a),(2,fI b),(3,fI c),(4,.fl (.fn 116 [])),(10,fB d),(11,fB e)],[[.own .Claim f false]]⟩
def z1b (a b : Int) (c : List Claim) : Option (List Claim) := callC tn 156 [.ref 0,dI a,dI b,.fn 116 []] [[.own .Claim c false]] o3'
def z1g (a b : Int) (c : List Claim) : Option (List Claim) := callC tn 157 [.ref 0,dI a,dI b,.fn 116 []] [[.own .Claim c false]] o3'
def z1c (a b : Int) (c : List Claim) : Option (List Claim) := callC tn 158 [.ref 0,dI a,dI b,.fn 116 []] [[.own .Claim c false]] o3'
def z0p (a b : Int) (c : List Claim) : Option (Int × Int × List Claim) := callC tn 159 [.ref 0,dI a,dI b,.fn 116 []] [[.own .Claim c false]] o31'
def z0m (a b : Int) (c : List Claim) : Option (List Claim) := callC tn 160 [.ref 0,dI a,dI b,.fn 116 []] [[.own .Claim c false]] o3'
def z08 (a b : Int) (c : List Claim) : Option (Bool × List Claim) := callC tn 161 [.ref 0,dI a,dI b,.fn 116 []] [[.own .Claim c false]] o10'
def z04 (a b c : Int) (d : List Claim) : Option (Int × List Claim) := callC tn 162 [.ref 0,dI a,dI b,dI c,.fn 116 []] [[.own .Claim d false]] o9'
def z02 (a b c : Int) (d : List Claim) : Option (Int × Bool × List Claim) := callC tn 163 [.ref 0,dI a,dI b,dI c,.fn 116 []] [[.own .Claim d false]] o7'
def z41 (a : Int) : Option (Int) := callC tn 170 [dI a] [] ⟨[.lf (.i .u64)],[]⟩
def z0k (a : Int) (b : List Claim) (c : Int) : Option (Int × List Claim × Int) := callC tn 172 [.ref 0,dI a,.ptr 1 0,.fn 116 []] [[.own .Claim b false],[dI c]] o28'
def z10 (a b c : Int) (d : List Claim) (e : Int) : Option (Int × List Claim × Int) := callC tn 173 [.ref 0,dI a,dI b,dI c,.ptr 1 0,.fn 116 []] [[.own .Claim d false],[dI e]] o28'
def z11 (a b : Int) (c : List Claim) (d : Int) : Option (Int × Int × List Claim × Int) := callC tn 176 [.ref 0,dI a,dI b,.ptr 1 0,.fn 116 []] [[.own .Claim c false],[dI d]] o32'
def z29 (a : Int) (b : List Voter) (c d : Int) (e : List Claim) (f g h i j : Int) (k : List Int) (l : List Trust) (m n o : List Claim) (p : List Message) (q r s : Int) (t : List Int) (u : List Trust) (v w : List Claim) (x y z : Int) (A : List Int) (B : List Trust) (C : List Int) (D E F G : Int) (H : List Int) (I : List Trust) (J K L : List Claim) (M : List Message) (N O P : Int) (Q : List Int) (R : List Trust) (S T : List Claim) (U V W : Int) (X : List Int) (Y : List Trust) (Z bb bc : List Claim) (bd : List Message) : Option (Bool) := gp 7 Tryz.f7 0 o0' [1,1,1,1,1,1,0,1,0,0,1,1,0,0,1,1,0,1,0] [7,7,7,8] ⟨[(5,fI a),(7,fP 0),(8,fP 1),(9,fP 2),(10,fP 3),(13,fP 4),(14,fP 5),(15,fP 6),(17,fP 7),(69,fL .Voter b),(70,fI c),(71,fI d),(109,fL .Claim e),(110,fI f),(111,fI g)],[[dI h,dI i,dI j,dL .i64 k,dL .Trust l,dL .Claim m,dL .Claim n,dL .Claim o,dL .Message p],[dI q,dI r,dI s,dL .i64 t,dL .Trust u,dL .Claim v,dL .Claim w],[dI x,dI y],[dI z,dL .i64 A,dL .Trust B],[dL .i64 C,dI D],[dI E,dI F,dI G,dL .i64 H,dL .Trust I,dL .Claim J,dL .Claim K,dL .Claim L,dL .Message M],[dI N,dI O,dI P,dL .i64 Q,dL .Trust R,dL .Claim S,dL .Claim T],[dI U,dI V,dI W,dL .i64 X,dL .Trust Y,dL .Claim Z,dL .Claim bb,dL .Claim bc,dL .Message bd]]⟩
def z42 (a : List Claim) (b c d e f : Int) (g : List Int) (h : List Trust) (i j k : List Claim) (l : List Message) : Option (Bool) := gp 35 Tryz.f35 0 o0' [1,1,1,0,1,0] [1] ⟨[(1,fP 0),(60,fL .Claim a),(61,fI b),(62,fI c)],[[dI d,dI e,dI f,dL .i64 g,dL .Trust h,dL .Claim i,dL .Claim j,dL .Claim k,dL .Message l]]⟩
def z4n (a b c d e : Int) (f : List Int) (g : List Trust) (h i j : List Claim) (k : List Message) (l m n : Int) (o : List Int) (p : List Trust) (q r s : List Claim) (t : List Message) : Option (Bool) := gp 28 Tryz.f28 0 o0' [1,1,0,1,0] [2] ⟨[(2,fP 0),(3,fP 1),(61,fI a),(62,fI b)],[[dI c,dI d,dI e,dL .i64 f,dL .Trust g,dL .Claim h,dL .Claim i,dL .Claim j,dL .Message k],[dI l,dI m,dI n,dL .i64 o,dL .Trust p,dL .Claim q,dL .Claim r,dL .Claim s,dL .Message t]]⟩
def z2x (a b : List Claim) (c d : Int) : Option (Bool) := gp 84 Tryz.f84 0 o0' [1,0,1,0] [0] ⟨[(0,fL .Claim a),(5,fL .Claim b),(6,fI c),(7,fI d)],[]⟩
def z6q (a b : Claim) : Option (Int) := callC tn 117 [dA .Claim a,dA .Claim b] [] o1'
def z25 (a b : List Claim) (c d : Int) : Option (Bool) := gp 64 Tryz.f64 0 o0' [1,0,1,0] [0] ⟨[(0,fL .Claim a),(7,fL .Claim b),(8,fI c),(9,fI d)],[]⟩
def z3s (a b c : Int) (d : List Int) (e : List Trust) (f : Int) (g : List Int) (h : List Trust) : Option (Bool) := gp 76 Tryz.f76 0 o0' [1,1,0,1,0] [2] ⟨[(2,fP 0),(3,fP 1),(30,fI a),(31,fI b)],[[dI c,dL .i64 d,dL .Trust e],[dI f,dL .i64 g,dL .Trust h]]⟩
def z5c (a b : List Claim) (c d : Int) : Option (Bool) := gp 15 Tryz.f15 0 o0' [1,1,0,1,0] [0] ⟨[(0,fL .Claim a),(1,fL .Claim b),(12,fI c),(13,fI d)],[]⟩
def z0e (a b : List Message) (c d : Int) : Option (Bool) := gp 89 Tryz.f89 0 o0' [1,1,0,1,0] [0] ⟨[(1,fL .Message a),(2,.fl (.fn 87 [])),(15,fL .Message b),(16,fI c),(17,fI d)],[]⟩
def z4o (a b : List Int) (c d : Int) : Option (Bool) := gp 115 Tryz.f115 0 o0' [1,1,0,1,0] [0] ⟨[(0,fL .i64 a),(1,fL .i64 b),(12,fI c),(13,fI d)],[]⟩
def z65 (a : Int) (b : Trust) (e : List Message) : Option (Config) := callC tn 23 [dI a,dA .Trust b,.d (.lf (.l (c := .Message) e))] [] o15'
def z5s (a : List Message) (b : Claim) : Option (Int) := callC tn 24 [.d (.lf (.l (c := .Message) a)),dA .Claim b] [] o1'
def z5t (a : Config) (b c : Int) : Option (Bool) := callC tn 22 [dA .Config a,dI b,dI c] [] o0'
def z5u (a : Config) (b : Int) : Option (Int) := callC tn 71 [dA .Config a,dI b] [] o1'
def z5n (a b : Int) : Option (Bool) := callC tn 70 [dI a,dI b] [] o0'
def z3q (a : Int) : Option (Bool) := callC tn 109 [dI a] [] o0'
def z4u (a : Config) : Option (Int) := callC tn 111 [dA .Config a] [] o1'
def z5h (a : Config) (b : Int) : Option (List Int) := callC tn 112 [dA .Config a,dI b] [] o8'
def z55 (a : List Claim) (b c d e f : Int) (g : List Int) (h : List Trust) (i j k : List Claim) (l : List Message) (m n : Int) : Option (Bool) := gp 20 Tryz.f20 0 o0' [1,1,0,1,0] [2] ⟨[(2,fP 0),(3,fP 1),(13,fL .Claim a),(14,fI b),(15,fI c)],[[dI d,dI e,dI f,dL .i64 g,dL .Trust h,dL .Claim i,dL .Claim j,dL .Claim k,dL .Message l],[dI m,dI n]]⟩
def z3x (a b : Claim) : Option (Bool) := callC tn 67 [dA .Claim a,dA .Claim b] [] o0'
def z7d (a : List Message) (b : Claim) : Option (Int) := callC tn 69 [.d (.lf (.l (c := .Message) a)),dA .Claim b] [] o1'
def z61 (a : Config) (b c d : Int) : Option (Bool) := callC tn 68 [dA .Config a,dI b,dI c,dI d] [] o0'
def z6j (a : Config) (b c : Int) : Option (Bool) := callC tn 110 [dA .Config a,dI b,dI c] [] o0'
def z4d (a : Trust) (b : Int) : Option (Bool) := callC tn 131 [dA .Trust a,dI b] [] o0'
def z5x (a : List Claim) (b c d e : Int) : Option (Bool) := gp 25 Tryz.f25 0 o0' [1,0,1,0] [1] ⟨[(3,fP 0),(7,fL .Claim a),(8,fI b),(9,fI c)],[[dI d,dI e]]⟩
def z4p (a : List Claim) (b c d e f : Int) (g : List Int) (h : List Trust) (i j k : List Claim) (l : List Message) (m n o p q : Int) (r : List Int) (s : List Trust) (t u v : List Claim) (w : List Message) : Option (Voter × Int) := gp 40 Tryz.f40 0 o5' [1,1,0,1,0] [3] ⟨[(2,fP 0),(3,fP 1),(4,fP 2),(22,fL .Claim a),(23,fI b),(24,fI c)],[[dI d,dI e,dI f,dL .i64 g,dL .Trust h,dL .Claim i,dL .Claim j,dL .Claim k,dL .Message l],[dI m,dI n],[dI o,dI p,dI q,.own .i64 r false,.own .Trust s false,.own .Claim t false,.own .Claim u false,.own .Claim v false,.own .Message w false]]⟩
def z72 (a : List Claim) (b : Claim) : Option (List Claim) := callC tn 91 [.d (.lf (.l (c := .Claim) a)),dA .Claim b] [] o2'
def z3d (a : Bool) (b : List Message) (c d e f g : Int) (h : List Int) (i : List Trust) (j k l : List Claim) (m : List Message) (n o p : Int) (q : List Int) (r : List Trust) (s t : List Claim) (u v w : Int) (x : List Int) (y : List Trust) (z A B : List Claim) (C : List Message) (D E F : Int) (G : List Int) (H : List Trust) (I J K : List Claim) (L : List Message) : Option (Voter × Int) := gp 42 Tryz.f42 0 o5' [1,1,1,1,1,0,1,0] [4] ⟨[(2,fP 0),(3,fP 1),(4,fP 2),(6,fP 3),(7,fB a),(29,fL .Message b),(30,fI c),(31,fI d)],[[dI e,dI f,dI g,dL .i64 h,dL .Trust i,dL .Claim j,dL .Claim k,dL .Claim l,dL .Message m],[dI n,dI o,dI p,dL .i64 q,dL .Trust r,dL .Claim s,dL .Claim t],[dI u,dI v,dI w,.own .i64 x false,.own .Trust y false,.own .Claim z false,.own .Claim A false,.own .Claim B false,.own .Message C false],[dI D,dI E,dI F,dL .i64 G,dL .Trust H,dL .Claim I,dL .Claim J,dL .Claim K,.own .Message L false]]⟩
def z3y (a : Bool) (b c d : Int) (e : List Int) (f : List Trust) (g h i : List Claim) (j : List Message) (k l m : Int) (n : List Int) (o : List Trust) (p q r : List Claim) (s : List Message) (t u v : Int) (w : List Int) (x : List Trust) (y z A : List Claim) (B : List Message) : Option (Voter) := gp 92 Tryz.f92 0 o4' [1,0,1,0] [3] ⟨[(2,fP 0),(3,fP 1),(4,fP 2),(5,fB a)],[[dI b,dI c,dI d,dL .i64 e,dL .Trust f,dL .Claim g,dL .Claim h,dL .Claim i,dL .Message j],[dI k,dI l,dI m,dL .i64 n,dL .Trust o,dL .Claim p,dL .Claim q,dL .Claim r,dL .Message s],[dI t,dI u,dI v,.own .i64 w false,.own .Trust x false,.own .Claim y false,.own .Claim z false,.own .Claim A false,.own .Message B false]]⟩
def z2l (a b : List Claim) (c d : Int) : Option (List Claim) := gp 18 Tryz.f18 0 o2' [1,1,0,1,0,0,1,0,0,1,0] [0,0,0,0] ⟨[(0,fL .Claim a),(3,.fl (.own .Claim b false)),(4,fI c),(5,fI d)],[]⟩
def z4v (a : List Claim) (b : List Message) (c d e f g : Int) (h : List Int) (i : List Trust) (j k l : List Claim) (m : List Message) : Option (List Claim) := gp 19 Tryz.f19 0 o2' [1,1,0,1,0] [1] ⟨[(3,fL .Claim a),(7,fL .Message b),(8,fI c),(9,fI d)],[[dI e,dI f,dI g,dL .i64 h,dL .Trust i,dL .Claim j,dL .Claim k,dL .Claim l,dL .Message m]]⟩
def z4e (a : Int) (b : List Int) (c d : Int) (e : List Int) (f : List Trust) (g : Int) (h : List Int) (i : List Trust) (j : Int) (k : List Int) (l : List Trust) : Option (Trust × List Int × Int) := gp 80 Tryz.f80 1 o6' [1,1,0,1,0,1,1,1,1,1,1,1,1,1,0,1,0,1,0] [3,4] ⟨[(4,fP 2),(6,fP 3),(7,fI a)],[[dL .i64 b,dI c],[dI d,dL .i64 e,dL .Trust f],[dI g,.own .i64 h false,.own .Trust i false],[dI j,.own .i64 k false,.own .Trust l false]]⟩
def z51 (a b c : Int) (d : List Int) (e f : Int) (g : List Int) (h : List Trust) (i : Int) (j : List Int) (k : List Trust) : Option (Trust × List Int × Int) := gp 47 Tryz.f47 1 o6' [1,1,1,1,0,1,0,0,1,0] [3] ⟨[(0,fP 0),(1,fI a),(2,fI b),(6,fP 1),(7,fP 2),(11,fI c)],[[dL .i64 d,dI e],[dI f,.own .i64 g false,.own .Trust h false],[dI i,.own .i64 j false,.own .Trust k false]]⟩
def z3z (a : List Int) (b : Int) (c : List Int) (d : Int) : Option (List Int × List Int × Int) := gp 13 Tryz.f13 1 o18' [1,1,1,0,1,0] [1] ⟨[(0,fP 0),(5,.fl (.own .i64 a false)),(7,fI b)],[[dL .i64 c,dI d]]⟩
def z23 (a : List Trust) (b c d : Int) (e : List Int) (f : List Trust) : Option (Int) := gp 99 Tryz.f99 0 o1' [1,1,1,1,0,1,0] [1] ⟨[(49,fL .Trust a),(50,fI b),(51,fI c)],[[dI d,dL .i64 e,dL .Trust f]]⟩
def z2m (a : Int) (b : List Int) (c d : Int) : Option (Int × Int) := gp 122 Tryz.f122 0 o14' [1,1,0,1,0] [0] ⟨[(4,fI a),(7,fL .i64 b),(8,fI c),(9,fI d)],[]⟩
def z4w (a : Int) (b : List Int) (c d : Int) : Option (Int) := gp 133 Tryz.f133 0 o1' [1,1,0,1,0] [0] ⟨[(3,fI a),(6,fL .i64 b),(7,fI c),(8,fI d)],[]⟩
def z2y (a : List Message) (b : List Claim) (c d e f g : Int) (h : List Int) (i : List Trust) (j k l : List Claim) (m : List Message) (n o p : Int) (q : List Int) (r : List Trust) (s t u : List Claim) (v : List Message) (w : List Member) (x y : Int) : Option (Voter) := gp 104 Tryz.f104 0 o4' [1,1,1,1,0,1,0] [4] ⟨[(1,fP 0),(2,fP 1),(3,fP 2),(6,fL .Message a),(43,fL .Claim b),(44,fI c),(45,fI d)],[[dI e,dI f,dI g,dL .i64 h,dL .Trust i,dL .Claim j,dL .Claim k,dL .Claim l,dL .Message m],[dI n,dI o,dI p,.own .i64 q false,.own .Trust r false,.own .Claim s false,.own .Claim t false,.own .Claim u false,.own .Message v false],[dL .Member w],[dI x,dI y]]⟩
def z43 (a : Config) (b c : Int) : Option (Bool) := callC tn 128 [dA .Config a,dI b,dI c] [] o0'
def z30 (a : List Trust) (b c d : Int) (e : List Int) (f : List Trust) (g : Int) (h : List Int) (i : List Trust) (j : Int) (k : List Int) (l : List Trust) : Option (Trust) := gp 141 Tryz.f141 0 o12' [1,1,0,1,0] [3] ⟨[(2,fP 1),(3,fP 2),(13,fL .Trust a),(14,fI b),(15,fI c)],[[dI d,dL .i64 e,dL .Trust f],[dI g,.own .i64 h false,.own .Trust i false],[dI j,.own .i64 k false,.own .Trust l false]]⟩
def z16 (a : Int) (b : List Message) (c d e f : Int) : Option (Int) := gp 146 Tryz.f146 0 o1' [1,1,0,1,0] [1] ⟨[(2,.fl (.fn 153 [])),(4,fP 0),(7,fI a),(10,fL .Message b),(11,fI c),(12,fI d)],[[dI e,dI f]]⟩
def z5i (a : Message) : Option (List Claim) := callC tn 153 [dA .Message a] [] o2'
def z0w (a : Int) (b : List Message) (c d e f : Int) : Option (Int) := gp 146 Tryz.f146 0 o1' [1,1,0,1,0] [1] ⟨[(2,.fl (.fn 147 [])),(4,fP 0),(7,fI a),(10,fL .Message b),(11,fI c),(12,fI d)],[[dI e,dI f]]⟩
def z4f (a : Message) : Option (List Claim) := callC tn 147 [dA .Message a] [] o2'
def z1o (a : Int) (b : List Member) (c d : Int) (e : List Member) : Option (Int) := gp 166 Tryz.f166 0 o1' [1,1,0,1,0] [1] ⟨[(3,fI a),(7,fL .Member b),(8,fI c),(9,fI d)],[[dL .Member e]]⟩
def z21 (a b : Int) (c : List Int) (d e f : Int) (g : List Int) (h : List Trust) : Option (Bool) := gp 167 Tryz.f167 0 o0' [1,1,1,0,1,0] [1] ⟨[(1,fI a),(2,fP 0),(5,fI b),(14,fL .i64 c),(15,fI d),(16,fI e)],[[dI f,dL .i64 g,dL .Trust h]]⟩
def z2q (a : Int) (b : List Int) (c : List Member) : Option (Int × List Int) := gp 154 Tryz.f154 0 o27' [1,1,1,1,0] [1] ⟨[(1,fI a),(2,fP 0),(6,.fl (.own .i64 b false))],[[dL .Member c]]⟩
def z66 (a : Config) (b : Int) : Option (Int × Bool) := callC tn 168 [dA .Config a,dI b] [] o13'
def z6r (a : Int) : Option (List Int) := callC tn 174 [dI a] [] o8'
def z0d (a b c : Int) (d : List Claim) : Option (List Claim) := gp 156 Tryz.f156 1 o3' [1,0] [1] ⟨[(0,.fl (.ref 0)),(1,fI a),(2,fI b),(3,.fl (.fn 116 [])),(8,fI c)],[[.own .Claim d false]]⟩
def z0q (a b c d : Int) (e : List Claim) : Option (List Claim) := gp 157 Tryz.f157 1 o3' [1,1,1,0,1,0] [1] ⟨[(0,.fl (.ref 0)),(3,.fl (.fn 116 [])),(8,fI a),(9,fI b),(10,fI c),(11,fI d)],[[.own .Claim e false]]⟩
def z17 (a b c : Int) (d : List Claim) : Option (List Claim) := callC tn 169 [.ref 0,dI a,dI b,dI c,.fn 116 []] [[.own .Claim d false]] o3'
def z0b (a b c e : Int) (f : List Claim) (g : Int) : Option (List Claim) := gp 158 Tryz.f158 1 o3' [1,1,0,1,1,1,0] [2] ⟨[(0,.fl (.ref 0)),(1,fI a),(8,fI b),(9,fP 1),(10,.fl (.d (.lf (.i .u64 c)))),(11,fI e)],[[.own .Claim f false],[.d (.lf (.i .u64 g))]]⟩
def z4g (a : Int) : Option (Int × Int) := callC tn 171 [.ptr 0 0] [[.d (.lf (.i .u64 a))]] o33'
def z0x (a b : Int) (c : List Claim) : Option (List Claim) := gp 160 Tryz.f160 1 o3' [1,1,0] [1] ⟨[(0,.fl (.ref 0)),(8,fI a),(9,fI b)],[[.own .Claim c false]]⟩
def z03 (a b c d : Int) (e : List Claim) : Option (Bool × List Claim) := gp 161 Tryz.f161 1 o10' [1,1,0,1,0] [1] ⟨[(0,.fl (.ref 0)),(1,fI a),(2,fI b),(3,.fl (.fn 116 [])),(9,fI c),(10,fI d)],[[.own .Claim e false]]⟩
def z0a (a b c : Int) (d : List Claim) : Option (Int × List Claim) := gp 162 Tryz.f162 1 o9' [1,1,1,0,0] [1] ⟨[(0,.fl (.ref 0)),(1,fI a),(4,.fl (.fn 116 [])),(11,fI b),(12,fI c)],[[.own .Claim d false]]⟩
def z12 (a b c : Int) (d : List Claim) : Option (Int × Bool × List Claim) := gp 163 Tryz.f163 1 o7' [1,1,1,0,0] [1] ⟨[(0,.fl (.ref 0)),(1,fI a),(4,.fl (.fn 116 [])),(12,fI b),(13,fI c)],[[.own .Claim d false]]⟩
def z2a (a : Int) (b : List Voter) (c d : Int) (e : List Message) (f g h i j : Int) (k : List Int) (l : List Trust) (m n o : List Claim) (p : List Message) (q r s : Int) (t : List Int) (u : List Trust) (v w : List Claim) (x y z : Int) (A : List Int) (B : List Trust) (C : List Int) (D E F G : Int) (H : List Int) (I : List Trust) (J K L : List Claim) (M : List Message) (N O P : Int) (Q : List Int) (R : List Trust) (S T : List Claim) (U V W : Int) (X : List Int) (Y : List Trust) (Z bb bc : List Claim) (bd : List Message) : Option (Bool) := gp 7 Tryz.f7 0 o0' [1,1,1,1,1,1,0,1,0,0,1,1,0,0,1,1,1,0,1,0] [7,7,7,8] ⟨[(5,fI a),(7,fP 0),(8,fP 1),(9,fP 2),(10,fP 3),(13,fP 4),(14,fP 5),(15,fP 6),(17,fP 7),(69,fL .Voter b),(70,fI c),(71,fI d),(142,fL .Message e),(143,fI f),(144,fI g)],[[dI h,dI i,dI j,dL .i64 k,dL .Trust l,dL .Claim m,dL .Claim n,dL .Claim o,dL .Message p],[dI q,dI r,dI s,dL .i64 t,dL .Trust u,dL .Claim v,dL .Claim w],[dI x,dI y],[dI z,dL .i64 A,dL .Trust B],[dL .i64 C,dI D],[dI E,dI F,dI G,dL .i64 H,dL .Trust I,dL .Claim J,dL .Claim K,dL .Claim L,dL .Message M],[dI N,dI O,dI P,dL .i64 Q,dL .Trust R,dL .Claim S,dL .Claim T],[dI U,dI V,dI W,dL .i64 X,dL .Trust Y,dL .Claim Z,dL .Claim bb,dL .Claim bc,dL .Message bd]]⟩
def z2i (a : List Message) (b c d e f : Int) (g : List Int) (h : List Trust) (i j k : List Claim) (l : List Message) : Option (Bool) := gp 35 Tryz.f35 0 o0' [1,1,1,1,0,1,0] [1] ⟨[(1,fP 0),(73,fL .Message a),(74,fI b),(75,fI c)],[[dI d,dI e,dI f,dL .i64 g,dL .Trust h,dL .Claim i,dL .Claim j,dL .Claim k,dL .Message l]]⟩
def z2d (a b : List Claim) (c d : Int) (e : List Claim) (f g h i : Int) : Option (Bool) := gp 64 Tryz.f64 0 o0' [1,0,1,0,0,1,1,0,0,1,1,0] [0,0,0,1] ⟨[(0,fL .Claim a),(4,fP 0),(7,fL .Claim b),(8,fI c),(9,fI d),(16,fL .Claim e),(17,fI f),(18,fI g)],[[dI h,dI i]]⟩
def z4q (a : Int) (b : List Message) (c d e : Int) (f : List Int) (g : List Trust) (h i : List Member) : Option (Config) := gp 23 Tryz.f23 0 o15' [1,1,0,1,0] [3] ⟨[(0,fI a),(4,fP 0),(6,fP 1),(7,fP 2),(12,fL .Message b),(13,fI c),(14,fI d)],[[dI e,dL .i64 f,dL .Trust g],[.own .Member h false],[.own .Member i false]]⟩
def z2f (a : Int) (b : List Message) (c d e f : Int) : Option (Int) := gp 24 Tryz.f24 0 o1' [1,1,0,1,0] [1] ⟨[(3,fP 0),(5,fI a),(8,fL .Message b),(9,fI c),(10,fI d)],[[dI e,dI f]]⟩
def z4k (a : Int) (b : List Int) (c d : Int) (e : List Member) : Option (Int) := gp 71 Tryz.f71 0 o1' [1,1,1,0,1,0] [1] ⟨[(5,fI a),(17,fL .i64 b),(18,fI c),(19,fI d)],[[dL .Member e]]⟩
def z2g (a : Int) (b : List Member) (c d : Int) (e : List Member) : Option (Int) := gp 111 Tryz.f111 0 o1' [1,1,0,1,0] [1] ⟨[(3,fI a),(7,fL .Member b),(8,fI c),(9,fI d)],[[dL .Member e]]⟩
def z2r (a : Int) (b : List Int) (c : Bool) (d : List Member) : Option (List Int) := gp 112 Tryz.f112 0 o8' [1,1,1,1,0,1,0] [1] ⟨[(2,fP 0),(5,fI a),(6,.fl (.own .i64 b false)),(7,fB c)],[[dL .Member d]]⟩
def z6x (a : Int) : Option (List Int) := callC tn 132 [dI a] [] o8'
def z3i (a : Int) (b : List Message) (c d e f : Int) : Option (Int) := gp 69 Tryz.f69 0 o1' [1,1,0,1,0] [1] ⟨[(3,fP 0),(5,fI a),(8,fL .Message b),(9,fI c),(10,fI d)],[[dI e,dI f]]⟩
def z2p (a b : Int) (c : List Int) (d e f : Int) (g : List Int) (h : List Trust) : Option (Bool) := gp 131 Tryz.f131 0 o0' [1,1,1,0,1,0] [1] ⟨[(1,fI a),(2,fP 0),(5,fI b),(14,fL .i64 c),(15,fI d),(16,fI e)],[[dI f,dL .i64 g,dL .Trust h]]⟩
def z38 (a : Bool) (b : List Claim) (c d e f g : Int) (h : List Int) (i : List Trust) (j k l : List Claim) (m : List Message) (n o p : Int) (q : List Int) (r : List Trust) (s t u : List Claim) (v : List Message) (w x y : Int) (z : List Int) (A : List Trust) (B C D : List Claim) (E : List Message) : Option (Voter) := gp 92 Tryz.f92 0 o4' [1,0,1,0,0,1,0,1,1,0] [3,3,3,3] ⟨[(2,fP 0),(3,fP 1),(4,fP 2),(5,fB a),(13,fL .Claim b),(14,fI c),(15,fI d)],[[dI e,dI f,dI g,dL .i64 h,dL .Trust i,dL .Claim j,dL .Claim k,dL .Claim l,dL .Message m],[dI n,dI o,dI p,dL .i64 q,dL .Trust r,dL .Claim s,dL .Claim t,dL .Claim u,dL .Message v],[dI w,dI x,dI y,.own .i64 z false,.own .Trust A false,.own .Claim B false,.own .Claim C false,.own .Claim D false,.own .Message E false]]⟩
def z2s (a : List Message) (b : List Claim) (c d e f g : Int) (h : List Int) (i : List Trust) (j k l : List Claim) (m : List Message) (n o p : Int) (q : List Int) (r : List Trust) (s t u : List Claim) (v : List Message) (w x y : Int) (z : List Int) (A : List Trust) (B C D : List Claim) (E : List Message) : Option (Voter) := gp 92 Tryz.f92 0 o4' [1,1,1,0,1,0] [3] ⟨[(2,fP 0),(3,fP 1),(4,fP 2),(8,fL .Message a),(31,fL .Claim b),(32,fI c),(33,fI d)],[[dI e,dI f,dI g,dL .i64 h,dL .Trust i,dL .Claim j,dL .Claim k,dL .Claim l,dL .Message m],[dI n,dI o,dI p,dL .i64 q,dL .Trust r,dL .Claim s,dL .Claim t,dL .Claim u,dL .Message v],[dI w,dI x,dI y,.own .i64 z false,.own .Trust A false,.own .Claim B false,.own .Claim C false,.own .Claim D false,.own .Message E false]]⟩
def z1x (a b : Int) (c : List Trust) (d e f : Int) (g : List Int) (h : List Trust) : Option (Bool) := gp 167 Tryz.f167 0 o0' [1,1,1,1,0,1,0] [1] ⟨[(1,fI a),(2,fP 0),(5,fI b),(27,fL .Trust c),(28,fI d),(29,fI e)],[[dI f,dL .i64 g,dL .Trust h]]⟩
def z39 (a : Int) (b : List Int) (c d : Int) (e : List Member) : Option (Int × Bool) := gp 168 Tryz.f168 0 o13' [1,0,1,0] [1] ⟨[(1,fI a),(2,fP 0),(9,fL .i64 b),(10,fI c),(11,fI d)],[[dL .Member e]]⟩
def z67 (a : Config) (b c : Int) : Option (Bool) := callC tn 175 [dA .Config a,dI b,dI c] [] o0'
def z3a (a : Int) (b : List Int) (c : Int) : Option (List Int) := gp 174 Tryz.f174 0 o8' [1,1,0,1,0] [0] ⟨[(0,fI a),(3,.fl (.own .i64 b false)),(5,fI c)],[]⟩
def z0h (a b c d : Int) (e : List Claim) : Option (List Claim) := gp 156 Tryz.f156 1 o3' [1,0,0,1,0,0,1,0] [1,1,1,1] ⟨[(0,.fl (.ref 0)),(1,fI a),(2,fI b),(3,.fl (.fn 116 [])),(8,fI c),(9,fI d)],[[.own .Claim e false]]⟩
def z0r (a b c : Int) (d : List Claim) : Option (List Claim) := gp 157 Tryz.f157 1 o3' [1,1,1,1,1,0] [1] ⟨[(0,.fl (.ref 0)),(3,.fl (.fn 116 [])),(8,fI a),(9,fI b),(12,fI c)],[[.own .Claim d false]]⟩
def z0c (a b c : Int) (d : List Claim) : Option (List Claim) := gp 169 Tryz.f169 1 o3' [1,0] [1] ⟨[(0,.fl (.ref 0)),(2,fI a),(3,fI b),(4,.fl (.fn 116 [])),(10,fI c)],[[.own .Claim d false]]⟩
def z0z (a b c d : Int) (e : Bool) (f : List Claim) : Option (Bool × List Claim) := gp 161 Tryz.f161 1 o10' [1,1,0,1,0,0,1,0,0,0,0] [1,1,1,1] ⟨[(0,.fl (.ref 0)),(1,fI a),(2,fI b),(3,.fl (.fn 116 [])),(9,fI c),(10,fI d),(16,fB e)],[[.own .Claim f false]]⟩
def z0t (a b c : Int) (d : List Claim) : Option (Int × List Claim) := gp 162 Tryz.f162 1 o9' [1,1,1,0,0,0,0,0,0] [1,1,1,1] ⟨[(0,.fl (.ref 0)),(1,fI a),(4,.fl (.fn 116 [])),(11,fI b),(12,fI c)],[[.own .Claim d false]]⟩
def z0n (a b c : Int) (d : Bool) (e : List Claim) : Option (Int × Bool × List Claim) := gp 163 Tryz.f163 1 o7' [1,1,1,1,0,0] [1] ⟨[(0,.fl (.ref 0)),(1,fI a),(4,.fl (.fn 116 [])),(12,fI b),(13,fI c),(47,fB d)],[[.own .Claim e false]]⟩
def z2b (a : Int) (b : List Voter) (c d : Int) (e : List Trust) (f g h i j : Int) (k : List Int) (l : List Trust) (m n o : List Claim) (p : List Message) (q r s : Int) (t : List Int) (u : List Trust) (v w : List Claim) (x y z : Int) (A : List Int) (B : List Trust) (C : List Int) (D E F G : Int) (H : List Int) (I : List Trust) (J K L : List Claim) (M : List Message) (N O P : Int) (Q : List Int) (R : List Trust) (S T : List Claim) (U V W : Int) (X : List Int) (Y : List Trust) (Z bb bc : List Claim) (bd : List Message) : Option (Bool) := gp 7 Tryz.f7 0 o0' [1,1,1,1,1,1,0,1,0,0,1,1,0,0,1,1,1,1,1,0] [7,7,7,8] ⟨[(5,fI a),(7,fP 0),(8,fP 1),(9,fP 2),(10,fP 3),(13,fP 4),(14,fP 5),(15,fP 6),(17,fP 7),(69,fL .Voter b),(70,fI c),(71,fI d),(175,fL .Trust e),(176,fI f),(177,fI g)],[[dI h,dI i,dI j,dL .i64 k,dL .Trust l,dL .Claim m,dL .Claim n,dL .Claim o,dL .Message p],[dI q,dI r,dI s,dL .i64 t,dL .Trust u,dL .Claim v,dL .Claim w],[dI x,dI y],[dI z,dL .i64 A,dL .Trust B],[dL .i64 C,dI D],[dI E,dI F,dI G,dL .i64 H,dL .Trust I,dL .Claim J,dL .Claim K,dL .Claim L,dL .Message M],[dI N,dI O,dI P,dL .i64 Q,dL .Trust R,dL .Claim S,dL .Claim T],[dI U,dI V,dI W,dL .i64 X,dL .Trust Y,dL .Claim Z,dL .Claim bb,dL .Claim bc,dL .Message bd]]⟩
def z27 (a : Int) (b : List Int) (c : Bool) (d : List Int) (e f : Int) (g : List Member) : Option (List Int) := gp 112 Tryz.f112 0 o8' [1,1,1,1,0,1,0,0,1,0,1,1,0] [1,1,1,1] ⟨[(2,fP 0),(5,fI a),(6,.fl (.own .i64 b false)),(7,fB c),(19,fL .i64 d),(20,fI e),(21,fI f)],[[dL .Member g]]⟩
def z44 (a : Int) (b : List Int) (c : Int) : Option (List Int) := gp 132 Tryz.f132 0 o8' [1,1,0,1,0] [0] ⟨[(0,fI a),(3,.fl (.own .i64 b false)),(4,fI c)],[]⟩
def z28 (a b : Int) (c : List Trust) (d e f : Int) (g : List Int) (h : List Trust) : Option (Bool) := gp 131 Tryz.f131 0 o0' [1,1,1,1,0,1,0] [1] ⟨[(1,fI a),(2,fP 0),(5,fI b),(27,fL .Trust c),(28,fI d),(29,fI e)],[[dI f,dL .i64 g,dL .Trust h]]⟩
def z6m (a : Bool) (b : List Claim) (c d : Int) (e : Bool) (f g h : Int) (i : List Int) (j : List Trust) (k l m : List Claim) (n : List Message) (o p q : Int) (r : List Int) (s : List Trust) (t u v : List Claim) (w : List Message) (x y z : Int) (A : List Int) (B : List Trust) (C D E : List Claim) (F : List Message) : Option (Voter) := gp 92 Tryz.f92 0 o4' [1,0,1,0] [3] ⟨[(2,fP 0),(3,fP 1),(4,fP 2),(5,fB a),(13,fL .Claim b),(14,fI c),(15,fI d),(16,fB e)],[[dI f,dI g,dI h,dL .i64 i,dL .Trust j,dL .Claim k,dL .Claim l,dL .Claim m,dL .Message n],[dI o,dI p,dI q,dL .i64 r,dL .Trust s,dL .Claim t,dL .Claim u,dL .Claim v,dL .Message w],[dI x,dI y,dI z,.own .i64 A false,.own .Trust B false,.own .Claim C false,.own .Claim D false,.own .Claim E false,.own .Message F false]]⟩
def z0j (a b c d : Int) (e : List Claim) : Option (Bool × List Claim) := gp 161 Tryz.f161 1 o10' [1,1,0,1,0,0,1,0,0,0,0] [1,1,1,1] ⟨[(0,.fl (.ref 0)),(1,fI a),(2,fI b),(3,.fl (.fn 116 [])),(9,fI c),(10,fI d)],[[.own .Claim e false]]⟩
def z07 (a b c d e : Int) (f : List Claim) : Option (Bool × List Claim) := gp 161 Tryz.f161 1 o10' [1,1,0,1,0,0,1,0,0,1,1,1,1,0,1,0,1,0] [1,1,1,1] ⟨[(0,.fl (.ref 0)),(1,fI a),(2,fI b),(3,.fl (.fn 116 [])),(9,fI c),(10,fI d),(11,fI e)],[[.own .Claim f false]]⟩
def z05 (a b c d e : Int) (f : List Claim) : Option (Bool × List Claim) := gp 161 Tryz.f161 1 o10' [1,1,0,1,0,0,1,0,0,1,1,1,1,1,1,0,1,0] [1,1,1,1] ⟨[(0,.fl (.ref 0)),(1,fI a),(2,fI b),(3,.fl (.fn 116 [])),(9,fI c),(10,fI d),(12,fI e)],[[.own .Claim f false]]⟩
def z0f (a b c : Int) (d : Bool) (e : List Claim) : Option (Int × List Claim) := gp 162 Tryz.f162 1 o9' [1,1,1,0,0,0,0,1,0,0] [1,1,1,1] ⟨[(0,.fl (.ref 0)),(1,fI a),(4,.fl (.fn 116 [])),(11,fI b),(12,fI c),(47,fB d)],[[.own .Claim e false]]⟩
def z13 (a b c : Int) (d : List Claim) : Option (Int × Bool × List Claim) := gp 163 Tryz.f163 1 o7' [1,1,1,1,0,0] [1] ⟨[(0,.fl (.ref 0)),(1,fI a),(4,.fl (.fn 116 [])),(12,fI b),(13,fI c)],[[.own .Claim d false]]⟩
def z06 (a b c : Int) (d : List Claim) : Option (Int × Bool × List Claim) := gp 163 Tryz.f163 1 o7' [1,1,1,1,1,1,1,1,1,0,0] [1] ⟨[(0,.fl (.ref 0)),(1,fI a),(4,.fl (.fn 116 [])),(12,fI b),(13,fI c)],[[.own .Claim d false]]⟩
def z4h (a : Int) (b : List Int) (c : Bool) (d : List Int) (e f : Int) (g : Bool) (h : List Member) : Option (List Int) := gp 112 Tryz.f112 0 o8' [1,1,1,1,0,1,0] [1] ⟨[(2,fP 0),(5,fI a),(6,.fl (.own .i64 b false)),(7,fB c),(19,fL .i64 d),(20,fI e),(21,fI f),(22,fB g)],[[dL .Member h]]⟩
def z0u (a b c : Int) (d : List Claim) : Option (Int × List Claim) := gp 162 Tryz.f162 1 o9' [1,1,1,0,0,0,0,1,0,0] [1,1,1,1] ⟨[(0,.fl (.ref 0)),(1,fI a),(4,.fl (.fn 116 [])),(11,fI b),(12,fI c)],[[.own .Claim d false]]⟩
def z14 (a b c : Int) (d : List Claim) : Option (Int × Bool × List Claim) := gp 163 Tryz.f163 1 o7' [1,1,1,1,1,1,1,1,1,0,0,0,0,0,0] [1,1,1,1] ⟨[(0,.fl (.ref 0)),(1,fI a),(4,.fl (.fn 116 [])),(12,fI b),(13,fI c)],[[.own .Claim d false]]⟩
def z0o (a b c : Int) (d : Bool) (e : List Claim) : Option (Int × Bool × List Claim) := gp 163 Tryz.f163 1 o7' [1,1,1,1,1,1,1,1,1,0,0,0,0,1,0,0] [1,1,1,1] ⟨[(0,.fl (.ref 0)),(1,fI a),(4,.fl (.fn 116 [])),(12,fI b),(13,fI c),(120,fB d)],[[.own .Claim e false]]⟩
def z15 (a b c : Int) (d : List Claim) : Option (Int × Bool × List Claim) := gp 163 Tryz.f163 1 o7' [1,1,1,1,1,1,1,1,1,0,0,0,0,1,0,0] [1,1,1,1] ⟨[(0,.fl (.ref 0)),(1,fI a),(4,.fl (.fn 116 [])),(12,fI b),(13,fI c)],[[.own .Claim d false]]⟩
end
end Go.Proofs.YthbpagedblodfaaGreat
