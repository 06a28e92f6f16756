/- What the functions come to: names. -/
import Derived.Test.YthbpagedblodfaaGreatP19Env
namespace Go.Proofs.YthbpagedblodfaaGreat
open Go Go.Ab
abbrev dA (c : sig.TC) (x : sig.Ty c) : TL sig := .d (.ag (sig.cells c x))
noncomputable abbrev gp (f : Nat) (fn : Func) (k : Nat) (o : OSpec sig) (p ms : List Nat) (st : TSt sig) : Option o.Out := goC tn ⟨f, fn, k⟩ o (q0d fn p) (y1y fn p ms) st
abbrev fI (n : Int) : TV sig := .fl (.d (.lf (.i .i64 n)))
abbrev fB (n : Bool) : TV sig := .fl (.d (.lf (.b n)))
abbrev fL (c : sig.TC) (l : List (sig.Ty c)) : TV sig := .fl (.d (.lf (.l c l)))
abbrev fP (n : Nat) : TV sig := .fl (.ptr n 0)
abbrev dI (n : Int) : TL sig := .d (.lf (.i .i64 n))
abbrev dL (c : sig.TC) (l : List (sig.Ty c)) : TL sig := .d (.lf (.l c l))
noncomputable section
def law19_VotingOrder (a : List Int) : Option (Bool) := callC tn 3 [.d (.lf (.l (c := .i64) a))] [] o0'
def law19_awake  : Option (Bool) := callC tn 16 [] [] o0'
def z53 (a : List Int) : Option (Unit × List Int × Int) := callC tn 8 [.d (.lf (.l (c := .i64) a))] [] o26'
def z4q (a b : Int) (e : List Int) (f : Int) : Option (Trust × List Int × Int) := callC tn 10 [.ptr 0 0,dI a,dI b] [[.d (.lf (.l (c := .i64) e)),dI f]] o8'
def z4d (a : Int) (b : Trust) : Option (Voter × Int) := callC tn 9 [dI a,dA .Trust b] [] o12'
def z3v (a : Voter) (b : Claim) : Option (Voter × Int) := callC tn 11 [dA .Voter a,dA .Claim b] [] o12'
def z2r (a : Int) (b : List Int) (e : Int) : Option (Int × List Int × Int) := callC tn 12 [.ptr 0 0,dI a] [[.d (.lf (.l (c := .i64) b)),dI e]] o13'
def z3w (a : Voter) (b : Message) : Option (Voter × Int) := callC tn 14 [dA .Voter a,dA .Message b] [] o12'
def z4x (a : Voter) : Option (Message) := callC tn 37 [dA .Voter a] [] o14'
def z2i (a b : Int) (e : List Int) (f : Int) : Option (Int × List Int × Int) := callC tn 73 [.ptr 0 0,dI a,dI b] [[.d (.lf (.l (c := .i64) e)),dI f]] o13'
def z4r (a b : List Int) (e : Int) : Option (Int × List Int × Int) := callC tn 79 [.ptr 0 0,.d (.lf (.l (c := .i64) a))] [[.d (.lf (.l (c := .i64) b)),dI e]] o13'
def z4s (a b : Int) (e : List Int) (f : Int) : Option (Trust × List Int × Int) := callC tn 47 [.ptr 0 0,dI a,dI b] [[.d (.lf (.l (c := .i64) e)),dI f]] o8'
def z4a (a : Trust) : Option (Int) := callC tn 48 [dA .Trust a] [] o1'
def z2s (a : Trust) : Option (Int) := callC tn 45 [dA .Trust a] [] o1'
def z3h (a : Trust) : Option (Trust) := callC tn 46 [dA .Trust a] [] o9'
def z4e (a : Voter) : Option (Bool) := callC tn 34 [dA .Voter a] [] o0'
def z42 (a : Claim) : Option (Bool) := callC tn 49 [dA .Claim a] [] o0'
def z1c (a : List Claim) (b e : Int) : Option (Bool × Int × Int) := callC tn 52 [.d (.lf (.l (c := .Claim) a)),.fn 50 [(0,0)]] [[dI b,dI e]] o17'
def z3u (a : List Claim) (b : Claim) : Option (Bool) := callC tn 53 [.d (.lf (.l (c := .Claim) a)),dA .Claim b] [] o0'
def z2c (a : Voter) : Option (Voter) := callC tn 54 [dA .Voter a] [] o6'
def z4j (a : List Claim) (b : Claim) : Option (List Claim) := callC tn 55 [.d (.lf (.l (c := .Claim) a)),dA .Claim b] [] o4'
def z2t (a b : Voter) : Option (Voter) := callC tn 56 [dA .Voter a,dA .Voter b] [] o6'
def z2b (a : Message) : Option (Bool) := callC tn 57 [dA .Message a] [] o0'
def z17 (a : List Message) (b : Int) : Option (Int × Bool) := callC tn 58 [.d (.lf (.l (c := .Message) a)),dI b,.fn 59 []] [] o10'
def z1n (a : List Message) : Option (Unit × List Message) := callC tn 61 [.d (.lf (.l (c := .Message) a))] [] ⟨[.ref 0],[[.own .Message false]]⟩
def z3i (a : Int) (b e : List Message) : Option (List Message × Unit) := callC tn 62 [.ref 0,dI a,.d (.lf (.l (c := .Message) b))] [[.own .Message e false]] ⟨[.lf (.l .Message)],[[.undef]]⟩
def z4k (a : Voter) : Option (Message) := callC tn 86 [dA .Voter a] [] o14'
def z2j (a : Message) : Option (Message) := callC tn 85 [dA .Message a] [] o14'
def z39 (a : Int) (b : List Int) (e : Int) : Option (List Int × List Int × Int) := callC tn 13 [.ptr 0 0,dI a] [[.d (.lf (.l (c := .i64) b)),dI e]] o15'
def z4o (a : Trust) : Option (Int) := callC tn 97 [dA .Trust a] [] o1'
def z4u (a : Trust) : Option (Int) := callC tn 98 [dA .Trust a] [] o1'
def z3x (a : Trust) : Option (Int) := callC tn 99 [dA .Trust a] [] o1'
def z3j (a : Trust) : Option (Int) := callC tn 93 [dA .Trust a] [] o1'
def z3y (a : Trust) : Option (Int) := callC tn 94 [dA .Trust a] [] o1'
def z3k (a : Trust) : Option (Int) := callC tn 95 [dA .Trust a] [] o1'
def z2o (a : List Int) : Option (Unit × List Int) := callC tn 96 [.d (.lf (.l (c := .i64) a))] [] ⟨[.ref 0],[[.own .i64 false]]⟩
def z31 (a : List Claim) : Option (Bool) := callC tn 81 [.d (.lf (.l (c := .Claim) a))] [] o0'
def z4c (a : List Claim) : Option (Bool) := callC tn 82 [.d (.lf (.l (c := .Claim) a))] [] o0'
def z1h (a : List Claim) (b e f : Int) (g : List Int) (h : List Trust) (i j k : List Claim) (m : List Message) : Option (Bool × Int × Int × Int × List Int × List Trust × List Claim × List Claim × List Claim × List Message) := callC tn 52 [.d (.lf (.l (c := .Claim) a)),.fn 83 [(0,0)]] [[dI b,dI e,dI f,.d (.lf (.l (c := .i64) g)),.d (.lf (.l (c := .Trust) h)),.d (.lf (.l (c := .Claim) i)),.d (.lf (.l (c := .Claim) j)),.d (.lf (.l (c := .Claim) k)),.d (.lf (.l (c := .Message) m))]] o18'
def z1j (a : List Claim) (b e : Int) : Option (Int × Int × Int) := callC tn 100 [.d (.lf (.l (c := .Claim) a)),.fn 50 [(0,0)]] [[dI b,dI e]] o19'
def z24 (a : List Claim) (b : Claim) : Option (Bool) := callC tn 101 [.d (.lf (.l (c := .Claim) a)),dA .Claim b] [] o0'
def z18 (a : List Claim) : Option (Unit × List Claim) := callC tn 102 [.d (.lf (.l (c := .Claim) a))] [] o16'
def z4t (a b : List Claim) : Option (List Claim) := callC tn 103 [.d (.lf (.l (c := .Claim) a)),.d (.lf (.l (c := .Claim) b))] [] o4'
def z4f (a : Voter) : Option (Voter) := callC tn 104 [dA .Voter a] [] o6'
def z3a (a b : Trust) : Option (Bool) := callC tn 75 [dA .Trust a,dA .Trust b] [] o0'
def z22 (a b : List Claim) : Option (Bool) := callC tn 88 [.d (.lf (.l (c := .Claim) a)),.d (.lf (.l (c := .Claim) b))] [] o0'
def z3z (a : Int) : Option (Bool) := callC tn 105 [dI a] [] o0'
def z1f (a : List Int) : Option (Bool) := callC tn 118 [.d (.lf (.l (c := .i64) a)),.fn 119 []] [] o0'
def z4y (a : List Int) : Option (Int × Int) := callC tn 121 [.d (.lf (.l (c := .i64) a))] [] o11'
def z1i (a : List Claim) (b e f : Int) (g : List Int) (h : List Trust) (i j k : List Claim) (m : List Message) : Option (Int × Int × Int × Int × List Int × List Trust × List Claim × List Claim × List Claim × List Message) := callC tn 100 [.d (.lf (.l (c := .Claim) a)),.fn 83 [(0,0)]] [[dI b,dI e,dI f,.d (.lf (.l (c := .i64) g)),.d (.lf (.l (c := .Trust) h)),.d (.lf (.l (c := .Claim) i)),.d (.lf (.l (c := .Claim) j)),.d (.lf (.l (c := .Claim) k)),.d (.lf (.l (c := .Message) m))]] o20'
def z2d (a : List Claim) (b : Claim) : Option (Int) := callC tn 123 [.d (.lf (.l (c := .Claim) a)),dA .Claim b] [] o1'
def z4p (a : List (List Claim)) : Option (Unit × List Claim) := callC tn 125 [.d (.lf (.l (c := .l_Claim) a))] [] o16'
def z43 (a : List Claim) : Option (List Claim) := callC tn 124 [.d (.lf (.l (c := .Claim) a))] [] o4'
def z40 (a : Int) (b : Trust) (e : List Message) : Option (Config) := callC tn 126 [dI a,dA .Trust b,.d (.lf (.l (c := .Message) e))] [] o21'
def z4b (a : Voter) (b : Config) : Option (Claim × Bool) := callC tn 127 [dA .Voter a,dA .Config b] [] o22'
def z2p (a b : List Int) : Option (Bool) := callC tn 113 [.d (.lf (.l (c := .i64) a)),.d (.lf (.l (c := .i64) b))] [] o0'
def z1b (a b : List Trust) : Option (Bool) := callC tn 114 [.d (.lf (.l (c := .Trust) a)),.d (.lf (.l (c := .Trust) b)),.fn 75 []] [] o0'
def z1o (a : List Int) : Option (Int) := callC tn 134 [.d (.lf (.l (c := .i64) a)),.fn 119 []] [] o1'
def z1g (a : List Claim) : Option (Unit × List Claim) := callC tn 136 [.ref 0,.fn 137 []] [[.own .Claim a false]] o16'
def z1d (a : List Claim) : Option (List Claim) := callC tn 138 [.ref 0,.fn 116 []] [[.own .Claim a false]] o2'
def z4l (a : List Claim) : Option (List Claim × Unit) := callC tn 139 [.ref 0] [[.own .Claim a false]] ⟨[.lf (.l .Claim)],[[.undef]]⟩
def z4g (a : List Message) : Option (List Claim) := callC tn 142 [.d (.lf (.l (c := .Message) a))] [] o4'
def z1m (a : List Claim) : Option (Int × List Claim) := callC tn 100 [.ref 0,.fn 137 []] [[.own .Claim a false]] o5'
def z50 (a : Int) : Option (Int) := callC tn 151 [.d (.lf (.i .u64 a))] [] o1'
def z01 (a b c : Int) (d : List Claim) : Option (List Claim) := callC tn 150 [.ref 0,dI a,dI b,dI c,.fn 116 []] [[.own .Claim d false]] o2'
def z4z (a : Int) : Option (Int) := callC tn 165 [.d (.lf (.i .u64 a))] [] o1'
def z45 (a b : List Claim) : Option (Bool) := callC tn 15 [.d (.lf (.l (c := .Claim) a)),.d (.lf (.l (c := .Claim) b))] [] o0'
def z1x (a : List Message) (b : Int) (c : List Int) (d e f g : Int) (h : List Int) (i : List Trust) (j k l : List Claim) (m : List Message) (n o p : Int) (q : List Int) (r : List Trust) (s t u : List Claim) (v : List Message) : Option (Bool) := gp 3 Tryz.f3 0 o0' [1,1,1,1,1,1,1,0,1,0] [3] ⟨[(3,fP 0),(6,fP 2),(8,.fl (.own .Message a false)),(9,fI b)],[[dL .i64 c,dI d],[dI e,dI f,dI g,dL .i64 h,dL .Trust i,dL .Claim j,dL .Claim k,dL .Claim l,dL .Message m],[dI n,dI o,dI p,dL .i64 q,dL .Trust r,dL .Claim s,dL .Claim t,dL .Claim u,dL .Message v]]⟩
def z3e (a b : Int) (c : List Int) (d e : Int) (f : List Int) (g h : Int) (i : List Int) (j : List Trust) (k : Int) (l : List Int) (m : List Trust) : Option (Trust × List Int × Int) := gp 47 Tryz.f47 1 o8' [1,1,1,0,1,0] [3] ⟨[(0,fP 0),(1,fI a),(2,fI b),(6,fP 1),(7,fP 2),(20,fL .i64 c),(21,fI d),(22,fI e)],[[dL .i64 f,dI g],[dI h,.own .i64 i false,.own .Trust j false],[dI k,.own .i64 l false,.own .Trust m false]]⟩
def z32 (a : List Trust) (b c d : Int) (e : List Int) (f : List Trust) (g : Int) (h : List Int) (i : List Trust) (j : Int) (k : List Int) (l : List Trust) : Option (Trust) := gp 46 Tryz.f46 0 o9' [1,1,0,1,0] [3] ⟨[(2,fP 1),(3,fP 2),(13,fL .Trust a),(14,fI b),(15,fI c)],[[dI d,dL .i64 e,dL .Trust f],[dI g,.own .i64 h false,.own .Trust i false],[dI j,.own .i64 k false,.own .Trust l false]]⟩
def z1y (a : List Message) (b c d e f : Int) (g : List Int) (h : List Trust) (i j k : List Claim) (l : List Message) : Option (Bool) := gp 34 Tryz.f34 0 o0' [1,1,1,1,0,1,0] [1] ⟨[(1,fP 0),(62,fL .Message a),(63,fI b),(64,fI c)],[[dI d,dI e,dI f,dL .i64 g,dL .Trust h,dL .Claim i,dL .Claim j,dL .Claim k,dL .Message l]]⟩
def z33 (a : List Message) (b c d e f : Int) (g : List Int) (h : List Trust) (i j k : List Claim) (l : List Message) (m n o : Int) (p : List Int) (q : List Trust) (r s t : List Claim) (u : List Message) : Option (Voter) := gp 54 Tryz.f54 0 o6' [1,1,1,1,0,1,0] [2] ⟨[(1,fP 0),(2,fP 1),(25,fL .Message a),(26,fI b),(27,fI c)],[[dI d,dI e,dI f,dL .i64 g,dL .Trust h,.own .Claim i false,.own .Claim j false,.own .Claim k false,.own .Message l false],[dI m,dI n,dI o,.own .i64 p false,.own .Trust q false,.own .Claim r false,.own .Claim s false,.own .Claim t false,.own .Message u false]]⟩
def z0f (a : List Message) (b c d e : Int) : Option (Int × Bool) := gp 58 Tryz.f58 0 o10' [1,1,1,0,0] [0] ⟨[(0,fL .Message a),(1,fI b),(2,.fl (.fn 59 [])),(8,fI c),(9,fI d),(10,fI e)],[]⟩
def z44 (a : Message) (b : Int) : Option (Int) := callC tn 59 [dA .Message a,dI b] [] o1'
def z2v (a b : Int) : Option (Int) := callC tn 60 [dI a,dI b] [] o1'
def z41 (a : Int) : Option (Bool) := callC tn 106 [dI a] [] o0'
def z1w (a : Int) (b : List Int) (c : Int) (d : List Int) (e : Int) : Option (List Int × List Int × Int) := gp 13 Tryz.f13 1 o15' [1,1,0,1,0] [1] ⟨[(0,fP 0),(1,fI a),(5,.fl (.own .i64 b false)),(6,fI c)],[[dL .i64 d,dI e]]⟩
def z3b (a : Int) (b : List Trust) (c d e : Int) (f : List Int) (g : List Trust) : Option (Int) := gp 97 Tryz.f97 0 o1' [1,1,0,1,0] [1] ⟨[(3,fI a),(7,fL .Trust b),(8,fI c),(9,fI d)],[[dI e,dL .i64 f,dL .Trust g]]⟩
def z3m (a : Int) (b : List Trust) (c d e : Int) (f : List Int) (g : List Trust) : Option (Int) := gp 98 Tryz.f98 0 o1' [1,1,0,1,0] [1] ⟨[(3,fI a),(14,fL .Trust b),(15,fI c),(16,fI d)],[[dI e,dL .i64 f,dL .Trust g]]⟩
def z2k (a : List Int) (b c d : Int) (e : List Int) (f : List Trust) : Option (Int) := gp 99 Tryz.f99 0 o1' [1,1,0,1,0] [1] ⟨[(1,fP 0),(26,fL .i64 a),(27,fI b),(28,fI c)],[[dI d,dL .i64 e,dL .Trust f]]⟩
def z52 (a : List Int) : Option (Int × Int) := callC tn 122 [.d (.lf (.l (c := .i64) a))] [] o11'
def z2e (a : Int) (b : List Trust) (c d e : Int) (f : List Int) (g : List Trust) : Option (Int) := gp 93 Tryz.f93 0 o1' [1,1,0,1,0] [1] ⟨[(3,fI a),(7,fL .Trust b),(8,fI c),(9,fI d)],[[dI e,dL .i64 f,dL .Trust g]]⟩
def z2q (a : Int) (b : List Trust) (c d e : Int) (f : List Int) (g : List Trust) : Option (Int) := gp 94 Tryz.f94 0 o1' [1,1,0,1,0] [1] ⟨[(3,fI a),(14,fL .Trust b),(15,fI c),(16,fI d)],[[dI e,dL .i64 f,dL .Trust g]]⟩
def z2f (a : List Trust) (b c d : Int) (e : List Int) (f : List Trust) : Option (Int) := gp 95 Tryz.f95 0 o1' [1,1,1,1,0,1,0] [1] ⟨[(36,fL .Trust a),(37,fI b),(38,fI c)],[[dI d,dL .i64 e,dL .Trust f]]⟩
def z23 (a b : List Claim) (c d : Int) : Option (Bool) := gp 81 Tryz.f81 0 o0' [1,0,1,0] [0] ⟨[(0,fL .Claim a),(5,fL .Claim b),(6,fI c),(7,fI d)],[]⟩
def z09 (a b : Claim) : Option (Int) := callC tn 116 [dA .Claim a,dA .Claim b] [] o1'
def z4v (a : List Int) : Option (Int) := callC tn 133 [.d (.lf (.l (c := .i64) a))] [] o1'
def z0u (a : List Claim) (b c d e : Int) : Option (Int × Int × Int) := gp 100 Tryz.f100 1 o19' [1,0,1,0] [1] ⟨[(0,fL .Claim a),(1,.fl (.fn 50 [(0,0)])),(7,fI b),(8,fI c)],[[dI d,dI e]]⟩
def z4m (a : Claim) (b c : Int) : Option (Bool × Int × Int) := callC tn 50 [dA .Claim a,.ptr 0 0] [[dI b,dI c]] o17'
def z3p (a b : Claim) : Option (Bool) := callC tn 51 [dA .Claim a,dA .Claim b] [] o0'
def z37 (a : Bool) (b c d : Int) (e : List Int) (f : List Trust) (g h i : List Claim) (j : List Message) (k l m : Int) (n : List Int) (o : List Trust) (p q r : List Claim) (s : List Message) (t : List Member) (u v : Int) : Option (Voter) := gp 104 Tryz.f104 0 o6' [1,1,0,1,0] [4] ⟨[(1,fP 0),(2,fP 1),(3,fP 2),(4,fP 3),(5,fB a)],[[dI b,dI c,dI d,dL .i64 e,dL .Trust f,dL .Claim g,dL .Claim h,dL .Claim i,dL .Message j],[dI k,dI l,dI m,.own .i64 n false,.own .Trust o false,.own .Claim p false,.own .Claim q false,.own .Claim r false,.own .Message s false],[dL .Member t],[dI u,dI v]]⟩
def z1s (a b : List Claim) (c d : Int) : Option (Bool) := gp 88 Tryz.f88 0 o0' [1,1,0,1,0] [0] ⟨[(0,fL .Claim a),(1,fL .Claim b),(12,fI c),(13,fI d)],[]⟩
def z2u (a : Int) (b : List Int) (c d : Int) : Option (Int × Int) := gp 121 Tryz.f121 0 o11' [1,1,0,1,0] [0] ⟨[(4,fI a),(7,fL .i64 b),(8,fI c),(9,fI d)],[]⟩
def z30 (a b : Int) : Option (Bool) := callC tn 135 [dI a,dI b] [] o0'
def z21 (a : Int) : Option (Bool) := callC tn 149 [dI a] [] o0'
def z3n (a b : Int) : Option (Bool) := callC tn 155 [dI a,dI b] [] o0'
def z0r (a : List Claim) (b c d e f : Int) (g : List Int) (h : List Trust) (i j k : List Claim) (l : List Message) : Option (Int × Int × Int × Int × List Int × List Trust × List Claim × List Claim × List Claim × List Message) := gp 100 Tryz.f100 1 o20' [1,0,1,0] [1] ⟨[(0,fL .Claim a),(1,.fl (.fn 83 [(0,0)])),(7,fI b),(8,fI c)],[[dI d,dI e,dI f,dL .i64 g,dL .Trust h,dL .Claim i,dL .Claim j,dL .Claim k,dL .Message l]]⟩
def z4h (a : Claim) (b e f : Int) (g : List Int) (h : List Trust) (i j k : List Claim) (m : List Message) : Option (Bool × Int × Int × Int × List Int × List Trust × List Claim × List Claim × List Claim × List Message) := callC tn 83 [dA .Claim a,.ptr 0 0] [[dI b,dI e,dI f,.d (.lf (.l (c := .i64) g)),.d (.lf (.l (c := .Trust) h)),.d (.lf (.l (c := .Claim) i)),.d (.lf (.l (c := .Claim) j)),.d (.lf (.l (c := .Claim) k)),.d (.lf (.l (c := .Message) m))]] o18'
def z1l (a : List Claim) (b c d e : Int) : Option (Int) := gp 123 Tryz.f123 0 o1' [1,0,1,0] [1] ⟨[(0,fL .Claim a),(3,fP 0),(7,fI b),(8,fI c)],[[dI d,dI e]]⟩
def z20 (a : Int) (b : List Message) (c d e : Int) (f : List Int) (g : List Trust) (h i : List Member) : Option (Config) := gp 126 Tryz.f126 0 o21' [1,1,0,1,0] [3] ⟨[(0,fI a),(4,fP 0),(6,fP 1),(7,fP 2),(12,fL .Message b),(13,fI c),(14,fI d)],[[dI e,dL .i64 f,dL .Trust g],[.own .Member h false],[.own .Member i false]]⟩
def z2w (a : Trust) : Option (Trust) := callC tn 141 [dA .Trust a] [] o9'
def z2l (a : List Message) (b : List Claim) (c d e f g : Int) (h : List Int) (i : List Trust) (j k l : List Claim) (m : List Message) (n : List Member) (o p : Int) : Option (Claim × Bool) := gp 127 Tryz.f127 0 o22' [1,1,0,1,0] [3] ⟨[(2,fP 0),(3,fP 1),(4,fP 2),(6,fL .Message a),(17,fL .Claim b),(18,fI c),(19,fI d)],[[dI e,dI f,dI g,dL .i64 h,dL .Trust i,dL .Claim j,dL .Claim k,dL .Claim l,dL .Message m],[dL .Member n],[dI o,dI p]]⟩
def z46 (a : List Message) (b : Claim) : Option (Int) := callC tn 144 [.d (.lf (.l (c := .Message) a)),dA .Claim b] [] o1'
def z2x (a : List Message) (b : Claim) : Option (Int) := callC tn 129 [.d (.lf (.l (c := .Message) a)),dA .Claim b] [] o1'
def z38 (a : Config) (b c d : Int) : Option (Bool) := callC tn 143 [dA .Config a,dI b,dI c,dI d] [] o0'
def z1t (a : List Message) (b : Claim) : Option (Int) := callC tn 146 [.d (.lf (.l (c := .Message) a)),dA .Claim b,.fn 153 []] [] o1'
def z1p (a : List Message) (b : Claim) : Option (Int) := callC tn 146 [.d (.lf (.l (c := .Message) a)),dA .Claim b,.fn 147 []] [] o1'
def z3l (a : Config) (b c : Int) : Option (Bool) := callC tn 152 [dA .Config a,dI b,dI c] [] o0'
def z3c (a : Config) (b : Int) : Option (Int) := callC tn 145 [dA .Config a,dI b] [] o1'
def z27 (a : Config) : Option (Int) := callC tn 166 [dA .Config a] [] o1'
def z29 (a : Trust) (b : Int) : Option (Bool) := callC tn 167 [dA .Trust a,dI b] [] o0'
def z3q (a : Config) (b : Int) : Option (Int × List Int) := callC tn 154 [dA .Config a,dI b] [] o23'
def z1u (a b : List Int) (c d : Int) : Option (Bool) := gp 113 Tryz.f113 0 o0' [1,1,0,1,0] [0] ⟨[(0,fL .i64 a),(1,fL .i64 b),(12,fI c),(13,fI d)],[]⟩
def z0h (a b : List Trust) (c d : Int) : Option (Bool) := gp 114 Tryz.f114 0 o0' [1,1,0,1,0] [0] ⟨[(1,fL .Trust a),(2,.fl (.fn 75 [])),(15,fL .Trust b),(16,fI c),(17,fI d)],[]⟩
def z0k (a : List Int) (b c : Int) : Option (Int) := gp 134 Tryz.f134 0 o1' [1,0,1,0] [0] ⟨[(0,fL .i64 a),(1,.fl (.fn 119 [])),(7,fI b),(8,fI c)],[]⟩
def z3r (a : Int) : Option (Bool) := callC tn 119 [dI a] [] o0'
def z4i (a : Int) : Option (Bool) := callC tn 120 [dI a] [] o0'
def z3s (a b : Int) (c : List Claim) : Option (Unit × List Claim) := gp 136 Tryz.f136 1 o16' [1,1,1,0,1,0] [1] ⟨[(0,.fl (.ref 0)),(1,.fl (.fn 137 [])),(5,fI a),(6,fI b)],[[.own .Claim c false]]⟩
def z34 (a : List Claim) (b : List Message) (c d : Int) : Option (List Claim) := gp 142 Tryz.f142 0 o4' [1,1,0,1,0] [0] ⟨[(3,.fl (.own .Claim a false)),(6,fL .Message b),(7,fI c),(8,fI d)],[]⟩
def z0x (a b : Int) (c : List Claim) : Option (Int × List Claim) := gp 100 Tryz.f100 1 o5' [1,0,1,0] [1] ⟨[(0,.fl (.ref 0)),(1,.fl (.fn 137 [])),(7,fI a),(8,fI b)],[[.own .Claim c false]]⟩
def z47 (a : Claim) : Option (Bool) := callC tn 137 [dA .Claim a] [] o0'
def z00 (a b c : Int) (d e : Bool) (f : List Claim) : Option (List Claim) := gp 150 Tryz.f150 1 o2' [1,1,0] [1] ⟨[(0,.fl (.ref 0)),(1,fI a),(2,fI b),(3,fI c),(4,.fl (.fn 116 [])),(10,fB d),(11,fB e)],[[.own .Claim f false]]⟩
def z19 (a b : Int) (c : List Claim) : Option (List Claim) := callC tn 156 [.ref 0,dI a,dI b,.fn 116 []] [[.own .Claim c false]] o2'
def z1e (a b : Int) (c : List Claim) : Option (List Claim) := callC tn 157 [.ref 0,dI a,dI b,.fn 116 []] [[.own .Claim c false]] o2'
def z1a (a b : Int) (c : List Claim) : Option (List Claim) := callC tn 158 [.ref 0,dI a,dI b,.fn 116 []] [[.own .Claim c false]] o2'
def z0o (a b : Int) (c : List Claim) : Option (Int × Int × List Claim) := callC tn 159 [.ref 0,dI a,dI b,.fn 116 []] [[.own .Claim c false]] o27'
def z0l (a b : Int) (c : List Claim) : Option (List Claim) := callC tn 160 [.ref 0,dI a,dI b,.fn 116 []] [[.own .Claim c false]] o2'
def z08 (a b : Int) (c : List Claim) : Option (Bool × List Claim) := callC tn 161 [.ref 0,dI a,dI b,.fn 116 []] [[.own .Claim c false]] o7'
def z04 (a b c : Int) (d : List Claim) : Option (Int × List Claim) := callC tn 162 [.ref 0,dI a,dI b,dI c,.fn 116 []] [[.own .Claim d false]] o5'
def z02 (a b c : Int) (d : List Claim) : Option (Int × Bool × List Claim) := callC tn 163 [.ref 0,dI a,dI b,dI c,.fn 116 []] [[.own .Claim d false]] o3'
def z2y (a : Int) : Option (Int) := callC tn 170 [dI a] [] ⟨[.lf (.i .u64)],[]⟩
def z0j (a : Int) (b : List Claim) (c : Int) : Option (Int × List Claim × Int) := callC tn 172 [.ref 0,dI a,.ptr 1 0,.fn 116 []] [[.own .Claim b false],[dI c]] o24'
def z0z (a b c : Int) (d : List Claim) (e : Int) : Option (Int × List Claim × Int) := callC tn 173 [.ref 0,dI a,dI b,dI c,.ptr 1 0,.fn 116 []] [[.own .Claim d false],[dI e]] o24'
def z10 (a b : Int) (c : List Claim) (d : Int) : Option (Int × Int × List Claim × Int) := callC tn 176 [.ref 0,dI a,dI b,.ptr 1 0,.fn 116 []] [[.own .Claim c false],[dI d]] o28'
def z3o (a b : List Claim) (c d : Int) : Option (Bool) := gp 15 Tryz.f15 0 o0' [1,1,0,1,0] [0] ⟨[(0,fL .Claim a),(1,fL .Claim b),(12,fI c),(13,fI d)],[]⟩
def z1q (a : List Message) (b c : Int) (d : List Int) (e f g h : Int) (i : List Int) (j : List Trust) (k l m : List Claim) (n : List Message) (o p q : Int) (r : List Int) (s : List Trust) (t u v : List Claim) (w : List Message) (x y z : Int) (A : List Int) (B : List Trust) (C D : List Claim) : Option (Bool) := gp 3 Tryz.f3 0 o0' [1,1,1,1,1,1,1,0,1,0,0,1,0,0,1,0,1,0] [3,3,3,4] ⟨[(3,fP 0),(6,fP 2),(8,.fl (.own .Message a false)),(9,fI b),(10,fP 3),(11,fI c)],[[dL .i64 d,dI e],[dI f,dI g,dI h,dL .i64 i,dL .Trust j,dL .Claim k,dL .Claim l,dL .Claim m,dL .Message n],[dI o,dI p,dI q,dL .i64 r,dL .Trust s,dL .Claim t,dL .Claim u,dL .Claim v,dL .Message w],[dI x,dI y,dI z,dL .i64 A,dL .Trust B,.own .Claim C false,.own .Claim D false]]⟩
def z2m (a : List Message) (b : List Int) (c d : Int) (e : List Int) (f g h i : Int) (j : List Int) (k : List Trust) (l m n : List Claim) (o : List Message) (p q r : Int) (s : List Int) (t : List Trust) (u v w : List Claim) (x : List Message) (y z A : Int) (B : List Int) (C : List Trust) (D E F : List Claim) (G : List Message) : Option (Bool) := gp 3 Tryz.f3 0 o0' [1,1,1,1,1,1,1,1,1,0,1,0] [4] ⟨[(6,fP 2),(8,.fl (.own .Message a false)),(13,fP 3),(76,fL .i64 b),(77,fI c),(78,fI d)],[[dL .i64 e,dI f],[dI g,dI h,dI i,dL .i64 j,dL .Trust k,dL .Claim l,dL .Claim m,dL .Claim n,dL .Message o],[dI p,dI q,dI r,dL .i64 s,dL .Trust t,dL .Claim u,dL .Claim v,dL .Claim w,dL .Message x],[dI y,dI z,dI A,dL .i64 B,dL .Trust C,dL .Claim D,dL .Claim E,dL .Claim F,dL .Message G]]⟩
def z51 (a b : Int) : Option (Bool) := callC tn 70 [dI a,dI b] [] o0'
def z4w (a : Int) : Option (Bool) := callC tn 109 [dI a] [] o0'
def z3f (a b c : Int) (d : List Int) (e f : Int) (g : List Int) (h : List Trust) (i : Int) (j : List Int) (k : List Trust) : Option (Trust × List Int × Int) := gp 47 Tryz.f47 1 o8' [1,1,1,1,0,1,0,0,1,0] [3] ⟨[(0,fP 0),(1,fI a),(2,fI b),(6,fP 1),(7,fP 2),(11,fI c)],[[dL .i64 d,dI e],[dI f,.own .i64 g false,.own .Trust h false],[dI i,.own .i64 j false,.own .Trust k false]]⟩
def z1z (a : List Int) (b : Int) (c : List Int) (d : Int) : Option (List Int × List Int × Int) := gp 13 Tryz.f13 1 o15' [1,1,1,0,1,0] [1] ⟨[(0,fP 0),(5,.fl (.own .i64 a false)),(7,fI b)],[[dL .i64 c,dI d]]⟩
def z2n (a : List Trust) (b c d : Int) (e : List Int) (f : List Trust) : Option (Int) := gp 99 Tryz.f99 0 o1' [1,1,1,1,0,1,0] [1] ⟨[(49,fL .Trust a),(50,fI b),(51,fI c)],[[dI d,dL .i64 e,dL .Trust f]]⟩
def z3g (a : Int) (b : List Int) (c d : Int) : Option (Int × Int) := gp 122 Tryz.f122 0 o11' [1,1,0,1,0] [0] ⟨[(4,fI a),(7,fL .i64 b),(8,fI c),(9,fI d)],[]⟩
def z3d (a : Int) (b : List Int) (c d : Int) : Option (Int) := gp 133 Tryz.f133 0 o1' [1,1,0,1,0] [0] ⟨[(3,fI a),(6,fL .i64 b),(7,fI c),(8,fI d)],[]⟩
def z28 (a : List Message) (b : List Claim) (c d e f g : Int) (h : List Int) (i : List Trust) (j k l : List Claim) (m : List Message) (n o p : Int) (q : List Int) (r : List Trust) (s t u : List Claim) (v : List Message) (w : List Member) (x y : Int) : Option (Voter) := gp 104 Tryz.f104 0 o6' [1,1,1,1,0,1,0] [4] ⟨[(1,fP 0),(2,fP 1),(3,fP 2),(6,fL .Message a),(43,fL .Claim b),(44,fI c),(45,fI d)],[[dI e,dI f,dI g,dL .i64 h,dL .Trust i,dL .Claim j,dL .Claim k,dL .Claim l,dL .Message m],[dI n,dI o,dI p,.own .i64 q false,.own .Trust r false,.own .Claim s false,.own .Claim t false,.own .Claim u false,.own .Message v false],[dL .Member w],[dI x,dI y]]⟩
def z2z (a : Config) (b c : Int) : Option (Bool) := callC tn 128 [dA .Config a,dI b,dI c] [] o0'
def z2a (a : List Trust) (b c d : Int) (e : List Int) (f : List Trust) (g : Int) (h : List Int) (i : List Trust) (j : Int) (k : List Int) (l : List Trust) : Option (Trust) := gp 141 Tryz.f141 0 o9' [1,1,0,1,0] [3] ⟨[(2,fP 1),(3,fP 2),(13,fL .Trust a),(14,fI b),(15,fI c)],[[dI d,dL .i64 e,dL .Trust f],[dI g,.own .i64 h false,.own .Trust i false],[dI j,.own .i64 k false,.own .Trust l false]]⟩
def z15 (a : Int) (b : List Message) (c d e f : Int) : Option (Int) := gp 146 Tryz.f146 0 o1' [1,1,0,1,0] [1] ⟨[(2,.fl (.fn 153 [])),(4,fP 0),(7,fI a),(10,fL .Message b),(11,fI c),(12,fI d)],[[dI e,dI f]]⟩
def z3t (a : Message) : Option (List Claim) := callC tn 153 [dA .Message a] [] o4'
def z0v (a : Int) (b : List Message) (c d e f : Int) : Option (Int) := gp 146 Tryz.f146 0 o1' [1,1,0,1,0] [1] ⟨[(2,.fl (.fn 147 [])),(4,fP 0),(7,fI a),(10,fL .Message b),(11,fI c),(12,fI d)],[[dI e,dI f]]⟩
def z35 (a : Message) : Option (List Claim) := callC tn 147 [dA .Message a] [] o4'
def z1k (a : Int) (b : List Member) (c d : Int) (e : List Member) : Option (Int) := gp 166 Tryz.f166 0 o1' [1,1,0,1,0] [1] ⟨[(3,fI a),(7,fL .Member b),(8,fI c),(9,fI d)],[[dL .Member e]]⟩
def z1v (a b : Int) (c : List Int) (d e f : Int) (g : List Int) (h : List Trust) : Option (Bool) := gp 167 Tryz.f167 0 o0' [1,1,1,0,1,0] [1] ⟨[(1,fI a),(2,fP 0),(5,fI b),(14,fL .i64 c),(15,fI d),(16,fI e)],[[dI f,dL .i64 g,dL .Trust h]]⟩
def z25 (a : Int) (b : List Int) (c : List Member) : Option (Int × List Int) := gp 154 Tryz.f154 0 o23' [1,1,1,1,0] [1] ⟨[(1,fI a),(2,fP 0),(6,.fl (.own .i64 b false))],[[dL .Member c]]⟩
def z48 (a : Config) (b : Int) : Option (Int × Bool) := callC tn 168 [dA .Config a,dI b] [] o10'
def z4n (a : Int) : Option (List Int) := callC tn 174 [dI a] [] o25'
def z0d (a b c : Int) (d : List Claim) : Option (List Claim) := gp 156 Tryz.f156 1 o2' [1,0] [1] ⟨[(0,.fl (.ref 0)),(1,fI a),(2,fI b),(3,.fl (.fn 116 [])),(8,fI c)],[[.own .Claim d false]]⟩
def z0p (a b c d : Int) (e : List Claim) : Option (List Claim) := gp 157 Tryz.f157 1 o2' [1,1,1,0,1,0] [1] ⟨[(0,.fl (.ref 0)),(3,.fl (.fn 116 [])),(8,fI a),(9,fI b),(10,fI c),(11,fI d)],[[.own .Claim e false]]⟩
def z16 (a b c : Int) (d : List Claim) : Option (List Claim) := callC tn 169 [.ref 0,dI a,dI b,dI c,.fn 116 []] [[.own .Claim d false]] o2'
def z0b (a b c e : Int) (f : List Claim) (g : Int) : Option (List Claim) := gp 158 Tryz.f158 1 o2' [1,1,0,1,1,1,0] [2] ⟨[(0,.fl (.ref 0)),(1,fI a),(8,fI b),(9,fP 1),(10,.fl (.d (.lf (.i .u64 c)))),(11,fI e)],[[.own .Claim f false],[.d (.lf (.i .u64 g))]]⟩
def z36 (a : Int) : Option (Int × Int) := callC tn 171 [.ptr 0 0] [[.d (.lf (.i .u64 a))]] o29'
def z0w (a b : Int) (c : List Claim) : Option (List Claim) := gp 160 Tryz.f160 1 o2' [1,1,0] [1] ⟨[(0,.fl (.ref 0)),(8,fI a),(9,fI b)],[[.own .Claim c false]]⟩
def z03 (a b c d : Int) (e : List Claim) : Option (Bool × List Claim) := gp 161 Tryz.f161 1 o7' [1,1,0,1,0] [1] ⟨[(0,.fl (.ref 0)),(1,fI a),(2,fI b),(3,.fl (.fn 116 [])),(9,fI c),(10,fI d)],[[.own .Claim e false]]⟩
def z0a (a b c : Int) (d : List Claim) : Option (Int × List Claim) := gp 162 Tryz.f162 1 o5' [1,1,1,0,0] [1] ⟨[(0,.fl (.ref 0)),(1,fI a),(4,.fl (.fn 116 [])),(11,fI b),(12,fI c)],[[.own .Claim d false]]⟩
def z11 (a b c : Int) (d : List Claim) : Option (Int × Bool × List Claim) := gp 163 Tryz.f163 1 o3' [1,1,1,0,0] [1] ⟨[(0,.fl (.ref 0)),(1,fI a),(4,.fl (.fn 116 [])),(12,fI b),(13,fI c)],[[.own .Claim d false]]⟩
def z26 (a : List Message) (b : List Int) (c d : Int) (e : List Int) (f g h i : Int) (j : List Int) (k : List Trust) (l m n : List Claim) (o : List Message) (p q r : Int) (s : List Int) (t : List Trust) (u v w : List Claim) (x : List Message) (y z A : Int) (B : List Int) (C : List Trust) (D E F : List Claim) (G : List Message) : Option (Bool) := gp 3 Tryz.f3 0 o0' [1,1,1,1,1,1,1,1,1,0,1,0] [4] ⟨[(6,fP 2),(8,.fl (.own .Message a true)),(13,fP 3),(76,fL .i64 b),(77,fI c),(78,fI d)],[[dL .i64 e,dI f],[dI g,dI h,dI i,dL .i64 j,dL .Trust k,dL .Claim l,dL .Claim m,dL .Claim n,dL .Message o],[dI p,dI q,dI r,dL .i64 s,dL .Trust t,dL .Claim u,dL .Claim v,dL .Claim w,dL .Message x],[dI y,dI z,dI A,dL .i64 B,dL .Trust C,dL .Claim D,dL .Claim E,dL .Claim F,dL .Message G]]⟩
def z1r (a b : Int) (c : List Trust) (d e f : Int) (g : List Int) (h : List Trust) : Option (Bool) := gp 167 Tryz.f167 0 o0' [1,1,1,1,0,1,0] [1] ⟨[(1,fI a),(2,fP 0),(5,fI b),(27,fL .Trust c),(28,fI d),(29,fI e)],[[dI f,dL .i64 g,dL .Trust h]]⟩
def z2g (a : Int) (b : List Int) (c d : Int) (e : List Member) : Option (Int × Bool) := gp 168 Tryz.f168 0 o10' [1,0,1,0] [1] ⟨[(1,fI a),(2,fP 0),(9,fL .i64 b),(10,fI c),(11,fI d)],[[dL .Member e]]⟩
def z49 (a : Config) (b c : Int) : Option (Bool) := callC tn 175 [dA .Config a,dI b,dI c] [] o0'
def z2h (a : Int) (b : List Int) (c : Int) : Option (List Int) := gp 174 Tryz.f174 0 o25' [1,1,0,1,0] [0] ⟨[(0,fI a),(3,.fl (.own .i64 b false)),(5,fI c)],[]⟩
def z0g (a b c d : Int) (e : List Claim) : Option (List Claim) := gp 156 Tryz.f156 1 o2' [1,0,0,1,0,0,1,0] [1,1,1,1] ⟨[(0,.fl (.ref 0)),(1,fI a),(2,fI b),(3,.fl (.fn 116 [])),(8,fI c),(9,fI d)],[[.own .Claim e false]]⟩
def z0q (a b c : Int) (d : List Claim) : Option (List Claim) := gp 157 Tryz.f157 1 o2' [1,1,1,1,1,0] [1] ⟨[(0,.fl (.ref 0)),(3,.fl (.fn 116 [])),(8,fI a),(9,fI b),(12,fI c)],[[.own .Claim d false]]⟩
def z0c (a b c : Int) (d : List Claim) : Option (List Claim) := gp 169 Tryz.f169 1 o2' [1,0] [1] ⟨[(0,.fl (.ref 0)),(2,fI a),(3,fI b),(4,.fl (.fn 116 [])),(10,fI c)],[[.own .Claim d false]]⟩
def z0y (a b c d : Int) (e : Bool) (f : List Claim) : Option (Bool × List Claim) := gp 161 Tryz.f161 1 o7' [1,1,0,1,0,0,1,0,0,0,0] [1,1,1,1] ⟨[(0,.fl (.ref 0)),(1,fI a),(2,fI b),(3,.fl (.fn 116 [])),(9,fI c),(10,fI d),(16,fB e)],[[.own .Claim f false]]⟩
def z0s (a b c : Int) (d : List Claim) : Option (Int × List Claim) := gp 162 Tryz.f162 1 o5' [1,1,1,0,0,0,0,0,0] [1,1,1,1] ⟨[(0,.fl (.ref 0)),(1,fI a),(4,.fl (.fn 116 [])),(11,fI b),(12,fI c)],[[.own .Claim d false]]⟩
def z0m (a b c : Int) (d : Bool) (e : List Claim) : Option (Int × Bool × List Claim) := gp 163 Tryz.f163 1 o3' [1,1,1,1,0,0] [1] ⟨[(0,.fl (.ref 0)),(1,fI a),(4,.fl (.fn 116 [])),(12,fI b),(13,fI c),(47,fB d)],[[.own .Claim e false]]⟩
def z0i (a b c d : Int) (e : List Claim) : Option (Bool × List Claim) := gp 161 Tryz.f161 1 o7' [1,1,0,1,0,0,1,0,0,0,0] [1,1,1,1] ⟨[(0,.fl (.ref 0)),(1,fI a),(2,fI b),(3,.fl (.fn 116 [])),(9,fI c),(10,fI d)],[[.own .Claim e false]]⟩
def z07 (a b c d e : Int) (f : List Claim) : Option (Bool × List Claim) := gp 161 Tryz.f161 1 o7' [1,1,0,1,0,0,1,0,0,1,1,1,1,0,1,0,1,0] [1,1,1,1] ⟨[(0,.fl (.ref 0)),(1,fI a),(2,fI b),(3,.fl (.fn 116 [])),(9,fI c),(10,fI d),(11,fI e)],[[.own .Claim f false]]⟩
def z05 (a b c d e : Int) (f : List Claim) : Option (Bool × List Claim) := gp 161 Tryz.f161 1 o7' [1,1,0,1,0,0,1,0,0,1,1,1,1,1,1,0,1,0] [1,1,1,1] ⟨[(0,.fl (.ref 0)),(1,fI a),(2,fI b),(3,.fl (.fn 116 [])),(9,fI c),(10,fI d),(12,fI e)],[[.own .Claim f false]]⟩
def z0e (a b c : Int) (d : Bool) (e : List Claim) : Option (Int × List Claim) := gp 162 Tryz.f162 1 o5' [1,1,1,0,0,0,0,1,0,0] [1,1,1,1] ⟨[(0,.fl (.ref 0)),(1,fI a),(4,.fl (.fn 116 [])),(11,fI b),(12,fI c),(47,fB d)],[[.own .Claim e false]]⟩
def z12 (a b c : Int) (d : List Claim) : Option (Int × Bool × List Claim) := gp 163 Tryz.f163 1 o3' [1,1,1,1,0,0] [1] ⟨[(0,.fl (.ref 0)),(1,fI a),(4,.fl (.fn 116 [])),(12,fI b),(13,fI c)],[[.own .Claim d false]]⟩
def z06 (a b c : Int) (d : List Claim) : Option (Int × Bool × List Claim) := gp 163 Tryz.f163 1 o3' [1,1,1,1,1,1,1,1,1,0,0] [1] ⟨[(0,.fl (.ref 0)),(1,fI a),(4,.fl (.fn 116 [])),(12,fI b),(13,fI c)],[[.own .Claim d false]]⟩
def z0t (a b c : Int) (d : List Claim) : Option (Int × List Claim) := gp 162 Tryz.f162 1 o5' [1,1,1,0,0,0,0,1,0,0] [1,1,1,1] ⟨[(0,.fl (.ref 0)),(1,fI a),(4,.fl (.fn 116 [])),(11,fI b),(12,fI c)],[[.own .Claim d false]]⟩
def z13 (a b c : Int) (d : List Claim) : Option (Int × Bool × List Claim) := gp 163 Tryz.f163 1 o3' [1,1,1,1,1,1,1,1,1,0,0,0,0,0,0] [1,1,1,1] ⟨[(0,.fl (.ref 0)),(1,fI a),(4,.fl (.fn 116 [])),(12,fI b),(13,fI c)],[[.own .Claim d false]]⟩
def z0n (a b c : Int) (d : Bool) (e : List Claim) : Option (Int × Bool × List Claim) := gp 163 Tryz.f163 1 o3' [1,1,1,1,1,1,1,1,1,0,0,0,0,1,0,0] [1,1,1,1] ⟨[(0,.fl (.ref 0)),(1,fI a),(4,.fl (.fn 116 [])),(12,fI b),(13,fI c),(120,fB d)],[[.own .Claim e false]]⟩
def z14 (a b c : Int) (d : List Claim) : Option (Int × Bool × List Claim) := gp 163 Tryz.f163 1 o3' [1,1,1,1,1,1,1,1,1,0,0,0,0,1,0,0] [1,1,1,1] ⟨[(0,.fl (.ref 0)),(1,fI a),(4,.fl (.fn 116 [])),(12,fI b),(13,fI c)],[[.own .Claim d false]]⟩
end
end Go.Proofs.YthbpagedblodfaaGreat
