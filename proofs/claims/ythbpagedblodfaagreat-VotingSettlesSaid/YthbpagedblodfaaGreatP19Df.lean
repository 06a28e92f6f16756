/- What the functions come to: names. -/
import Derived.Test.YthbpagedblodfaaGreatP19Env
namespace Go.Proofs.YthbpagedblodfaaGreat
open Go Go.Ab
abbrev dA (c : sig.TC) (x : sig.Ty c) : TL sig := .d (.ag (sig.cells c x))
noncomputable abbrev gp (f : Nat) (fn : Func) (k : Nat) (o : OSpec sig) (p ms : List Nat) (st : TSt sig) : Option o.Out := goC tn ⟨f, fn, k⟩ o (q08 fn p) (y6a fn p ms) st
abbrev fI (n : Int) : TV sig := .fl (.d (.lf (.i .i64 n)))
abbrev fB (n : Bool) : TV sig := .fl (.d (.lf (.b n)))
abbrev fL (c : sig.TC) (l : List (sig.Ty c)) : TV sig := .fl (.d (.lf (.l c l)))
abbrev fP (n : Nat) : TV sig := .fl (.ptr n 0)
abbrev dI (n : Int) : TL sig := .d (.lf (.i .i64 n))
abbrev dL (c : sig.TC) (l : List (sig.Ty c)) : TL sig := .d (.lf (.l c l))
noncomputable section
def law19_VotingKeeps (t_0 : List Int) : Option (Bool) := callC tn 4 [.d (.lf (.l (c := .i64) t_0))] [] o0'
def law19_VotingNumbers (t_0 : List Int) : Option (Bool) := callC tn 6 [.d (.lf (.l (c := .i64) t_0))] [] o0'
def law19_VotingSettles (t_0 : List Int) : Option (Bool) := callC tn 5 [.d (.lf (.l (c := .i64) t_0))] [] o0'
def law19_awake  : Option (Bool) := callC tn 16 [] [] o0'
def z6q (l_0 : List Int) : Option (Unit × List Int × Int) := callC tn 8 [.d (.lf (.l (c := .i64) l_0))] [] o28'
def z69 (n_1 : Int) (h0 : List Int) (h1 : Int) : Option (Message × List Int × Int) := callC tn 26 [.ptr 0 0,dI n_1] [[.d (.lf (.l (c := .i64) h0)),dI h1]] o29'
def law19_played (n_1 m_2 : Int) (h0 : List Int) (h1 : Int) : Option (Voter × Bool × List Int × Int) := callC tn 17 [.ptr 0 0,dI n_1,dI m_2] [[.d (.lf (.l (c := .i64) h0)),dI h1]] o19'
def z5n (n_1 deep_2 : Int) (h0 : List Int) (h1 : Int) : Option (Trust × List Int × Int) := callC tn 10 [.ptr 0 0,dI n_1,dI deep_2] [[.d (.lf (.l (c := .i64) h0)),dI h1]] o9'
def z5q (node_0 : Int) (t_1 : Trust) : Option (Voter × Int) := callC tn 9 [dI node_0,dA .Trust t_1] [] o10'
def z4x (v_0 : Voter) (x_1 : Claim) : Option (Voter × Int) := callC tn 11 [dA .Voter v_0,dA .Claim x_1] [] o10'
def z22 (n_1 : Int) (h0 : List Int) (h1 : Int) : Option (Int × List Int × Int) := callC tn 12 [.ptr 0 0,dI n_1] [[.d (.lf (.l (c := .i64) h0)),dI h1]] o16'
def z4f (l_0 : List Claim) : Option (List Claim) := callC tn 18 [.d (.lf (.l (c := .Claim) l_0))] [] o3'
def z4y (v_0 : Voter) (m_1 : Message) : Option (Voter × Int) := callC tn 14 [dA .Voter v_0,dA .Message m_1] [] o10'
def z6d (v_0 : Voter) : Option (List Claim) := callC tn 19 [dA .Voter v_0] [] o3'
def z6l (v_0 : Voter) : Option (Message) := callC tn 37 [dA .Voter v_0] [] o11'
def z2m (a_1 b_2 : Int) (h0 : List Int) (h1 : Int) : Option (Int × List Int × Int) := callC tn 73 [.ptr 0 0,dI a_1,dI b_2] [[.d (.lf (.l (c := .i64) h0)),dI h1]] o16'
def z5w (n_1 : Int) (h0 : List Int) (h1 : Int) : Option (List Claim × List Int × Int) := callC tn 74 [.ptr 0 0,dI n_1] [[.d (.lf (.l (c := .i64) h0)),dI h1]] o20'
def z5a (l_1 h0 : List Int) (h1 : Int) : Option (Int × List Int × Int) := callC tn 79 [.ptr 0 0,.d (.lf (.l (c := .i64) l_1))] [[.d (.lf (.l (c := .i64) h0)),dI h1]] o16'
def z67 (n_1 deep_2 : Int) (h0 : List Int) (h1 : Int) : Option (Trust × List Int × Int) := callC tn 47 [.ptr 0 0,dI n_1,dI deep_2] [[.d (.lf (.l (c := .i64) h0)),dI h1]] o9'
def z32 (t_0 : Trust) : Option (Int) := callC tn 48 [dA .Trust t_0] [] o1'
def z2t (t_0 : Trust) : Option (Int) := callC tn 45 [dA .Trust t_0] [] o1'
def z4g (t_0 : Trust) : Option (Trust) := callC tn 46 [dA .Trust t_0] [] o12'
def z2w (v_0 : Voter) : Option (Bool) := callC tn 34 [dA .Voter v_0] [] o0'
def z5b (x_0 : Claim) : Option (Bool) := callC tn 49 [dA .Claim x_0] [] o0'
def z1c (s_0 : List Claim) (h0 h1 : Int) : Option (Bool × Int × Int) := callC tn 52 [.d (.lf (.l (c := .Claim) s_0)),.fn 50 [(0,0)]] [[dI h0,dI h1]] o21'
def z4w (l_0 : List Claim) (x_1 : Claim) : Option (Bool) := callC tn 53 [.d (.lf (.l (c := .Claim) l_0)),dA .Claim x_1] [] o0'
def z2n (v_0 : Voter) : Option (Voter) := callC tn 54 [dA .Voter v_0] [] o7'
def z5x (l_0 : List Claim) (x_1 : Claim) : Option (List Claim) := callC tn 55 [.d (.lf (.l (c := .Claim) l_0)),dA .Claim x_1] [] o3'
def z33 (before_0 v_1 : Voter) : Option (Voter) := callC tn 56 [dA .Voter before_0,dA .Voter v_1] [] o7'
def z2u (m_0 : Message) : Option (Bool) := callC tn 57 [dA .Message m_0] [] o0'
def z17 (x_0 : List Message) (target_1 : Int) : Option (Int × Bool) := callC tn 58 [.d (.lf (.l (c := .Message) x_0)),dI target_1,.fn 59 []] [] o13'
def z1p (s_0 : List Message) : Option (Unit × List Message) := callC tn 61 [.d (.lf (.l (c := .Message) s_0))] [] ⟨[.ref 0],[[.own .Message false]]⟩
def z4h (i_1 : Int) (v_2 h0 : List Message) : Option (List Message × Unit) := callC tn 62 [.ref 0,dI i_1,.d (.lf (.l (c := .Message) v_2))] [[.own .Message h0 false]] ⟨[.lf (.l .Message)],[[.undef]]⟩
def z6j (v_0 : Voter) : Option (List Message) := callC tn 65 [dA .Voter v_0] [] ⟨[.lf (.l .Message)],[]⟩
def z5y (v_0 : Voter) : Option (Message) := callC tn 86 [dA .Voter v_0] [] o11'
def z34 (m_0 : Message) : Option (Message) := callC tn 85 [dA .Message m_0] [] o11'
def z5z (n_1 : Int) (h0 : List Int) (h1 : Int) : Option (List Int × List Int × Int) := callC tn 13 [.ptr 0 0,dI n_1] [[.d (.lf (.l (c := .i64) h0)),dI h1]] o17'
def z64 (t_0 : Trust) : Option (Int) := callC tn 97 [dA .Trust t_0] [] o1'
def z6a (t_0 : Trust) : Option (Int) := callC tn 98 [dA .Trust t_0] [] o1'
def z3o (t_0 : Trust) : Option (Int) := callC tn 99 [dA .Trust t_0] [] o1'
def z4k (t_0 : Trust) : Option (Int) := callC tn 93 [dA .Trust t_0] [] o1'
def z52 (t_0 : Trust) : Option (Int) := callC tn 94 [dA .Trust t_0] [] o1'
def z4l (t_0 : Trust) : Option (Int) := callC tn 95 [dA .Trust t_0] [] o1'
def z37 (s_0 : List Int) : Option (Unit × List Int) := callC tn 96 [.d (.lf (.l (c := .i64) s_0))] [] ⟨[.ref 0],[[.own .i64 false]]⟩
def z3q (l_0 : List Claim) : Option (Bool) := callC tn 81 [.d (.lf (.l (c := .Claim) l_0))] [] o0'
def z5p (l_0 : List Claim) : Option (Bool) := callC tn 82 [.d (.lf (.l (c := .Claim) l_0))] [] o0'
def z1i (s_0 : List Claim) (h0 h1 h2 : Int) (h3 : List Int) (h4 : List Trust) (h5 h6 h7 : List Claim) (h8 : List Message) : Option (Bool × Int × Int × Int × List Int × List Trust × List Claim × List Claim × List Claim × List Message) := callC tn 52 [.d (.lf (.l (c := .Claim) s_0)),.fn 83 [(0,0)]] [[dI h0,dI h1,dI h2,.d (.lf (.l (c := .i64) h3)),.d (.lf (.l (c := .Trust) h4)),.d (.lf (.l (c := .Claim) h5)),.d (.lf (.l (c := .Claim) h6)),.d (.lf (.l (c := .Claim) h7)),.d (.lf (.l (c := .Message) h8))]] o22'
def z1k (s_0 : List Claim) (h0 h1 : Int) : Option (Int × Int × Int) := callC tn 100 [.d (.lf (.l (c := .Claim) s_0)),.fn 50 [(0,0)]] [[dI h0,dI h1]] o23'
def z2i (s_0 : List Claim) (v_1 : Claim) : Option (Bool) := callC tn 101 [.d (.lf (.l (c := .Claim) s_0)),dA .Claim v_1] [] o0'
def z18 (s_0 : List Claim) : Option (Unit × List Claim) := callC tn 102 [.d (.lf (.l (c := .Claim) s_0))] [] o18'
def z68 (a_0 b_1 : List Claim) : Option (List Claim) := callC tn 103 [.d (.lf (.l (c := .Claim) a_0)),.d (.lf (.l (c := .Claim) b_1))] [] o3'
def z5r (v_0 : Voter) : Option (Voter) := callC tn 104 [dA .Voter v_0] [] o7'
def z3i (a_0 b_1 : Trust) : Option (Bool) := callC tn 75 [dA .Trust a_0,dA .Trust b_1] [] o0'
def z2d (s1_0 s2_1 : List Claim) : Option (Bool) := callC tn 88 [.d (.lf (.l (c := .Claim) s1_0)),.d (.lf (.l (c := .Claim) s2_1))] [] o0'
def z53 (k_0 : Int) : Option (Bool) := callC tn 105 [dI k_0] [] o0'
def z6k (v_0 : Voter) : Option (Message) := callC tn 21 [dA .Voter v_0] [] o11'
def z1g (s_0 : List Int) : Option (Bool) := callC tn 118 [.d (.lf (.l (c := .i64) s_0)),.fn 119 []] [] o0'
def z6m (nodes_0 : List Int) : Option (Int × Int) := callC tn 121 [.d (.lf (.l (c := .i64) nodes_0))] [] o14'
def z1j (s_0 : List Claim) (h0 h1 h2 : Int) (h3 : List Int) (h4 : List Trust) (h5 h6 h7 : List Claim) (h8 : List Message) : Option (Int × Int × Int × Int × List Int × List Trust × List Claim × List Claim × List Claim × List Message) := callC tn 100 [.d (.lf (.l (c := .Claim) s_0)),.fn 83 [(0,0)]] [[dI h0,dI h1,dI h2,.d (.lf (.l (c := .i64) h3)),.d (.lf (.l (c := .Trust) h4)),.d (.lf (.l (c := .Claim) h5)),.d (.lf (.l (c := .Claim) h6)),.d (.lf (.l (c := .Claim) h7)),.d (.lf (.l (c := .Message) h8))]] o24'
def z2x (s_0 : List Claim) (v_1 : Claim) : Option (Int) := callC tn 123 [.d (.lf (.l (c := .Claim) s_0)),dA .Claim v_1] [] o1'
def z66 (slices_0 : List (List Claim)) : Option (Unit × List Claim) := callC tn 125 [.d (.lf (.l (c := .l_Claim) slices_0))] [] o18'
def z5e (l_0 : List Claim) : Option (List Claim) := callC tn 124 [.d (.lf (.l (c := .Claim) l_0))] [] o3'
def z54 (v_0 : Int) (t_1 : Trust) (l_2 : List Message) : Option (Config) := callC tn 126 [dI v_0,dA .Trust t_1,.d (.lf (.l (c := .Message) l_2))] [] o15'
def z5o (v_0 : Voter) (c_1 : Config) : Option (Claim × Bool) := callC tn 127 [dA .Voter v_0,dA .Config c_1] [] o25'
def z38 (s1_0 s2_1 : List Int) : Option (Bool) := callC tn 113 [.d (.lf (.l (c := .i64) s1_0)),.d (.lf (.l (c := .i64) s2_1))] [] o0'
def z1b (s1_0 s2_1 : List Trust) : Option (Bool) := callC tn 114 [.d (.lf (.l (c := .Trust) s1_0)),.d (.lf (.l (c := .Trust) s2_1)),.fn 75 []] [] o0'
def z1q (s_0 : List Int) : Option (Int) := callC tn 134 [.d (.lf (.l (c := .i64) s_0)),.fn 119 []] [] o1'
def z1h (h0 : List Claim) : Option (Unit × List Claim) := callC tn 136 [.ref 0,.fn 137 []] [[.own .Claim h0 false]] o18'
def z1d (h0 : List Claim) : Option (List Claim) := callC tn 138 [.ref 0,.fn 116 []] [[.own .Claim h0 false]] o2'
def z60 (h0 : List Claim) : Option (List Claim × Unit) := callC tn 139 [.ref 0] [[.own .Claim h0 false]] ⟨[.lf (.l .Claim)],[[.undef]]⟩
def z5s (l_0 : List Message) : Option (List Claim) := callC tn 142 [.d (.lf (.l (c := .Message) l_0))] [] o3'
def z1o (h0 : List Claim) : Option (Int × List Claim) := callC tn 100 [.ref 0,.fn 137 []] [[.own .Claim h0 false]] o6'
def z6p (x_0 : Int) : Option (Int) := callC tn 151 [.d (.lf (.i .u64 x_0))] [] o1'
def z01 (a_1 b_2 limit_3 : Int) (h0 : List Claim) : Option (List Claim) := callC tn 150 [.ref 0,dI a_1,dI b_2,dI limit_3,.fn 116 []] [[.own .Claim h0 false]] o2'
def z6n (x_0 : Int) : Option (Int) := callC tn 165 [.d (.lf (.i .u64 x_0))] [] o1'
def z4z (v_0 : Voter) : Option (Bool) := callC tn 35 [dA .Voter v_0] [] o0'
def z6o (a_0 b_1 : Message) : Option (Bool) := callC tn 36 [dA .Message a_0,dA .Message b_1] [] o0'
def z5h (a_0 b_1 : Voter) : Option (Bool) := callC tn 28 [dA .Voter a_0,dA .Voter b_1] [] o0'
def z6h (h0 : List Int) (h1 : Int) : Option (Claim × List Int × Int) := callC tn 39 [.ptr 0 0] [[.d (.lf (.l (c := .i64) h0)),dI h1]] o30'
def z4b (l_0 : List Claim) : Option (Bool) := callC tn 84 [.d (.lf (.l (c := .Claim) l_0))] [] o0'
def z26 (l_0 : List Claim) : Option (Bool) := callC tn 64 [.d (.lf (.l (c := .Claim) l_0))] [] o0'
def z3r (a_0 b_1 : Trust) : Option (Bool) := callC tn 76 [dA .Trust a_0,dA .Trust b_1] [] o0'
def z3b (a_0 b_1 : List Claim) : Option (Bool) := callC tn 15 [.d (.lf (.l (c := .Claim) a_0)),.d (.lf (.l (c := .Claim) b_1))] [] o0'
def z6b (a_0 b_1 : List Int) : Option (Bool) := callC tn 115 [.d (.lf (.l (c := .i64) a_0)),.d (.lf (.l (c := .i64) b_1))] [] o0'
def z1x (a2 : Int) (a4 : List Int) (a6 a8 a10 a12 : Int) (a14 : List Int) (a16 : List Trust) (a18 a20 a22 : List Claim) (a24 : List Message) : Option (Bool) := gp 6 Tryz.f6 0 o0' [1,1,1,1,0,1,0] [2] ⟨[(3,fP 0),(4,fP 1),(6,fI a2)],[[dL .i64 a4,dI a6],[dI a8,dI a10,dI a12,dL .i64 a14,dL .Trust a16,dL .Claim a18,dL .Claim a20,dL .Claim a22,dL .Message a24]]⟩
def z55 (v_0 : Voter) (t_1 : Trust) : Option (Voter × Int) := callC tn 27 [dA .Voter v_0,dA .Trust t_1] [] o10'
def z27 (a2 : List Claim) (a4 a6 : Int) (a8 : List Int) (a10 a12 a14 a16 : Int) (a18 : List Int) (a20 : List Trust) (a22 a24 a26 : List Claim) (a28 : List Message) (a30 a32 a34 : Int) (a36 : List Int) (a38 : List Trust) (a40 a42 a44 : List Claim) (a46 : List Message) : Option (Bool) := gp 5 Tryz.f5 0 o0' [1,1,1,1,1,0,1,0] [3] ⟨[(4,fP 1),(6,fP 2),(47,fL .Claim a2),(48,fI a4),(49,fI a6)],[[dL .i64 a8,dI a10],[dI a12,dI a14,dI a16,dL .i64 a18,dL .Trust a20,dL .Claim a22,dL .Claim a24,dL .Claim a26,dL .Message a28],[dI a30,dI a32,dI a34,dL .i64 a36,dL .Trust a38,dL .Claim a40,dL .Claim a42,dL .Claim a44,dL .Message a46]]⟩
def z6r (v_0 : Voter) (x_1 : Claim) : Option (Bool) := callC tn 20 [dA .Voter v_0,dA .Claim x_1] [] o0'
def z4i (l_0 : List Claim) (x_1 : Claim) : Option (Bool) := callC tn 25 [.d (.lf (.l (c := .Claim) l_0)),dA .Claim x_1] [] o0'
def z6e (x_0 : Claim) : Option (Bool) := callC tn 90 [dA .Claim x_0] [] o0'
def z4c (a_0 b_1 : List Claim) : Option (List Claim) := callC tn 66 [.d (.lf (.l (c := .Claim) a_0)),.d (.lf (.l (c := .Claim) b_1))] [] o3'
def z50 (m_0 : Message) : Option (Bool) := callC tn 72 [dA .Message m_0] [] o0'
def z1e (a1 a3 a7 : Int) (a9 : List Int) (a11 a13 a15 a17 : Int) (a19 : List Int) (a21 : List Trust) (a23 a25 a27 : List Claim) (a29 : List Message) (a31 a33 a35 : Int) (a37 : List Int) (a39 : List Trust) (a41 a43 a45 : List Claim) (a47 : List Message) : Option (Voter × Bool × List Int × Int) := gp 17 Tryz.f17 1 o19' [1,1,1,0,1,0] [3] ⟨[(0,fP 0),(1,fI a1),(2,fI a3),(6,fP 1),(8,fP 2),(10,fI a7)],[[dL .i64 a9,dI a11],[dI a13,dI a15,dI a17,.own .i64 a19 false,.own .Trust a21 false,.own .Claim a23 false,.own .Claim a25 false,.own .Claim a27 false,.own .Message a29 false],[dI a31,dI a33,dI a35,dL .i64 a37,dL .Trust a39,dL .Claim a41,dL .Claim a43,dL .Claim a45,dL .Message a47]]⟩
def law19_kept (a_0 b_1 : List Claim) : Option (Bool) := callC tn 63 [.d (.lf (.l (c := .Claim) a_0)),.d (.lf (.l (c := .Claim) b_1))] [] o0'
def z2v (a0 a2 : List Claim) (a4 : Int) : Option (List Claim) := gp 18 Tryz.f18 0 o3' [1,1,0,1,0] [0] ⟨[(0,fL .Claim a0),(3,.fl (.own .Claim a2 false)),(4,fI a4)],[]⟩
def z6c (a0 : List Claim) (a2 : List Message) (a4 a6 a8 a10 a12 : Int) (a14 : List Int) (a16 : List Trust) (a18 a20 a22 : List Claim) (a24 : List Message) : Option (List Claim) := gp 19 Tryz.f19 0 o3' [1,1,0,1,0] [1] ⟨[(3,.fl (.own .Claim a0 false)),(7,fL .Message a2),(8,fI a4),(9,fI a6)],[[dI a8,dI a10,dI a12,dL .i64 a14,dL .Trust a16,dL .Claim a18,dL .Claim a20,dL .Claim a22,dL .Message a24]]⟩
def z5c (a1 : List Claim) (a3 : Int) (a5 : List Int) (a7 : Int) : Option (List Claim × List Int × Int) := gp 74 Tryz.f74 1 o20' [1,1,0,1,0] [1] ⟨[(0,fP 0),(5,.fl (.own .Claim a1 false)),(6,fI a3)],[[dL .i64 a5,dI a7]]⟩
def z4d (a1 a3 : Int) (a7 : List Int) (a9 a11 : Int) (a13 : List Int) (a15 a17 : Int) (a19 : List Int) (a21 : List Trust) (a23 : Int) (a25 : List Int) (a27 : List Trust) : Option (Trust × List Int × Int) := gp 47 Tryz.f47 1 o9' [1,1,1,0,1,0] [3] ⟨[(0,fP 0),(1,fI a1),(2,fI a3),(6,fP 1),(7,fP 2),(20,fL .i64 a7),(21,fI a9),(22,fI a11)],[[dL .i64 a13,dI a15],[dI a17,.own .i64 a19 false,.own .Trust a21 false],[dI a23,.own .i64 a25 false,.own .Trust a27 false]]⟩
def z3s (a2 : List Trust) (a4 a6 a8 : Int) (a10 : List Int) (a12 : List Trust) (a14 : Int) (a16 : List Int) (a18 : List Trust) (a20 : Int) (a22 : List Int) (a24 : List Trust) : Option (Trust) := gp 46 Tryz.f46 0 o12' [1,1,0,1,0] [3] ⟨[(2,fP 1),(3,fP 2),(13,fL .Trust a2),(14,fI a4),(15,fI a6)],[[dI a8,dL .i64 a10,dL .Trust a12],[dI a14,.own .i64 a16 false,.own .Trust a18 false],[dI a20,.own .i64 a22 false,.own .Trust a24 false]]⟩
def z23 (a1 : List Message) (a3 a5 a7 a9 a11 : Int) (a13 : List Int) (a15 : List Trust) (a17 a19 a21 : List Claim) (a23 : List Message) : Option (Bool) := gp 34 Tryz.f34 0 o0' [1,1,1,1,0,1,0] [1] ⟨[(1,fP 0),(62,fL .Message a1),(63,fI a3),(64,fI a5)],[[dI a7,dI a9,dI a11,dL .i64 a13,dL .Trust a15,dL .Claim a17,dL .Claim a19,dL .Claim a21,dL .Message a23]]⟩
def z3t (a2 : List Message) (a4 a6 a8 a10 a12 : Int) (a14 : List Int) (a16 : List Trust) (a18 a20 a22 : List Claim) (a24 : List Message) (a26 a28 a30 : Int) (a32 : List Int) (a34 : List Trust) (a36 a38 a40 : List Claim) (a42 : List Message) : Option (Voter) := gp 54 Tryz.f54 0 o7' [1,1,1,1,0,1,0] [2] ⟨[(1,fP 0),(2,fP 1),(25,fL .Message a2),(26,fI a4),(27,fI a6)],[[dI a8,dI a10,dI a12,dL .i64 a14,dL .Trust a16,.own .Claim a18 false,.own .Claim a20 false,.own .Claim a22 false,.own .Message a24 false],[dI a26,dI a28,dI a30,.own .i64 a32 false,.own .Trust a34 false,.own .Claim a36 false,.own .Claim a38 false,.own .Claim a40 false,.own .Message a42 false]]⟩
def z0f (a0 : List Message) (a2 a5 a7 a9 : Int) : Option (Int × Bool) := gp 58 Tryz.f58 0 o13' [1,1,1,0,0] [0] ⟨[(0,fL .Message a0),(1,fI a2),(2,.fl (.fn 59 [])),(8,fI a5),(9,fI a7),(10,fI a9)],[]⟩
def z5f (x_0 : Message) (node_1 : Int) : Option (Int) := callC tn 59 [dA .Message x_0,dI node_1] [] o1'
def z3e (x_0 y_1 : Int) : Option (Int) := callC tn 60 [dI x_0,dI y_1] [] o1'
def z56 (x_0 : Int) : Option (Bool) := callC tn 106 [dI x_0] [] o0'
def z3f (a1 : Int) (a3 : List Int) (a5 : Int) (a7 : List Int) (a9 : Int) : Option (List Int × List Int × Int) := gp 13 Tryz.f13 1 o17' [1,1,0,1,0] [1] ⟨[(0,fP 0),(1,fI a1),(5,.fl (.own .i64 a3 false)),(6,fI a5)],[[dL .i64 a7,dI a9]]⟩
def z45 (a0 : Int) (a2 : List Trust) (a4 a6 a8 : Int) (a10 : List Int) (a12 : List Trust) : Option (Int) := gp 97 Tryz.f97 0 o1' [1,1,0,1,0] [1] ⟨[(3,fI a0),(7,fL .Trust a2),(8,fI a4),(9,fI a6)],[[dI a8,dL .i64 a10,dL .Trust a12]]⟩
def z4n (a0 : Int) (a2 : List Trust) (a4 a6 a8 : Int) (a10 : List Int) (a12 : List Trust) : Option (Int) := gp 98 Tryz.f98 0 o1' [1,1,0,1,0] [1] ⟨[(3,fI a0),(14,fL .Trust a2),(15,fI a4),(16,fI a6)],[[dI a8,dL .i64 a10,dL .Trust a12]]⟩
def z1z (a1 : List Int) (a3 a5 a7 : Int) (a9 : List Int) (a11 : List Trust) : Option (Int) := gp 99 Tryz.f99 0 o1' [1,1,0,1,0] [1] ⟨[(1,fP 0),(26,fL .i64 a1),(27,fI a3),(28,fI a5)],[[dI a7,dL .i64 a9,dL .Trust a11]]⟩
def z6i (nodes_0 : List Int) : Option (Int × Int) := callC tn 122 [.d (.lf (.l (c := .i64) nodes_0))] [] o14'
def z2y (a0 : Int) (a2 : List Trust) (a4 a6 a8 : Int) (a10 : List Int) (a12 : List Trust) : Option (Int) := gp 93 Tryz.f93 0 o1' [1,1,0,1,0] [1] ⟨[(3,fI a0),(7,fL .Trust a2),(8,fI a4),(9,fI a6)],[[dI a8,dL .i64 a10,dL .Trust a12]]⟩
def z39 (a0 : Int) (a2 : List Trust) (a4 a6 a8 : Int) (a10 : List Int) (a12 : List Trust) : Option (Int) := gp 94 Tryz.f94 0 o1' [1,1,0,1,0] [1] ⟨[(3,fI a0),(14,fL .Trust a2),(15,fI a4),(16,fI a6)],[[dI a8,dL .i64 a10,dL .Trust a12]]⟩
def z2z (a0 : List Trust) (a2 a4 a6 : Int) (a8 : List Int) (a10 : List Trust) : Option (Int) := gp 95 Tryz.f95 0 o1' [1,1,1,1,0,1,0] [1] ⟨[(36,fL .Trust a0),(37,fI a2),(38,fI a4)],[[dI a6,dL .i64 a8,dL .Trust a10]]⟩
def z2f (a0 a2 : List Claim) (a4 a6 : Int) : Option (Bool) := gp 81 Tryz.f81 0 o0' [1,0,1,0] [0] ⟨[(0,fL .Claim a0),(5,fL .Claim a2),(6,fI a4),(7,fI a6)],[]⟩
def z09 (a_0 b_1 : Claim) : Option (Int) := callC tn 116 [dA .Claim a_0,dA .Claim b_1] [] o1'
def z6f (vals_0 : List Int) : Option (Int) := callC tn 133 [.d (.lf (.l (c := .i64) vals_0))] [] o1'
def z0u (a0 : List Claim) (a3 a5 a7 a9 : Int) : Option (Int × Int × Int) := gp 100 Tryz.f100 1 o23' [1,0,1,0] [1] ⟨[(0,fL .Claim a0),(1,.fl (.fn 50 [(0,0)])),(7,fI a3),(8,fI a5)],[[dI a7,dI a9]]⟩
def z61 (y_0 : Claim) (h0 h1 : Int) : Option (Bool × Int × Int) := callC tn 50 [dA .Claim y_0,.ptr 0 0] [[dI h0,dI h1]] o21'
def z4q (a_0 b_1 : Claim) : Option (Bool) := callC tn 51 [dA .Claim a_0,dA .Claim b_1] [] o0'
def z3z (a4 : Bool) (a6 a8 a10 : Int) (a12 : List Int) (a14 : List Trust) (a16 a18 a20 : List Claim) (a22 : List Message) (a24 a26 a28 : Int) (a30 : List Int) (a32 : List Trust) (a34 a36 a38 : List Claim) (a40 : List Message) (a42 : List Member) (a44 a46 : Int) : Option (Voter) := gp 104 Tryz.f104 0 o7' [1,1,0,1,0] [4] ⟨[(1,fP 0),(2,fP 1),(3,fP 2),(4,fP 3),(5,fB a4)],[[dI a6,dI a8,dI a10,dL .i64 a12,dL .Trust a14,dL .Claim a16,dL .Claim a18,dL .Claim a20,dL .Message a22],[dI a24,dI a26,dI a28,.own .i64 a30 false,.own .Trust a32 false,.own .Claim a34 false,.own .Claim a36 false,.own .Claim a38 false,.own .Message a40 false],[dL .Member a42],[dI a44,dI a46]]⟩
def z1u (a0 a2 : List Claim) (a4 a6 : Int) : Option (Bool) := gp 88 Tryz.f88 0 o0' [1,1,0,1,0] [0] ⟨[(0,fL .Claim a0),(1,fL .Claim a2),(12,fI a4),(13,fI a6)],[]⟩
def z3c (a0 : Int) (a2 : List Int) (a4 a6 : Int) : Option (Int × Int) := gp 121 Tryz.f121 0 o14' [1,1,0,1,0] [0] ⟨[(4,fI a0),(7,fL .i64 a2),(8,fI a4),(9,fI a6)],[]⟩
def z3p (s_0 node_1 : Int) : Option (Bool) := callC tn 135 [dI s_0,dI node_1] [] o0'
def z2c (s_0 : Int) : Option (Bool) := callC tn 149 [dI s_0] [] o0'
def z4o (s_0 n_1 : Int) : Option (Bool) := callC tn 155 [dI s_0,dI n_1] [] o0'
def z0r (a0 : List Claim) (a3 a5 a7 a9 a11 : Int) (a13 : List Int) (a15 : List Trust) (a17 a19 a21 : List Claim) (a23 : List Message) : Option (Int × Int × Int × Int × List Int × List Trust × List Claim × List Claim × List Claim × List Message) := gp 100 Tryz.f100 1 o24' [1,0,1,0] [1] ⟨[(0,fL .Claim a0),(1,.fl (.fn 83 [(0,0)])),(7,fI a3),(8,fI a5)],[[dI a7,dI a9,dI a11,dL .i64 a13,dL .Trust a15,dL .Claim a17,dL .Claim a19,dL .Claim a21,dL .Message a23]]⟩
def z5t (x_0 : Claim) (h0 h1 h2 : Int) (h3 : List Int) (h4 : List Trust) (h5 h6 h7 : List Claim) (h8 : List Message) : Option (Bool × Int × Int × Int × List Int × List Trust × List Claim × List Claim × List Claim × List Message) := callC tn 83 [dA .Claim x_0,.ptr 0 0] [[dI h0,dI h1,dI h2,.d (.lf (.l (c := .i64) h3)),.d (.lf (.l (c := .Trust) h4)),.d (.lf (.l (c := .Claim) h5)),.d (.lf (.l (c := .Claim) h6)),.d (.lf (.l (c := .Claim) h7)),.d (.lf (.l (c := .Message) h8))]] o22'
def z1m (a0 : List Claim) (a3 a5 a7 a9 : Int) : Option (Int) := gp 123 Tryz.f123 0 o1' [1,0,1,0] [1] ⟨[(0,fL .Claim a0),(3,fP 0),(7,fI a3),(8,fI a5)],[[dI a7,dI a9]]⟩
def z29 (a0 : Int) (a5 : List Message) (a7 a9 a11 : Int) (a13 : List Int) (a15 : List Trust) (a17 a19 : List Member) : Option (Config) := gp 126 Tryz.f126 0 o15' [1,1,0,1,0] [3] ⟨[(0,fI a0),(4,fP 0),(6,fP 1),(7,fP 2),(12,fL .Message a5),(13,fI a7),(14,fI a9)],[[dI a11,dL .i64 a13,dL .Trust a15],[.own .Member a17 false],[.own .Member a19 false]]⟩
def z3g (t_0 : Trust) : Option (Trust) := callC tn 141 [dA .Trust t_0] [] o12'
def z35 (a3 : List Message) (a5 : List Claim) (a7 a9 a11 a13 a15 : Int) (a17 : List Int) (a19 : List Trust) (a21 a23 a25 : List Claim) (a27 : List Message) (a29 : List Member) (a31 a33 : Int) : Option (Claim × Bool) := gp 127 Tryz.f127 0 o25' [1,1,0,1,0] [3] ⟨[(2,fP 0),(3,fP 1),(4,fP 2),(6,fL .Message a3),(17,fL .Claim a5),(18,fI a7),(19,fI a9)],[[dI a11,dI a13,dI a15,dL .i64 a17,dL .Trust a19,dL .Claim a21,dL .Claim a23,dL .Claim a25,dL .Message a27],[dL .Member a29],[dI a31,dI a33]]⟩
def z5i (l_0 : List Message) (x_1 : Claim) : Option (Int) := callC tn 144 [.d (.lf (.l (c := .Message) l_0)),dA .Claim x_1] [] o1'
def z3j (l_0 : List Message) (x_1 : Claim) : Option (Int) := callC tn 129 [.d (.lf (.l (c := .Message) l_0)),dA .Claim x_1] [] o1'
def z40 (c_0 : Config) (v_1 votes_2 accepts_3 : Int) : Option (Bool) := callC tn 143 [dA .Config c_0,dI v_1,dI votes_2,dI accepts_3] [] o0'
def z1v (l_0 : List Message) (x_1 : Claim) : Option (Int) := callC tn 146 [.d (.lf (.l (c := .Message) l_0)),dA .Claim x_1,.fn 153 []] [] o1'
def z1r (l_0 : List Message) (x_1 : Claim) : Option (Int) := callC tn 146 [.d (.lf (.l (c := .Message) l_0)),dA .Claim x_1,.fn 147 []] [] o1'
def z4m (c_0 : Config) (v_1 s_2 : Int) : Option (Bool) := callC tn 152 [dA .Config c_0,dI v_1,dI s_2] [] o0'
def z46 (c_0 : Config) (s_1 : Int) : Option (Int) := callC tn 145 [dA .Config c_0,dI s_1] [] o1'
def z2o (c_0 : Config) : Option (Int) := callC tn 166 [dA .Config c_0] [] o1'
def z2r (t_0 : Trust) (s_1 : Int) : Option (Bool) := callC tn 167 [dA .Trust t_0,dI s_1] [] o0'
def z4r (c_0 : Config) (s_1 : Int) : Option (Int × List Int) := callC tn 154 [dA .Config c_0,dI s_1] [] o26'
def z1w (a0 a2 : List Int) (a4 a6 : Int) : Option (Bool) := gp 113 Tryz.f113 0 o0' [1,1,0,1,0] [0] ⟨[(0,fL .i64 a0),(1,fL .i64 a2),(12,fI a4),(13,fI a6)],[]⟩
def z0h (a0 a3 : List Trust) (a5 a7 : Int) : Option (Bool) := gp 114 Tryz.f114 0 o0' [1,1,0,1,0] [0] ⟨[(1,fL .Trust a0),(2,.fl (.fn 75 [])),(15,fL .Trust a3),(16,fI a5),(17,fI a7)],[]⟩
def z0k (a0 : List Int) (a3 a5 : Int) : Option (Int) := gp 134 Tryz.f134 0 o1' [1,0,1,0] [0] ⟨[(0,fL .i64 a0),(1,.fl (.fn 119 [])),(7,fI a3),(8,fI a5)],[]⟩
def z4s (k_0 : Int) : Option (Bool) := callC tn 119 [dI k_0] [] o0'
def z5u (k_0 : Int) : Option (Bool) := callC tn 120 [dI k_0] [] o0'
def z4t (a2 a4 : Int) (a6 : List Claim) : Option (Unit × List Claim) := gp 136 Tryz.f136 1 o18' [1,1,1,0,1,0] [1] ⟨[(0,.fl (.ref 0)),(1,.fl (.fn 137 [])),(5,fI a2),(6,fI a4)],[[.own .Claim a6 false]]⟩
def z3u (a0 : List Claim) (a2 : List Message) (a4 a6 : Int) : Option (List Claim) := gp 142 Tryz.f142 0 o3' [1,1,0,1,0] [0] ⟨[(3,.fl (.own .Claim a0 false)),(6,fL .Message a2),(7,fI a4),(8,fI a6)],[]⟩
def z0x (a2 a4 : Int) (a6 : List Claim) : Option (Int × List Claim) := gp 100 Tryz.f100 1 o6' [1,0,1,0] [1] ⟨[(0,.fl (.ref 0)),(1,.fl (.fn 137 [])),(7,fI a2),(8,fI a4)],[[.own .Claim a6 false]]⟩
def z5j (x_0 : Claim) : Option (Bool) := callC tn 137 [dA .Claim x_0] [] o0'
def z00 (a1 a3 a5 : Int) (a8 a10 : Bool) (a12 : List Claim) : Option (List Claim) := gp 150 Tryz.f150 1 o2' [1,1,0] [1] ⟨[(0,.fl (.ref 0)),(1,fI a1),(2,fI a3),(3,fI a5),(4,.fl (.fn 116 [])),(10,fB a8),(11,fB a10)],[[.own .Claim a12 false]]⟩
def z19 (a_1 b_2 : Int) (h0 : List Claim) : Option (List Claim) := callC tn 156 [.ref 0,dI a_1,dI b_2,.fn 116 []] [[.own .Claim h0 false]] o2'
def z1f (a_1 b_2 : Int) (h0 : List Claim) : Option (List Claim) := callC tn 157 [.ref 0,dI a_1,dI b_2,.fn 116 []] [[.own .Claim h0 false]] o2'
def z1a (a_1 b_2 : Int) (h0 : List Claim) : Option (List Claim) := callC tn 158 [.ref 0,dI a_1,dI b_2,.fn 116 []] [[.own .Claim h0 false]] o2'
def z0o (a_1 b_2 : Int) (h0 : List Claim) : Option (Int × Int × List Claim) := callC tn 159 [.ref 0,dI a_1,dI b_2,.fn 116 []] [[.own .Claim h0 false]] o31'
def z0l (a_1 b_2 : Int) (h0 : List Claim) : Option (List Claim) := callC tn 160 [.ref 0,dI a_1,dI b_2,.fn 116 []] [[.own .Claim h0 false]] o2'
def z08 (a_1 b_2 : Int) (h0 : List Claim) : Option (Bool × List Claim) := callC tn 161 [.ref 0,dI a_1,dI b_2,.fn 116 []] [[.own .Claim h0 false]] o8'
def z04 (a_1 b_2 pivot_3 : Int) (h0 : List Claim) : Option (Int × List Claim) := callC tn 162 [.ref 0,dI a_1,dI b_2,dI pivot_3,.fn 116 []] [[.own .Claim h0 false]] o6'
def z02 (a_1 b_2 pivot_3 : Int) (h0 : List Claim) : Option (Int × Bool × List Claim) := callC tn 163 [.ref 0,dI a_1,dI b_2,dI pivot_3,.fn 116 []] [[.own .Claim h0 false]] o4'
def z3k (length_0 : Int) : Option (Int) := callC tn 170 [dI length_0] [] ⟨[.lf (.i .u64)],[]⟩
def z0j (a_1 : Int) (h0 : List Claim) (h1 : Int) : Option (Int × List Claim × Int) := callC tn 172 [.ref 0,dI a_1,.ptr 1 0,.fn 116 []] [[.own .Claim h0 false],[dI h1]] o27'
def z0z (a_1 b_2 c_3 : Int) (h0 : List Claim) (h1 : Int) : Option (Int × List Claim × Int) := callC tn 173 [.ref 0,dI a_1,dI b_2,dI c_3,.ptr 1 0,.fn 116 []] [[.own .Claim h0 false],[dI h1]] o27'
def z10 (a_1 b_2 : Int) (h0 : List Claim) (h1 : Int) : Option (Int × Int × List Claim × Int) := callC tn 176 [.ref 0,dI a_1,dI b_2,.ptr 1 0,.fn 116 []] [[.own .Claim h0 false],[dI h1]] o32'
def z3l (a1 : List Claim) (a3 a5 a7 a9 a11 : Int) (a13 : List Int) (a15 : List Trust) (a17 a19 a21 : List Claim) (a23 : List Message) : Option (Bool) := gp 35 Tryz.f35 0 o0' [1,1,1,0,1,0] [1] ⟨[(1,fP 0),(60,fL .Claim a1),(61,fI a3),(62,fI a5)],[[dI a7,dI a9,dI a11,dL .i64 a13,dL .Trust a15,dL .Claim a17,dL .Claim a19,dL .Claim a21,dL .Message a23]]⟩
def z42 (a2 a4 a6 a8 a10 : Int) (a12 : List Int) (a14 : List Trust) (a16 a18 a20 : List Claim) (a22 : List Message) (a24 a26 a28 : Int) (a30 : List Int) (a32 : List Trust) (a34 a36 a38 : List Claim) (a40 : List Message) : Option (Bool) := gp 28 Tryz.f28 0 o0' [1,1,0,1,0] [2] ⟨[(2,fP 0),(3,fP 1),(61,fI a2),(62,fI a4)],[[dI a6,dI a8,dI a10,dL .i64 a12,dL .Trust a14,dL .Claim a16,dL .Claim a18,dL .Claim a20,dL .Message a22],[dI a24,dI a26,dI a28,dL .i64 a30,dL .Trust a32,dL .Claim a34,dL .Claim a36,dL .Claim a38,dL .Message a40]]⟩
def z2p (a0 a2 : List Claim) (a4 a6 : Int) : Option (Bool) := gp 84 Tryz.f84 0 o0' [1,0,1,0] [0] ⟨[(0,fL .Claim a0),(5,fL .Claim a2),(6,fI a4),(7,fI a6)],[]⟩
def z62 (a_0 b_1 : Claim) : Option (Int) := callC tn 117 [dA .Claim a_0,dA .Claim b_1] [] o1'
def z21 (a0 a2 : List Claim) (a4 a6 : Int) : Option (Bool) := gp 64 Tryz.f64 0 o0' [1,0,1,0] [0] ⟨[(0,fL .Claim a0),(7,fL .Claim a2),(8,fI a4),(9,fI a6)],[]⟩
def z3d (a2 a4 a6 : Int) (a8 : List Int) (a10 : List Trust) (a12 : Int) (a14 : List Int) (a16 : List Trust) : Option (Bool) := gp 76 Tryz.f76 0 o0' [1,1,0,1,0] [2] ⟨[(2,fP 0),(3,fP 1),(30,fI a2),(31,fI a4)],[[dI a6,dL .i64 a8,dL .Trust a10],[dI a12,dL .i64 a14,dL .Trust a16]]⟩
def z4p (a0 a2 : List Claim) (a4 a6 : Int) : Option (Bool) := gp 15 Tryz.f15 0 o0' [1,1,0,1,0] [0] ⟨[(0,fL .Claim a0),(1,fL .Claim a2),(12,fI a4),(13,fI a6)],[]⟩
def z43 (a0 a2 : List Int) (a4 a6 : Int) : Option (Bool) := gp 115 Tryz.f115 0 o0' [1,1,0,1,0] [0] ⟨[(0,fL .i64 a0),(1,fL .i64 a2),(12,fI a4),(13,fI a6)],[]⟩
def z1n (a1 : List Claim) (a3 a5 : Int) (a7 : List Int) (a9 a11 a13 a15 : Int) (a17 : List Int) (a19 : List Trust) (a21 a23 a25 : List Claim) (a27 : List Message) (a29 a31 a33 : Int) (a35 : List Int) (a37 : List Trust) (a39 a41 a43 : List Claim) (a45 : List Message) : Option (Bool) := gp 6 Tryz.f6 0 o0' [1,1,1,1,1,1,1,0,1,0] [3] ⟨[(4,fP 1),(89,fL .Claim a1),(90,fI a3),(91,fI a5)],[[dL .i64 a7,dI a9],[dI a11,dI a13,dI a15,dL .i64 a17,dL .Trust a19,dL .Claim a21,dL .Claim a23,dL .Claim a25,dL .Message a27],[dI a29,dI a31,dI a33,dL .i64 a35,dL .Trust a37,dL .Claim a39,dL .Claim a41,dL .Claim a43,dL .Message a45]]⟩
def z1s (a2 : List Message) (a4 : List Claim) (a6 a8 : Int) (a10 : List Int) (a12 a14 a16 a18 : Int) (a20 : List Int) (a22 : List Trust) (a24 a26 a28 : List Claim) (a30 : List Message) (a32 a34 a36 : Int) (a38 : List Int) (a40 : List Trust) (a42 a44 a46 : List Claim) (a48 : List Message) : Option (Bool) := gp 5 Tryz.f5 0 o0' [1,1,1,1,1,1,1,0,1,0] [3] ⟨[(4,fP 1),(6,fP 2),(10,fL .Message a2),(66,fL .Claim a4),(67,fI a6),(68,fI a8)],[[dL .i64 a10,dI a12],[dI a14,dI a16,dI a18,dL .i64 a20,dL .Trust a22,dL .Claim a24,dL .Claim a26,dL .Claim a28,dL .Message a30],[dI a32,dI a34,dI a36,dL .i64 a38,dL .Trust a40,dL .Claim a42,dL .Claim a44,dL .Claim a46,dL .Message a48]]⟩
def z5k (v_0 : Int) (t_1 : Trust) (l_2 : List Message) : Option (Config) := callC tn 23 [dI v_0,dA .Trust t_1,.d (.lf (.l (c := .Message) l_2))] [] o15'
def z57 (l_0 : List Message) (x_1 : Claim) : Option (Int) := callC tn 24 [.d (.lf (.l (c := .Message) l_0)),dA .Claim x_1] [] o1'
def z58 (c_0 : Config) (v_1 accepts_2 : Int) : Option (Bool) := callC tn 22 [dA .Config c_0,dI v_1,dI accepts_2] [] o0'
def z59 (c_0 : Config) (s_1 : Int) : Option (Int) := callC tn 71 [dA .Config c_0,dI s_1] [] o1'
def z51 (s_0 node_1 : Int) : Option (Bool) := callC tn 70 [dI s_0,dI node_1] [] o0'
def z3a (s_0 : Int) : Option (Bool) := callC tn 109 [dI s_0] [] o0'
def z47 (c_0 : Config) : Option (Int) := callC tn 111 [dA .Config c_0] [] o1'
def z4u (c_0 : Config) (s_1 : Int) : Option (List Int) := callC tn 112 [dA .Config c_0,dI s_1] [] o5'
def z4j (a2 : List Claim) (a4 a6 a8 a10 a12 : Int) (a14 : List Int) (a16 : List Trust) (a18 a20 a22 : List Claim) (a24 : List Message) (a26 a28 : Int) : Option (Bool) := gp 20 Tryz.f20 0 o0' [1,1,0,1,0] [2] ⟨[(2,fP 0),(3,fP 1),(13,fL .Claim a2),(14,fI a4),(15,fI a6)],[[dI a8,dI a10,dI a12,dL .i64 a14,dL .Trust a16,dL .Claim a18,dL .Claim a20,dL .Claim a22,dL .Message a24],[dI a26,dI a28]]⟩
def z48 (a_0 b_1 : Claim) : Option (Bool) := callC tn 67 [dA .Claim a_0,dA .Claim b_1] [] o0'
def z6g (l_0 : List Message) (x_1 : Claim) : Option (Int) := callC tn 69 [.d (.lf (.l (c := .Message) l_0)),dA .Claim x_1] [] o1'
def z5g (c_0 : Config) (v_1 votes_2 accepts_3 : Int) : Option (Bool) := callC tn 68 [dA .Config c_0,dI v_1,dI votes_2,dI accepts_3] [] o0'
def z5v (c_0 : Config) (v_1 s_2 : Int) : Option (Bool) := callC tn 110 [dA .Config c_0,dI v_1,dI s_2] [] o0'
def z3v (t_0 : Trust) (s_1 : Int) : Option (Bool) := callC tn 131 [dA .Trust t_0,dI s_1] [] o0'
def z5d (a1 : List Claim) (a3 a5 a7 a9 : Int) : Option (Bool) := gp 25 Tryz.f25 0 o0' [1,0,1,0] [1] ⟨[(3,fP 0),(7,fL .Claim a1),(8,fI a3),(9,fI a5)],[[dI a7,dI a9]]⟩
def z2g (a0 a2 : List Claim) (a4 a6 : Int) : Option (List Claim) := gp 18 Tryz.f18 0 o3' [1,1,0,1,0,0,1,0,0,1,0] [0,0,0,0] ⟨[(0,fL .Claim a0),(3,.fl (.own .Claim a2 false)),(4,fI a4),(5,fI a6)],[]⟩
def z49 (a0 : List Claim) (a2 : List Message) (a4 a6 a8 a10 a12 : Int) (a14 : List Int) (a16 : List Trust) (a18 a20 a22 : List Claim) (a24 : List Message) : Option (List Claim) := gp 19 Tryz.f19 0 o3' [1,1,0,1,0] [1] ⟨[(3,fL .Claim a0),(7,fL .Message a2),(8,fI a4),(9,fI a6)],[[dI a8,dI a10,dI a12,dL .i64 a14,dL .Trust a16,dL .Claim a18,dL .Claim a20,dL .Claim a22,dL .Message a24]]⟩
def z4e (a1 a3 a7 : Int) (a9 : List Int) (a11 a13 : Int) (a15 : List Int) (a17 : List Trust) (a19 : Int) (a21 : List Int) (a23 : List Trust) : Option (Trust × List Int × Int) := gp 47 Tryz.f47 1 o9' [1,1,1,1,0,1,0,0,1,0] [3] ⟨[(0,fP 0),(1,fI a1),(2,fI a3),(6,fP 1),(7,fP 2),(11,fI a7)],[[dL .i64 a9,dI a11],[dI a13,.own .i64 a15 false,.own .Trust a17 false],[dI a19,.own .i64 a21 false,.own .Trust a23 false]]⟩
def z3h (a1 : List Int) (a3 : Int) (a5 : List Int) (a7 : Int) : Option (List Int × List Int × Int) := gp 13 Tryz.f13 1 o17' [1,1,1,0,1,0] [1] ⟨[(0,fP 0),(5,.fl (.own .i64 a1 false)),(7,fI a3)],[[dL .i64 a5,dI a7]]⟩
def z20 (a0 : List Trust) (a2 a4 a6 : Int) (a8 : List Int) (a10 : List Trust) : Option (Int) := gp 99 Tryz.f99 0 o1' [1,1,1,1,0,1,0] [1] ⟨[(49,fL .Trust a0),(50,fI a2),(51,fI a4)],[[dI a6,dL .i64 a8,dL .Trust a10]]⟩
def z2h (a0 : Int) (a2 : List Int) (a4 a6 : Int) : Option (Int × Int) := gp 122 Tryz.f122 0 o14' [1,1,0,1,0] [0] ⟨[(4,fI a0),(7,fL .i64 a2),(8,fI a4),(9,fI a6)],[]⟩
def z4a (a0 : Int) (a2 : List Int) (a4 a6 : Int) : Option (Int) := gp 133 Tryz.f133 0 o1' [1,1,0,1,0] [0] ⟨[(3,fI a0),(6,fL .i64 a2),(7,fI a4),(8,fI a6)],[]⟩
def z2q (a3 : List Message) (a5 : List Claim) (a7 a9 a11 a13 a15 : Int) (a17 : List Int) (a19 : List Trust) (a21 a23 a25 : List Claim) (a27 : List Message) (a29 a31 a33 : Int) (a35 : List Int) (a37 : List Trust) (a39 a41 a43 : List Claim) (a45 : List Message) (a47 : List Member) (a49 a51 : Int) : Option (Voter) := gp 104 Tryz.f104 0 o7' [1,1,1,1,0,1,0] [4] ⟨[(1,fP 0),(2,fP 1),(3,fP 2),(6,fL .Message a3),(43,fL .Claim a5),(44,fI a7),(45,fI a9)],[[dI a11,dI a13,dI a15,dL .i64 a17,dL .Trust a19,dL .Claim a21,dL .Claim a23,dL .Claim a25,dL .Message a27],[dI a29,dI a31,dI a33,.own .i64 a35 false,.own .Trust a37 false,.own .Claim a39 false,.own .Claim a41 false,.own .Claim a43 false,.own .Message a45 false],[dL .Member a47],[dI a49,dI a51]]⟩
def z3m (c_0 : Config) (v_1 accepts_2 : Int) : Option (Bool) := callC tn 128 [dA .Config c_0,dI v_1,dI accepts_2] [] o0'
def z2s (a2 : List Trust) (a4 a6 a8 : Int) (a10 : List Int) (a12 : List Trust) (a14 : Int) (a16 : List Int) (a18 : List Trust) (a20 : Int) (a22 : List Int) (a24 : List Trust) : Option (Trust) := gp 141 Tryz.f141 0 o12' [1,1,0,1,0] [3] ⟨[(2,fP 1),(3,fP 2),(13,fL .Trust a2),(14,fI a4),(15,fI a6)],[[dI a8,dL .i64 a10,dL .Trust a12],[dI a14,.own .i64 a16 false,.own .Trust a18 false],[dI a20,.own .i64 a22 false,.own .Trust a24 false]]⟩
def z15 (a2 : Int) (a4 : List Message) (a6 a8 a10 a12 : Int) : Option (Int) := gp 146 Tryz.f146 0 o1' [1,1,0,1,0] [1] ⟨[(2,.fl (.fn 153 [])),(4,fP 0),(7,fI a2),(10,fL .Message a4),(11,fI a6),(12,fI a8)],[[dI a10,dI a12]]⟩
def z4v (m_0 : Message) : Option (List Claim) := callC tn 153 [dA .Message m_0] [] o3'
def z0v (a2 : Int) (a4 : List Message) (a6 a8 a10 a12 : Int) : Option (Int) := gp 146 Tryz.f146 0 o1' [1,1,0,1,0] [1] ⟨[(2,.fl (.fn 147 [])),(4,fP 0),(7,fI a2),(10,fL .Message a4),(11,fI a6),(12,fI a8)],[[dI a10,dI a12]]⟩
def z3w (m_0 : Message) : Option (List Claim) := callC tn 147 [dA .Message m_0] [] o3'
def z1l (a0 : Int) (a2 : List Member) (a4 a6 : Int) (a8 : List Member) : Option (Int) := gp 166 Tryz.f166 0 o1' [1,1,0,1,0] [1] ⟨[(3,fI a0),(7,fL .Member a2),(8,fI a4),(9,fI a6)],[[dL .Member a8]]⟩
def z1y (a0 a3 : Int) (a5 : List Int) (a7 a9 a11 : Int) (a13 : List Int) (a15 : List Trust) : Option (Bool) := gp 167 Tryz.f167 0 o0' [1,1,1,0,1,0] [1] ⟨[(1,fI a0),(2,fP 0),(5,fI a3),(14,fL .i64 a5),(15,fI a7),(16,fI a9)],[[dI a11,dL .i64 a13,dL .Trust a15]]⟩
def z2k (a0 : Int) (a3 : List Int) (a5 : List Member) : Option (Int × List Int) := gp 154 Tryz.f154 0 o26' [1,1,1,1,0] [1] ⟨[(1,fI a0),(2,fP 0),(6,.fl (.own .i64 a3 false))],[[dL .Member a5]]⟩
def z5l (c_0 : Config) (s_1 : Int) : Option (Int × Bool) := callC tn 168 [dA .Config c_0,dI s_1] [] o13'
def z63 (s_0 : Int) : Option (List Int) := callC tn 174 [dI s_0] [] o5'
def z0d (a1 a3 a6 : Int) (a8 : List Claim) : Option (List Claim) := gp 156 Tryz.f156 1 o2' [1,0] [1] ⟨[(0,.fl (.ref 0)),(1,fI a1),(2,fI a3),(3,.fl (.fn 116 [])),(8,fI a6)],[[.own .Claim a8 false]]⟩
def z0p (a2 a4 a6 a8 : Int) (a10 : List Claim) : Option (List Claim) := gp 157 Tryz.f157 1 o2' [1,1,1,0,1,0] [1] ⟨[(0,.fl (.ref 0)),(3,.fl (.fn 116 [])),(8,fI a2),(9,fI a4),(10,fI a6),(11,fI a8)],[[.own .Claim a10 false]]⟩
def z16 (lo_1 hi_2 first_3 : Int) (h0 : List Claim) : Option (List Claim) := callC tn 169 [.ref 0,dI lo_1,dI hi_2,dI first_3,.fn 116 []] [[.own .Claim h0 false]] o2'
def z0b (a1 a3 a6 a8 : Int) (a10 : List Claim) (a12 : Int) : Option (List Claim) := gp 158 Tryz.f158 1 o2' [1,1,0,1,1,1,0] [2] ⟨[(0,.fl (.ref 0)),(1,fI a1),(8,fI a3),(9,fP 1),(10,.fl (.d (.lf (.i .u64 a6)))),(11,fI a8)],[[.own .Claim a10 false],[.d (.lf (.i .u64 a12))]]⟩
def z3x (h0 : Int) : Option (Int × Int) := callC tn 171 [.ptr 0 0] [[.d (.lf (.i .u64 h0))]] o33'
def z0w (a1 a3 : Int) (a5 : List Claim) : Option (List Claim) := gp 160 Tryz.f160 1 o2' [1,1,0] [1] ⟨[(0,.fl (.ref 0)),(8,fI a1),(9,fI a3)],[[.own .Claim a5 false]]⟩
def z03 (a1 a3 a6 a8 : Int) (a10 : List Claim) : Option (Bool × List Claim) := gp 161 Tryz.f161 1 o8' [1,1,0,1,0] [1] ⟨[(0,.fl (.ref 0)),(1,fI a1),(2,fI a3),(3,.fl (.fn 116 [])),(9,fI a6),(10,fI a8)],[[.own .Claim a10 false]]⟩
def z0a (a1 a4 a6 : Int) (a8 : List Claim) : Option (Int × List Claim) := gp 162 Tryz.f162 1 o6' [1,1,1,0,0] [1] ⟨[(0,.fl (.ref 0)),(1,fI a1),(4,.fl (.fn 116 [])),(11,fI a4),(12,fI a6)],[[.own .Claim a8 false]]⟩
def z11 (a1 a4 a6 : Int) (a8 : List Claim) : Option (Int × Bool × List Claim) := gp 163 Tryz.f163 1 o4' [1,1,1,0,0] [1] ⟨[(0,.fl (.ref 0)),(1,fI a1),(4,.fl (.fn 116 [])),(12,fI a4),(13,fI a6)],[[.own .Claim a8 false]]⟩
def z2e (a1 : List Message) (a3 a5 a7 a9 a11 : Int) (a13 : List Int) (a15 : List Trust) (a17 a19 a21 : List Claim) (a23 : List Message) : Option (Bool) := gp 35 Tryz.f35 0 o0' [1,1,1,1,0,1,0] [1] ⟨[(1,fP 0),(73,fL .Message a1),(74,fI a3),(75,fI a5)],[[dI a7,dI a9,dI a11,dL .i64 a13,dL .Trust a15,dL .Claim a17,dL .Claim a19,dL .Claim a21,dL .Message a23]]⟩
def z28 (a0 a3 : List Claim) (a5 a7 : Int) (a9 : List Claim) (a11 a13 a15 a17 : Int) : Option (Bool) := gp 64 Tryz.f64 0 o0' [1,0,1,0,0,1,1,0,0,1,1,0] [0,0,0,1] ⟨[(0,fL .Claim a0),(4,fP 0),(7,fL .Claim a3),(8,fI a5),(9,fI a7),(16,fL .Claim a9),(17,fI a11),(18,fI a13)],[[dI a15,dI a17]]⟩
def z44 (a0 : Int) (a5 : List Message) (a7 a9 a11 : Int) (a13 : List Int) (a15 : List Trust) (a17 a19 : List Member) : Option (Config) := gp 23 Tryz.f23 0 o15' [1,1,0,1,0] [3] ⟨[(0,fI a0),(4,fP 0),(6,fP 1),(7,fP 2),(12,fL .Message a5),(13,fI a7),(14,fI a9)],[[dI a11,dL .i64 a13,dL .Trust a15],[.own .Member a17 false],[.own .Member a19 false]]⟩
def z2a (a1 : Int) (a3 : List Message) (a5 a7 a9 a11 : Int) : Option (Int) := gp 24 Tryz.f24 0 o1' [1,1,0,1,0] [1] ⟨[(3,fP 0),(5,fI a1),(8,fL .Message a3),(9,fI a5),(10,fI a7)],[[dI a9,dI a11]]⟩
def z41 (a0 : Int) (a2 : List Int) (a4 a6 : Int) (a8 : List Member) : Option (Int) := gp 71 Tryz.f71 0 o1' [1,1,1,0,1,0] [1] ⟨[(5,fI a0),(17,fL .i64 a2),(18,fI a4),(19,fI a6)],[[dL .Member a8]]⟩
def z2b (a0 : Int) (a2 : List Member) (a4 a6 : Int) (a8 : List Member) : Option (Int) := gp 111 Tryz.f111 0 o1' [1,1,0,1,0] [1] ⟨[(3,fI a0),(7,fL .Member a2),(8,fI a4),(9,fI a6)],[[dL .Member a8]]⟩
def z2l (a1 : Int) (a3 : List Int) (a5 : Bool) (a7 : List Member) : Option (List Int) := gp 112 Tryz.f112 0 o5' [1,1,1,1,0,1,0] [1] ⟨[(2,fP 0),(5,fI a1),(6,.fl (.own .i64 a3 false)),(7,fB a5)],[[dL .Member a7]]⟩
def z65 (s_0 : Int) : Option (List Int) := callC tn 132 [dI s_0] [] o5'
def z36 (a1 : Int) (a3 : List Message) (a5 a7 a9 a11 : Int) : Option (Int) := gp 69 Tryz.f69 0 o1' [1,1,0,1,0] [1] ⟨[(3,fP 0),(5,fI a1),(8,fL .Message a3),(9,fI a5),(10,fI a7)],[[dI a9,dI a11]]⟩
def z2j (a0 a3 : Int) (a5 : List Int) (a7 a9 a11 : Int) (a13 : List Int) (a15 : List Trust) : Option (Bool) := gp 131 Tryz.f131 0 o0' [1,1,1,0,1,0] [1] ⟨[(1,fI a0),(2,fP 0),(5,fI a3),(14,fL .i64 a5),(15,fI a7),(16,fI a9)],[[dI a11,dL .i64 a13,dL .Trust a15]]⟩
def z1t (a0 a3 : Int) (a5 : List Trust) (a7 a9 a11 : Int) (a13 : List Int) (a15 : List Trust) : Option (Bool) := gp 167 Tryz.f167 0 o0' [1,1,1,1,0,1,0] [1] ⟨[(1,fI a0),(2,fP 0),(5,fI a3),(27,fL .Trust a5),(28,fI a7),(29,fI a9)],[[dI a11,dL .i64 a13,dL .Trust a15]]⟩
def z30 (a0 : Int) (a3 : List Int) (a5 a7 : Int) (a9 : List Member) : Option (Int × Bool) := gp 168 Tryz.f168 0 o13' [1,0,1,0] [1] ⟨[(1,fI a0),(2,fP 0),(9,fL .i64 a3),(10,fI a5),(11,fI a7)],[[dL .Member a9]]⟩
def z5m (c_0 : Config) (k_1 s_2 : Int) : Option (Bool) := callC tn 175 [dA .Config c_0,dI k_1,dI s_2] [] o0'
def z31 (a0 : Int) (a2 : List Int) (a4 : Int) : Option (List Int) := gp 174 Tryz.f174 0 o5' [1,1,0,1,0] [0] ⟨[(0,fI a0),(3,.fl (.own .i64 a2 false)),(5,fI a4)],[]⟩
def z0g (a1 a3 a6 a8 : Int) (a10 : List Claim) : Option (List Claim) := gp 156 Tryz.f156 1 o2' [1,0,0,1,0,0,1,0] [1,1,1,1] ⟨[(0,.fl (.ref 0)),(1,fI a1),(2,fI a3),(3,.fl (.fn 116 [])),(8,fI a6),(9,fI a8)],[[.own .Claim a10 false]]⟩
def z0q (a2 a4 a6 : Int) (a8 : List Claim) : Option (List Claim) := gp 157 Tryz.f157 1 o2' [1,1,1,1,1,0] [1] ⟨[(0,.fl (.ref 0)),(3,.fl (.fn 116 [])),(8,fI a2),(9,fI a4),(12,fI a6)],[[.own .Claim a8 false]]⟩
def z0c (a1 a3 a6 : Int) (a8 : List Claim) : Option (List Claim) := gp 169 Tryz.f169 1 o2' [1,0] [1] ⟨[(0,.fl (.ref 0)),(2,fI a1),(3,fI a3),(4,.fl (.fn 116 [])),(10,fI a6)],[[.own .Claim a8 false]]⟩
def z0y (a1 a3 a6 a8 : Int) (a10 : Bool) (a12 : List Claim) : Option (Bool × List Claim) := gp 161 Tryz.f161 1 o8' [1,1,0,1,0,0,1,0,0,0,0] [1,1,1,1] ⟨[(0,.fl (.ref 0)),(1,fI a1),(2,fI a3),(3,.fl (.fn 116 [])),(9,fI a6),(10,fI a8),(16,fB a10)],[[.own .Claim a12 false]]⟩
def z0s (a1 a4 a6 : Int) (a8 : List Claim) : Option (Int × List Claim) := gp 162 Tryz.f162 1 o6' [1,1,1,0,0,0,0,0,0] [1,1,1,1] ⟨[(0,.fl (.ref 0)),(1,fI a1),(4,.fl (.fn 116 [])),(11,fI a4),(12,fI a6)],[[.own .Claim a8 false]]⟩
def z0m (a1 a4 a6 : Int) (a8 : Bool) (a10 : List Claim) : Option (Int × Bool × List Claim) := gp 163 Tryz.f163 1 o4' [1,1,1,1,0,0] [1] ⟨[(0,.fl (.ref 0)),(1,fI a1),(4,.fl (.fn 116 [])),(12,fI a4),(13,fI a6),(47,fB a8)],[[.own .Claim a10 false]]⟩
def z24 (a1 : Int) (a3 : List Int) (a5 : Bool) (a7 : List Int) (a9 a11 : Int) (a13 : List Member) : Option (List Int) := gp 112 Tryz.f112 0 o5' [1,1,1,1,0,1,0,0,1,0,1,1,0] [1,1,1,1] ⟨[(2,fP 0),(5,fI a1),(6,.fl (.own .i64 a3 false)),(7,fB a5),(19,fL .i64 a7),(20,fI a9),(21,fI a11)],[[dL .Member a13]]⟩
def z3n (a0 : Int) (a2 : List Int) (a4 : Int) : Option (List Int) := gp 132 Tryz.f132 0 o5' [1,1,0,1,0] [0] ⟨[(0,fI a0),(3,.fl (.own .i64 a2 false)),(4,fI a4)],[]⟩
def z25 (a0 a3 : Int) (a5 : List Trust) (a7 a9 a11 : Int) (a13 : List Int) (a15 : List Trust) : Option (Bool) := gp 131 Tryz.f131 0 o0' [1,1,1,1,0,1,0] [1] ⟨[(1,fI a0),(2,fP 0),(5,fI a3),(27,fL .Trust a5),(28,fI a7),(29,fI a9)],[[dI a11,dL .i64 a13,dL .Trust a15]]⟩
def z0i (a1 a3 a6 a8 : Int) (a10 : List Claim) : Option (Bool × List Claim) := gp 161 Tryz.f161 1 o8' [1,1,0,1,0,0,1,0,0,0,0] [1,1,1,1] ⟨[(0,.fl (.ref 0)),(1,fI a1),(2,fI a3),(3,.fl (.fn 116 [])),(9,fI a6),(10,fI a8)],[[.own .Claim a10 false]]⟩
def z07 (a1 a3 a6 a8 a10 : Int) (a12 : List Claim) : Option (Bool × List Claim) := gp 161 Tryz.f161 1 o8' [1,1,0,1,0,0,1,0,0,1,1,1,1,0,1,0,1,0] [1,1,1,1] ⟨[(0,.fl (.ref 0)),(1,fI a1),(2,fI a3),(3,.fl (.fn 116 [])),(9,fI a6),(10,fI a8),(11,fI a10)],[[.own .Claim a12 false]]⟩
def z05 (a1 a3 a6 a8 a10 : Int) (a12 : List Claim) : Option (Bool × List Claim) := gp 161 Tryz.f161 1 o8' [1,1,0,1,0,0,1,0,0,1,1,1,1,1,1,0,1,0] [1,1,1,1] ⟨[(0,.fl (.ref 0)),(1,fI a1),(2,fI a3),(3,.fl (.fn 116 [])),(9,fI a6),(10,fI a8),(12,fI a10)],[[.own .Claim a12 false]]⟩
def z0e (a1 a4 a6 : Int) (a8 : Bool) (a10 : List Claim) : Option (Int × List Claim) := gp 162 Tryz.f162 1 o6' [1,1,1,0,0,0,0,1,0,0] [1,1,1,1] ⟨[(0,.fl (.ref 0)),(1,fI a1),(4,.fl (.fn 116 [])),(11,fI a4),(12,fI a6),(47,fB a8)],[[.own .Claim a10 false]]⟩
def z12 (a1 a4 a6 : Int) (a8 : List Claim) : Option (Int × Bool × List Claim) := gp 163 Tryz.f163 1 o4' [1,1,1,1,0,0] [1] ⟨[(0,.fl (.ref 0)),(1,fI a1),(4,.fl (.fn 116 [])),(12,fI a4),(13,fI a6)],[[.own .Claim a8 false]]⟩
def z06 (a1 a4 a6 : Int) (a8 : List Claim) : Option (Int × Bool × List Claim) := gp 163 Tryz.f163 1 o4' [1,1,1,1,1,1,1,1,1,0,0] [1] ⟨[(0,.fl (.ref 0)),(1,fI a1),(4,.fl (.fn 116 [])),(12,fI a4),(13,fI a6)],[[.own .Claim a8 false]]⟩
def z3y (a1 : Int) (a3 : List Int) (a5 : Bool) (a7 : List Int) (a9 a11 : Int) (a13 : Bool) (a15 : List Member) : Option (List Int) := gp 112 Tryz.f112 0 o5' [1,1,1,1,0,1,0] [1] ⟨[(2,fP 0),(5,fI a1),(6,.fl (.own .i64 a3 false)),(7,fB a5),(19,fL .i64 a7),(20,fI a9),(21,fI a11),(22,fB a13)],[[dL .Member a15]]⟩
def z0t (a1 a4 a6 : Int) (a8 : List Claim) : Option (Int × List Claim) := gp 162 Tryz.f162 1 o6' [1,1,1,0,0,0,0,1,0,0] [1,1,1,1] ⟨[(0,.fl (.ref 0)),(1,fI a1),(4,.fl (.fn 116 [])),(11,fI a4),(12,fI a6)],[[.own .Claim a8 false]]⟩
def z13 (a1 a4 a6 : Int) (a8 : List Claim) : Option (Int × Bool × List Claim) := gp 163 Tryz.f163 1 o4' [1,1,1,1,1,1,1,1,1,0,0,0,0,0,0] [1,1,1,1] ⟨[(0,.fl (.ref 0)),(1,fI a1),(4,.fl (.fn 116 [])),(12,fI a4),(13,fI a6)],[[.own .Claim a8 false]]⟩
def z0n (a1 a4 a6 : Int) (a8 : Bool) (a10 : List Claim) : Option (Int × Bool × List Claim) := gp 163 Tryz.f163 1 o4' [1,1,1,1,1,1,1,1,1,0,0,0,0,1,0,0] [1,1,1,1] ⟨[(0,.fl (.ref 0)),(1,fI a1),(4,.fl (.fn 116 [])),(12,fI a4),(13,fI a6),(120,fB a8)],[[.own .Claim a10 false]]⟩
def z14 (a1 a4 a6 : Int) (a8 : List Claim) : Option (Int × Bool × List Claim) := gp 163 Tryz.f163 1 o4' [1,1,1,1,1,1,1,1,1,0,0,0,0,1,0,0] [1,1,1,1] ⟨[(0,.fl (.ref 0)),(1,fI a1),(4,.fl (.fn 116 [])),(12,fI a4),(13,fI a6)],[[.own .Claim a8 false]]⟩
end
end Go.Proofs.YthbpagedblodfaaGreat
