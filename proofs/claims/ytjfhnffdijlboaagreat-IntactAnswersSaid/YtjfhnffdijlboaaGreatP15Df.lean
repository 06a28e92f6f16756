/- What the functions come to: names. -/
import Derived.Test.YtjfhnffdijlboaaGreatP15Env
namespace Go.Proofs.YtjfhnffdijlboaaGreat
open Go Go.Ab
abbrev dA (c : sig.TC) (x : sig.Ty c) : TL sig := .d (.ag (sig.cells c x))
noncomputable abbrev gp (f : Nat) (fn : Func) (k : Nat) (o : OSpec sig) (p ms : List Nat) (st : TSt sig) : Option o.Out := goC tn ⟨f, fn, k⟩ o (q0a fn p) (y6f fn p ms) st
abbrev fI (n : Int) : TV sig := .fl (.d (.lf (.i .i64 n)))
abbrev fB (n : Bool) : TV sig := .fl (.d (.lf (.b n)))
abbrev fL (c : sig.TC) (l : List (sig.Ty c)) : TV sig := .fl (.d (.lf (.l c l)))
abbrev fP (n : Nat) : TV sig := .fl (.ptr n 0)
abbrev dI (n : Int) : TL sig := .d (.lf (.i .i64 n))
abbrev dL (c : sig.TC) (l : List (sig.Ty c)) : TL sig := .d (.lf (.l c l))
noncomputable section
def law15_IntactAnswers (t_0 : List Int) (raw_1 other_2 : Config) (ill_3 v_4 : Int) (x_5 : Explanation) : Option (Bool) := callC tn 8 [.d (.lf (.l (c := .i64) t_0)),dA .Config raw_1,dA .Config other_2,dI ill_3,dI v_4,dA .Explanation x_5] [] o1'
def z4p (c_0 : Config) : Option (Bool) := callC tn 28 [dA .Config c_0] [] o1'
def law15_awake  : Option (Bool) := callC tn 17 [] [] o1'
def z7p (l_0 : List Int) : Option (Unit × List Int × Int) := callC tn 9 [.d (.lf (.l (c := .i64) l_0))] [] o26'
def z7m (n_1 : Int) (h0 : List Int) (h1 : Int) : Option (Config × Config × List Int × Int) := callC tn 10 [.ptr 0 0,dI n_1] [[.d (.lf (.l (c := .i64) h0)),dI h1]] o20'
def z56 (c_1 : Config) (h0 : List Int) (h1 : Int) : Option (Config × List Int × Int) := callC tn 29 [.ptr 0 0,dA .Config c_1] [[.d (.lf (.l (c := .i64) h0)),dI h1]] o12'
def z7q (c_1 : Config) (h0 : List Int) (h1 : Int) : Option (Int × List Int × Int) := callC tn 11 [.ptr 0 0,dA .Config c_1] [[.d (.lf (.l (c := .i64) h0)),dI h1]] o13'
def z5h (low_0 high_1 : Config) (ill_2 : Int) : Option (Int × Int) := callC tn 12 [dA .Config low_0,dA .Config high_1,dI ill_2] [] o5'
def z5i (s_0 : Int) : Option (List Int) := callC tn 19 [dI s_0] [] o2'
def z10 (n_1 : Int) (h0 : List Int) (h1 : Int) : Option (Int × List Int × Int) := callC tn 20 [.ptr 0 0,dI n_1] [[.d (.lf (.l (c := .i64) h0)),dI h1]] o13'
def z67 (c_0 : Config) (s_1 : Int) : Option (Int) := callC tn 22 [dA .Config c_0,dI s_1] [] o0'
def z41 (low_0 high_1 : Config) (ill_2 : Int) : Option (Int × Int) := callC tn 13 [dA .Config low_0,dA .Config high_1,dI ill_2] [] o5'
def z1q (c_0 : Config) (s_1 : Int) : Option (Bool) := callC tn 14 [dA .Config c_0,dI s_1] [] o1'
def z7j (low_0 high_1 : Config) (ill_2 : Int) : Option (List Int × Int) := callC tn 15 [dA .Config low_0,dA .Config high_1,dI ill_2] [] o16'
def z3n (low_0 : Config) (b_1 : Int) : Option (Bool × Int) := callC tn 16 [dA .Config low_0,dI b_1] [] o7'
def law15_four  : Option (Config) := callC tn 53 [] [] o9'
def z7k (n_1 : Int) (h0 : List Int) (h1 : Int) : Option (Config × List Int × Int) := callC tn 36 [.ptr 0 0,dI n_1] [[.d (.lf (.l (c := .i64) h0)),dI h1]] o12'
def z18 (l_1 h0 : List Int) (h1 : Int) : Option (Int × List Int × Int) := callC tn 35 [.ptr 0 0,.d (.lf (.l (c := .i64) l_1))] [[.d (.lf (.l (c := .i64) h0)),dI h1]] o13'
def z42 (x_1 : Trust) (h0 : List Int) (h1 : Int) : Option (Trust × List Int × Int) := callC tn 73 [.ptr 0 0,dA .Trust x_1] [[.d (.lf (.l (c := .i64) h0)),dI h1]] o4'
def z6s (low_0 high_1 : Config) (ill_2 : Int) : Option (Int × Bool × Int) := callC tn 41 [dA .Config low_0,dA .Config high_1,dI ill_2] [] o10'
def z1t (s_0 : Int) : Option (Bool) := callC tn 43 [dI s_0] [] o1'
def z28 (c_0 : Config) : Option (Int) := callC tn 40 [dA .Config c_0] [] o0'
def z5c (c_0 : Config) (s_1 : Int) : Option (List Int) := callC tn 54 [dA .Config c_0,dI s_1] [] o2'
def z29 (c_0 : Config) : Option (Int) := callC tn 42 [dA .Config c_0] [] o0'
def z5j (low_0 high_1 : Config) (b_2 : Int) : Option (Int) := callC tn 45 [dA .Config low_0,dA .Config high_1,dI b_2] [] o0'
def z3g (c_0 : Config) : Option (Int) := callC tn 47 [dA .Config c_0] [] o0'
def z57 (s_0 : Int) : Option (List Int) := callC tn 46 [dI s_0] [] o2'
def z3e (c_0 : Config) : Option (Int) := callC tn 49 [dA .Config c_0] [] o0'
def z6t (c_0 : Config) (b_1 : Int) : Option (Int) := callC tn 50 [dA .Config c_0,dI b_1] [] o0'
def z43 (c_0 : Config) (s_1 : Int) : Option (Config) := callC tn 52 [dA .Config c_0,dI s_1] [] o9'
def z74 (c_0 : Config) : Option (Bool × Int) := callC tn 51 [dA .Config c_0] [] o7'
def z1a (a_1 b_2 : Int) (h0 : List Int) (h1 : Int) : Option (Int × List Int × Int) := callC tn 77 [.ptr 0 0,dI a_1,dI b_2] [[.d (.lf (.l (c := .i64) h0)),dI h1]] o13'
def z64 (low_0 high_1 : Config) (ill_2 : Int) : Option (List Int × Int) := callC tn 82 [dA .Config low_0,dA .Config high_1,dI ill_2] [] o16'
def z23 (low_0 : Config) (b_1 : Int) : Option (Bool × Int) := callC tn 67 [dA .Config low_0,dI b_1] [] o7'
def z6m (low_0 high_1 : Config) : Option (Int) := callC tn 83 [dA .Config low_0,dA .Config high_1] [] o0'
def z6n (c_0 : Config) : Option (Int × Int) := callC tn 89 [dA .Config c_0] [] o5'
def z2x (low_0 high_1 : Config) (b_2 : Int) : Option (Int) := callC tn 99 [dA .Config low_0,dA .Config high_1,dI b_2] [] o0'
def z1h (c_0 : Config) : Option (Int) := callC tn 100 [dA .Config c_0] [] o0'
def z52 (s_0 : Int) : Option (List Int) := callC tn 98 [dI s_0] [] o2'
def z36 (c_0 : Config) (b_1 : Int) : Option (Int) := callC tn 104 [dA .Config c_0,dI b_1] [] o0'
def z2s (c_0 : Config) (s_1 : Int) : Option (Config) := callC tn 59 [dA .Config c_0,dI s_1] [] o9'
def z50 (c_0 : Config) : Option (Bool × Int) := callC tn 105 [dA .Config c_0] [] o7'
def z4j (c_0 : Config) : Option (Int) := callC tn 116 [dA .Config c_0] [] o0'
def z4f (low_0 high_1 : Config) : Option (Int) := callC tn 66 [dA .Config low_0,dA .Config high_1] [] o0'
def z1s (c_0 : Config) : Option (Int) := callC tn 94 [dA .Config c_0] [] o0'
def z4g (c_0 : Config) : Option (Int × Int) := callC tn 95 [dA .Config c_0] [] o5'
def z1c (c_0 : Config) : Option (Int) := callC tn 92 [dA .Config c_0] [] o0'
def z17 (a0 a2 : Int) (a7 : List Arr2_Config) (a9 a11 : Int) (a13 a15 : List Member) (a17 a19 a21 a23 : Int) (a25 : List Refutation) (a27 : List Int) (a29 : Int) (a31 a33 : List Member) : Option (Bool) := gp 8 Tryz.f8 0 o1' [1,1,1,1,0,1,0] [6] ⟨[(3,fI a0),(4,fI a2),(11,fP 2),(13,fP 3),(14,fP 4),(83,fL .Arr2_Config a7),(84,fI a9),(85,fI a11)],[[dL .Member a13],[dL .Member a15],[dI a17,dI a19,dI a21,dI a23,dL .Refutation a25],[dL .i64 a27,dI a29],[dL .Member a31],[dL .Member a33]]⟩
def z68 (c_0 : Config) (v_1 s_2 : Int) : Option (Bool) := callC tn 21 [dA .Config c_0,dI v_1,dI s_2] [] o1'
def z2y (s_0 node_1 : Int) : Option (Bool) := callC tn 24 [dI s_0,dI node_1] [] o1'
def z1w (t_0 : Trust) (s_1 : Int) : Option (Bool) := callC tn 44 [dA .Trust t_0,dI s_1] [] o1'
def z5m (low_0 high_1 : Config) (ill_2 v_3 : Int) : Option (Explanation × Int) := callC tn 25 [dA .Config low_0,dA .Config high_1,dI ill_2,dI v_3] [] o17'
def z75 (low_0 high_1 : Config) (ill_2 v_3 : Int) (x_4 : Explanation) : Option (Bool) := callC tn 26 [dA .Config low_0,dA .Config high_1,dI ill_2,dI v_3,dA .Explanation x_4] [] o1'
def z6u (low_0 high_1 : Config) (ill_2 v_3 : Int) (x_4 : Explanation) : Option (Bool) := callC tn 27 [dA .Config low_0,dA .Config high_1,dI ill_2,dI v_3,dA .Explanation x_4] [] o1'
def z24 (s_0 node_1 : Int) : Option (Bool) := callC tn 57 [dI s_0,dI node_1] [] o1'
def z2w (c_0 : Config) : Option (Int × Int × Int) := callC tn 58 [dA .Config c_0] [] o23'
def z5n (c_0 : Config) (ill_1 v_2 : Int) : Option (List Int) := callC tn 60 [dA .Config c_0,dI ill_1,dI v_2] [] o2'
def z6o (low_0 high_1 : Config) (ill_2 : Int) : Option (Int) := callC tn 62 [dA .Config low_0,dA .Config high_1,dI ill_2] [] o0'
def z69 (low_0 high_1 : Config) (b_2 : Int) : Option (Bool × Int) := callC tn 68 [dA .Config low_0,dA .Config high_1,dI b_2] [] o7'
def z5k (x_0 : Explanation) (set_1 quorums_2 refutations_3 : Bool) : Option (Bool) := callC tn 69 [dA .Explanation x_0,.d (.lf (.b set_1)),.d (.lf (.b quorums_2)),.d (.lf (.b refutations_3))] [] o1'
def z1u (c_0 : Config) (s_1 : Int) : Option (Bool) := callC tn 70 [dA .Config c_0,dI s_1] [] o1'
def z6a (low_0 high_1 : Config) (ill_2 v_3 : Int) (l_4 : List Refutation) : Option (Bool) := callC tn 71 [dA .Config low_0,dA .Config high_1,dI ill_2,dI v_3,.d (.lf (.l (c := .Refutation) l_4))] [] o1'
def z1j (s_0 : Int) : Option (Bool) := callC tn 91 [dI s_0] [] o1'
def z3h (c_0 : Config) : Option (Int) := callC tn 74 [dA .Config c_0] [] o0'
def z5o (low_0 high_1 : Config) (b_2 : Int) : Option (Bool) := callC tn 106 [dA .Config low_0,dA .Config high_1,dI b_2] [] o1'
def z6b (c_0 : Config) (s_1 : Int) : Option (Bool) := callC tn 107 [dA .Config c_0,dI s_1] [] o1'
def z3c (c_0 : Config) (s_1 : Int) : Option (Int × Bool) := callC tn 108 [dA .Config c_0,dI s_1] [] o18'
def z2l (s_0 n_1 : Int) : Option (Bool) := callC tn 118 [dI s_0,dI n_1] [] o1'
def z3u (high_0 : Config) (b_1 : Int) : Option (Bool × Int) := callC tn 129 [dA .Config high_0,dI b_1] [] o7'
def z58 (s_0 : Int) : Option (List Int) := callC tn 55 [dI s_0] [] o2'
def z5p (low_0 high_1 : Config) (ill_2 s_3 : Int) : Option (Int × Bool × Int) := callC tn 23 [dA .Config low_0,dA .Config high_1,dI ill_2,dI s_3] [] o10'
def z2n (a1 a3 : Int) (a5 : List Member) : Option (Bool) := gp 28 Tryz.f28 0 o1' [1,1,1,0,1,0] [1] ⟨[(1,fP 0),(3,fI a1),(4,fI a3)],[[dL .Member a5]]⟩
def z6y (x_0 : Trust) (n_1 : Int) : Option (Int) := callC tn 72 [dA .Trust x_0,dI n_1] [] o0'
def z3i (a4 : List (List Trust)) (a6 : List Member) (a8 a10 : Int) (a12 : List Int) (a14 : Int) (a16 a18 a20 : List Member) : Option (Config × Config × List Int × Int) := gp 10 Tryz.f10 1 o20' [1,1,1,1,0,1,0] [4] ⟨[(0,fP 0),(4,fP 1),(5,fP 2),(6,fP 3),(7,.fl (.own .l_Trust a4 false)),(25,fL .Member a6),(26,fI a8),(27,fI a10)],[[dL .i64 a12,dI a14],[.own .Member a16 false],[.own .Member a18 false],[dL .Member a20]]⟩
def z7l (l_0 : List (List Trust)) : Option (Config × Int) := callC tn 38 [.d (.lf (.l (c := .l_Trust) l_0))] [] o14'
def z7b (l_0 : List (List Trust)) : Option (Config × Int) := callC tn 39 [.d (.lf (.l (c := .l_Trust) l_0))] [] o14'
def z6c (l_0 : List (List Trust)) (all_1 : Bool) : Option (Config × Int) := callC tn 81 [.d (.lf (.l (c := .l_Trust) l_0)),.d (.lf (.b all_1))] [] o14'
def z3o (a2 : Bool) (a4 : List Int) (a6 : Int) (a8 a10 a12 : List Member) : Option (Config × List Int × Int) := gp 29 Tryz.f29 1 o12' [1,1,1,1,0,1,0,1,1,1,1,1,1,1,1,0] [4,4] ⟨[(4,fP 2),(5,fP 3),(72,fB a2)],[[dL .i64 a4,dI a6],[dL .Member a8],[.own .Member a10 false],[.own .Member a12 false]]⟩
def z6h (a2 a4 a6 : Int) (a8 : List Int) (a10 : Int) (a12 : List Member) : Option (Int × List Int × Int) := gp 11 Tryz.f11 1 o13' [1,1,1,0,1,0] [2] ⟨[(0,fP 0),(3,fP 1),(5,fI a2),(6,fI a4),(7,fI a6)],[[dL .i64 a8,dI a10],[dL .Member a12]]⟩
def z3v (a0 : Int) (a2 : List Int) (a4 : Int) : Option (List Int) := gp 19 Tryz.f19 0 o2' [1,1,0,1,0] [0] ⟨[(0,fI a0),(3,.fl (.own .i64 a2 false)),(4,fI a4)],[]⟩
def z4h (a0 : Int) (a2 : List Int) (a4 a6 : Int) (a8 : List Member) : Option (Int) := gp 22 Tryz.f22 0 o0' [1,1,1,0,1,0] [1] ⟨[(5,fI a0),(17,fL .i64 a2),(18,fI a4),(19,fI a6)],[[dL .Member a8]]⟩
def z2t (a0 : Int) (a3 : List Int) (a5 a7 : Int) (a9 : List Member) : Option (Bool) := gp 14 Tryz.f14 0 o1' [1,1,0,1,0] [1] ⟨[(1,fI a0),(2,fP 0),(23,fL .i64 a3),(24,fI a5),(25,fI a7)],[[dL .Member a9]]⟩
def z44 (a0 : Int) (a4 a6 : List Int) (a8 a10 : Int) (a12 a14 : List Member) : Option (List Int × Int) := gp 15 Tryz.f15 0 o16' [1,1,1,0,1,0] [2] ⟨[(2,fI a0),(3,fP 0),(4,fP 1),(9,.fl (.own .i64 a4 false)),(21,fL .i64 a6),(22,fI a8),(23,fI a10)],[[dL .Member a12],[dL .Member a14]]⟩
def z7f (low_0 high_1 : Config) (b_2 : Int) : Option (Bool) := callC tn 48 [dA .Config low_0,dA .Config high_1,dI b_2] [] o1'
def z65 (high_0 : Config) (b_1 : Int) : Option (Bool × Int) := callC tn 85 [dA .Config high_0,dI b_1] [] o7'
def z3j (a2 : Int) (a4 a6 : List Member) : Option (Config) := gp 53 Tryz.f53 0 o9' [1,1,0,1,0] [2] ⟨[(0,fP 0),(1,fP 1),(2,fI a2)],[[.own .Member a4 false],[.own .Member a6 false]]⟩
def z1f (a2 a4 a7 : Int) (a9 : List Int) (a11 : Int) (a13 a15 : List Member) : Option (Config × List Int × Int) := gp 36 Tryz.f36 1 o12' [1,1,1,1,0,1,0] [3] ⟨[(0,fP 0),(4,fP 1),(5,fI a2),(6,fI a4),(7,fP 2),(8,fI a7)],[[dL .i64 a9,dI a11],[.own .Member a13 false],[.own .Member a15 false]]⟩
def z79 (n_1 deep_2 : Int) (h0 : List Int) (h1 : Int) : Option (Trust × List Int × Int) := callC tn 78 [.ptr 0 0,dI n_1,dI deep_2] [[.d (.lf (.l (c := .i64) h0)),dI h1]] o4'
def z7r (m_1 : Int) (h0 : List Int) (h1 : Int) : Option (Trust × List Int × Int) := callC tn 79 [.ptr 0 0,dI m_1] [[.d (.lf (.l (c := .i64) h0)),dI h1]] o4'
def z7n (m_1 k_2 : Int) (h0 : List Int) (h1 : Int) : Option (Trust × List Int × Int) := callC tn 80 [.ptr 0 0,dI m_1,dI k_2] [[.d (.lf (.l (c := .i64) h0)),dI h1]] o4'
def z6v (n_1 deep_2 : Int) (h0 : List Int) (h1 : Int) : Option (Trust × List Int × Int) := callC tn 110 [.ptr 0 0,dI n_1,dI deep_2] [[.d (.lf (.l (c := .i64) h0)),dI h1]] o4'
def z3f (t_0 : Trust) : Option (Int) := callC tn 87 [dA .Trust t_0] [] o0'
def z6k (n_1 : Int) (h0 : List Int) (h1 : Int) : Option (List Int × List Int × Int) := callC tn 131 [.ptr 0 0,dI n_1] [[.d (.lf (.l (c := .i64) h0)),dI h1]] o21'
def z6p (t_0 : Trust) : Option (Int) := callC tn 113 [dA .Trust t_0] [] o0'
def z6z (t_0 : Trust) : Option (Int) := callC tn 114 [dA .Trust t_0] [] o0'
def z40 (t_0 : Trust) : Option (Int) := callC tn 115 [dA .Trust t_0] [] o0'
def z3d (a2 : Int) (a4 : List Int) (a6 a8 : Int) (a10 : List Int) (a12 : List Trust) (a14 : Int) (a16 : List Int) (a18 : List Trust) (a20 : Int) (a22 : List Int) (a24 : List Trust) : Option (Trust × List Int × Int) := gp 73 Tryz.f73 1 o4' [1,1,0,1,0,1,1,1,1,1,1,1,1,1,0,1,0,1,0] [3,4] ⟨[(4,fP 2),(6,fP 3),(7,fI a2)],[[dL .i64 a4,dI a6],[dI a8,dL .i64 a10,dL .Trust a12],[dI a14,.own .i64 a16 false,.own .Trust a18 false],[dI a20,dL .i64 a22,dL .Trust a24]]⟩
def z2u (a2 : List Trust) (a4 : Int) (a6 : List Int) (a8 a10 : Int) (a12 : List Int) (a14 : List Trust) (a16 : Int) (a18 : List Int) (a20 : List Trust) : Option (Trust × List Int × Int) := gp 73 Tryz.f73 1 o4' [1,1,0,1,0,1,1,1,1,1,1,1,1,1,1,1,0,1,0] [3,3] ⟨[(3,fP 1),(4,fP 2),(8,.fl (.own .Trust a2 false)),(9,fI a4)],[[dL .i64 a6,dI a8],[dI a10,dL .i64 a12,dL .Trust a14],[dI a16,.own .i64 a18 false,.own .Trust a20 false]]⟩
def z5w (a1 : Int) (a3 : List Int) (a5 a7 : Int) (a9 a11 : List Member) : Option (Int × Bool × Int) := gp 41 Tryz.f41 0 o10' [1,1,1,1,1,1,0,1,0] [2] ⟨[(3,fP 0),(13,fI a1),(36,fL .i64 a3),(37,fI a5),(38,fI a7)],[[dL .Member a9],[dL .Member a11]]⟩
def z26 (a0 : Int) (a2 : List Member) (a4 a6 : Int) (a8 : List Member) : Option (Int) := gp 40 Tryz.f40 0 o0' [1,1,0,1,0] [1] ⟨[(3,fI a0),(7,fL .Member a2),(8,fI a4),(9,fI a6)],[[dL .Member a8]]⟩
def z2f (a1 : Int) (a3 : List Int) (a5 : Bool) (a7 : List Member) : Option (List Int) := gp 54 Tryz.f54 0 o2' [1,1,1,1,0,1,0] [1] ⟨[(2,fP 0),(5,fI a1),(6,.fl (.own .i64 a3 false)),(7,fB a5)],[[dL .Member a7]]⟩
def z2z (a0 : Int) (a2 : List Int) (a4 : Int) : Option (List Int) := gp 46 Tryz.f46 0 o2' [1,1,0,1,0] [0] ⟨[(0,fI a0),(3,.fl (.own .i64 a2 false)),(4,fI a4)],[]⟩
def z70 (s_0 : Int) : Option (Int) := callC tn 84 [dI s_0] [] o0'
def z3w (a1 : List Member) (a3 a5 : Int) (a7 : List Member) : Option (Int) := gp 49 Tryz.f49 0 o0' [1,1,0,1,0] [1] ⟨[(1,fP 0),(11,fL .Member a1),(12,fI a3),(13,fI a5)],[[dL .Member a7]]⟩
def z5g (a_0 b_1 : Trust) : Option (Bool) := callC tn 86 [dA .Trust a_0,dA .Trust b_1] [] o1'
def z71 (t_0 : Trust) : Option (Int) := callC tn 88 [dA .Trust t_0] [] o0'
def z72 (a_0 b_1 : List Int) : Option (Bool) := callC tn 112 [.d (.lf (.l (c := .i64) a_0)),.d (.lf (.l (c := .i64) b_1))] [] o1'
def z2b (a0 : Int) (a4 : List Member) (a6 a8 : Int) (a10 a12 a14 : List Member) : Option (Config) := gp 52 Tryz.f52 0 o9' [1,1,1,0,1,0] [3] ⟨[(1,fI a0),(4,fP 1),(5,fP 2),(13,fL .Member a4),(14,fI a6),(15,fI a8)],[[dL .Member a10],[.own .Member a12 false],[.own .Member a14 false]]⟩
def z76 (t_0 : Trust) (node_1 s_2 : Int) : Option (Trust) := callC tn 90 [dA .Trust t_0,dI node_1,dI s_2] [] o6'
def z73 (t_0 : Trust) (s_1 : Int) : Option (Trust) := callC tn 117 [dA .Trust t_0,dI s_1] [] o6'
def z1x (a0 : Int) (a4 a6 : List Int) (a8 a10 : Int) (a12 a14 : List Member) : Option (List Int × Int) := gp 82 Tryz.f82 0 o16' [1,1,1,0,1,0] [2] ⟨[(2,fI a0),(3,fP 0),(4,fP 1),(9,.fl (.own .i64 a4 false)),(21,fL .i64 a6),(22,fI a8),(23,fI a10)],[[dL .Member a12],[dL .Member a14]]⟩
def z35 (a2 a4 : Int) (a6 a8 : List Member) : Option (Int) := gp 83 Tryz.f83 0 o0' [1,1,1,1,1,0,1,0] [2] ⟨[(2,fP 0),(3,fP 1),(39,fI a2),(40,fI a4)],[[dL .Member a6],[dL .Member a8]]⟩
def z3x (a1 : List Int) (a3 a5 : Int) (a7 : List Member) : Option (Int × Int) := gp 89 Tryz.f89 0 o5' [1,0,1,0] [1] ⟨[(1,fP 0),(9,fL .i64 a1),(10,fI a3),(11,fI a5)],[[dL .Member a7]]⟩
def z2d (a0 : Int) (a2 : List Int) (a4 : Int) : Option (List Int) := gp 98 Tryz.f98 0 o2' [1,1,0,1,0] [0] ⟨[(0,fI a0),(3,.fl (.own .i64 a2 false)),(4,fI a4)],[]⟩
def z0j (h0 : List Int) : Option (List Int) := callC tn 124 [.ref 0,.fn 125 []] [[.own .i64 h0 false]] o3'
def z7g (x_0 : Int) : Option (Int) := callC tn 142 [.d (.lf (.i .u64 x_0))] [] o0'
def z01 (a_1 b_2 limit_3 : Int) (h0 : List Int) : Option (List Int) := callC tn 141 [.ref 0,dI a_1,dI b_2,dI limit_3,.fn 125 []] [[.own .i64 h0 false]] o3'
def z7c (x_0 : Int) : Option (Int) := callC tn 162 [.d (.lf (.i .u64 x_0))] [] o0'
def z1k (a0 : Int) (a4 : List Member) (a6 a8 : Int) (a10 a12 a14 : List Member) : Option (Config) := gp 59 Tryz.f59 0 o9' [1,1,0,1,0] [3] ⟨[(1,fI a0),(4,fP 1),(5,fP 2),(9,fL .Member a4),(10,fI a6),(11,fI a8)],[[dL .Member a10],[.own .Member a12 false],[.own .Member a14 false]]⟩
def z6d (t_0 : Trust) (node_1 s_2 : Int) : Option (Trust) := callC tn 96 [dA .Trust t_0,dI node_1,dI s_2] [] o6'
def z45 (t_0 : Trust) : Option (Trust) := callC tn 97 [dA .Trust t_0] [] o6'
def z5q (t_0 : Trust) (s_1 : Int) : Option (Trust) := callC tn 123 [dA .Trust t_0,dI s_1] [] o6'
def z1y (a1 : List Member) (a3 a5 : Int) (a7 a9 : List Member) : Option (Int) := gp 66 Tryz.f66 0 o0' [1,1,1,1,1,0,1,0] [2] ⟨[(2,fP 0),(41,fL .Member a1),(42,fI a3),(43,fI a5)],[[dL .Member a7],[dL .Member a9]]⟩
def z6e (a_0 b_1 : Trust) : Option (Bool × Int × Int) := callC tn 103 [dA .Trust a_0,dA .Trust b_1] [] o27'
def z6w (a_0 b_1 : Trust) : Option (Int) := callC tn 126 [dA .Trust a_0,dA .Trust b_1] [] o0'
def z66 (h0 : Int) (h1 : List Int) (h2 : List Trust) (h3 : Int) (h4 : List Int) (h5 : List Trust) : Option (Int × Bool × Int × List Int × List Trust × Int × List Int × List Trust) := callC tn 127 [.fn 128 [(0,0),(1,0)]] [[dI h0,.d (.lf (.l (c := .i64) h1)),.d (.lf (.l (c := .Trust) h2))],[dI h3,.d (.lf (.l (c := .i64) h4)),.d (.lf (.l (c := .Trust) h5))]] ⟨[.lf (.i .i64),.lf .b],[[.lf (.i .i64),.lf (.l .i64),.lf (.l .Trust)],[.lf (.i .i64),.lf (.l .i64),.lf (.l .Trust)]]⟩
def z46 (t_0 : Trust) : Option (Int) := callC tn 136 [dA .Trust t_0] [] o0'
def z6i (s_0 h0 : Int) (h1 : List Int) (h2 : List Trust) (h3 : Int) (h4 : List Int) (h5 : List Trust) : Option (Bool × Int × List Int × List Trust × Int × List Int × List Trust) := callC tn 128 [dI s_0,.ptr 0 0,.ptr 1 0] [[dI h0,.d (.lf (.l (c := .i64) h1)),.d (.lf (.l (c := .Trust) h2))],[dI h3,.d (.lf (.l (c := .i64) h4)),.d (.lf (.l (c := .Trust) h5))]] o28'
def z53 (t_0 : Trust) : Option (Int) := callC tn 148 [dA .Trust t_0] [] o0'
def z5r (t_0 : Trust) : Option (Int) := callC tn 149 [dA .Trust t_0] [] o0'
def z54 (t_0 : Trust) : Option (Int) := callC tn 150 [dA .Trust t_0] [] o0'
def z1i (t_0 : Trust) (s_1 : Int) : Option (Bool) := callC tn 93 [dA .Trust t_0,dI s_1] [] o1'
def z14 (s_0 : List Int) : Option (Bool) := callC tn 164 [.d (.lf (.l (c := .i64) s_0)),.fn 165 []] [] o1'
def z7d (nodes_0 : List Int) : Option (Int × Int) := callC tn 166 [.d (.lf (.l (c := .i64) nodes_0))] [] o5'
def z1b (s_0 : List Int) : Option (Int) := callC tn 174 [.d (.lf (.l (c := .i64) s_0)),.fn 165 []] [] o0'
def z25 (a1 : List Member) (a3 a5 : Int) (a7 : List Member) : Option (Int) := gp 94 Tryz.f94 0 o0' [1,1,0,1,0] [1] ⟨[(1,fP 0),(11,fL .Member a1),(12,fI a3),(13,fI a5)],[[dL .Member a7]]⟩
def z47 (m_0 : Member) (members_1 : Int) : Option (Int) := callC tn 119 [dA .Member m_0,dI members_1] [] o0'
def z4o (t_0 : Trust) : Option (Bool) := callC tn 135 [dA .Trust t_0] [] o1'
def z5s (t_0 : Trust) : Option (Int) := callC tn 137 [dA .Trust t_0] [] o0'
def z1d (a1 a3 : Int) (a5 : Bool) (a7 : List Member) : Option (Int × Int) := gp 95 Tryz.f95 0 o5' [1,1,0,1,0] [1] ⟨[(1,fP 0),(4,fI a1),(5,fI a3),(6,fB a5)],[[dL .Member a7]]⟩
def z5x (s_0 n_1 : Int) : Option (Int × Bool) := callC tn 120 [dI s_0,dI n_1] [] o18'
def z2g (c_0 : Config) : Option (Int) := callC tn 122 [dA .Config c_0] [] o0'
def z5y (c_0 : Config) (s_1 : Int) : Option (Int) := callC tn 121 [dA .Config c_0,dI s_1] [] o0'
def z5z (s_0 : Int) : Option (Int) := callC tn 138 [dI s_0] [] o0'
def z5d (c_0 : Config) (s_1 : Int) : Option (Int × List Int) := callC tn 139 [dA .Config c_0,dI s_1] [] o24'
def z6f (x_0 : Int) : Option (Int) := callC tn 152 [.d (.lf (.i .u64 x_0))] [] o0'
def z60 (x_0 : Int) : Option (Int) := callC tn 168 [.d (.lf (.i .u64 x_0))] [] o0'
def z19 (a0 : Int) (a2 : List Member) (a4 a6 : Int) (a8 : List Member) : Option (Int) := gp 92 Tryz.f92 0 o0' [1,1,0,1,0] [1] ⟨[(3,fI a0),(7,fL .Member a2),(8,fI a4),(9,fI a6)],[[dL .Member a8]]⟩
def z1l (a0 a2 a8 a10 : Int) (a12 : List Arr2_Config) (a14 a16 : Int) (a18 : List Int) (a20 a22 : Int) (a24 a26 : List Member) (a28 a30 a32 a34 : Int) (a36 : List Refutation) (a38 : List Int) (a40 : Int) (a42 a44 a46 a48 : List Member) : Option (Bool) := gp 8 Tryz.f8 0 o1' [1,1,1,1,0,1,0,0,1,1,0,0,1,1,1,0,1,0] [6,6,6,7] ⟨[(3,fI a0),(4,fI a2),(11,fP 2),(13,fP 3),(14,fP 4),(17,fP 6),(18,fI a8),(19,fI a10),(83,fL .Arr2_Config a12),(84,fI a14),(85,fI a16),(108,fL .i64 a18),(109,fI a20),(110,fI a22)],[[dL .Member a24],[dL .Member a26],[dI a28,dI a30,dI a32,dI a34,dL .Refutation a36],[dL .i64 a38,dI a40],[dL .Member a42],[dL .Member a44],[dL .Member a46,dL .Member a48]]⟩
def z7h (low_0 high_1 : Config) (ill_2 : Int) : Option (Int × Int) := callC tn 30 [dA .Config low_0,dA .Config high_1,dI ill_2] [] o5'
def z4q (low_0 high_1 : Config) (ill_2 : Int) : Option (Int × Int) := callC tn 31 [dA .Config low_0,dA .Config high_1,dI ill_2] [] o5'
def z6l (low_0 high_1 : Config) (ill_2 s_3 : Int) : Option (Int × Bool × Int) := callC tn 32 [dA .Config low_0,dA .Config high_1,dI ill_2,dI s_3] [] o10'
def z61 (low_0 high_1 : Config) (ill_2 v_3 : Int) : Option (Explanation × Int) := callC tn 33 [dA .Config low_0,dA .Config high_1,dI ill_2,dI v_3] [] o17'
def z7e (a_0 b_1 : Explanation) : Option (Bool) := callC tn 34 [dA .Explanation a_0,dA .Explanation b_1] [] o1'
def z5t (c_0 : Config) : Option (Int × Int × Int) := callC tn 75 [dA .Config c_0] [] o23'
def z62 (low_0 : Config) (ill_1 v_2 : Int) : Option (List Int) := callC tn 64 [dA .Config low_0,dI ill_1,dI v_2] [] o2'
def z2e (a0 a3 : Int) (a5 : List Int) (a7 a9 a11 : Int) (a13 : List Int) (a15 : List Trust) : Option (Bool) := gp 44 Tryz.f44 0 o1' [1,1,1,0,1,0] [1] ⟨[(1,fI a0),(2,fP 0),(5,fI a3),(14,fL .i64 a5),(15,fI a7),(16,fI a9)],[[dI a11,dL .i64 a13,dL .Trust a15]]⟩
def z37 (a4 : List Int) (a6 a8 : Int) (a10 a12 : List Member) (a14 a16 a18 a20 : Int) (a22 : List Refutation) (a24 a26 a28 a30 : Int) (a32 : List Refutation) : Option (Explanation × Int) := gp 25 Tryz.f25 0 o17' [1,1,1,1,1,1,0,1,0] [4] ⟨[(4,fP 0),(5,fP 1),(8,fP 2),(16,fP 3),(75,fL .i64 a4),(76,fI a6),(77,fI a8)],[[dL .Member a10],[dL .Member a12],[dI a14,dI a16,dI a18,dI a20,.own .Refutation a22 false],[dI a24,dI a26,dI a28,dI a30,.own .Refutation a32 false]]⟩
def z51 (low_0 high_1 : Config) (b_2 : Int) : Option (Refutation × Int) := callC tn 61 [dA .Config low_0,dA .Config high_1,dI b_2] [] o19'
def z1v (a0 a2 : Int) (a7 : Bool) (a9 a11 : List Member) (a13 a15 a17 a19 : Int) (a21 : List Refutation) : Option (Bool) := gp 26 Tryz.f26 0 o1' [1,1,1] [] ⟨[(2,fI a0),(3,fI a2),(5,fP 0),(6,fP 1),(9,fP 2),(68,fB a7)],[[dL .Member a9],[dL .Member a11],[dI a13,dI a15,dI a17,dI a19,dL .Refutation a21]]⟩
def z7o (low_0 high_1 : Config) (b_2 : Int) : Option (Bool × Int) := callC tn 63 [dA .Config low_0,dA .Config high_1,dI b_2] [] o7'
def z2o (a0 : Int) (a2 a4 : List Int) (a6 a8 : Int) (a10 : List Member) : Option (List Int) := gp 60 Tryz.f60 0 o2' [1,1,0,1,0] [1] ⟨[(1,fI a0),(7,.fl (.own .i64 a2 false)),(15,fL .i64 a4),(16,fI a6),(17,fI a8)],[[dL .Member a10]]⟩
def z38 (a0 : List Refutation) (a4 : List Int) (a6 a8 : Int) (a10 a12 : List Member) : Option (Bool) := gp 71 Tryz.f71 0 o1' [1,1,1,0,1,0] [2] ⟨[(4,fL .Refutation a0),(5,fP 0),(6,fP 1),(23,fL .i64 a4),(24,fI a6),(25,fI a8)],[[dL .Member a10],[dL .Member a12]]⟩
def z5e (low_0 high_1 : Config) (b_2 : Int) (x_3 : Refutation) : Option (Bool) := callC tn 109 [dA .Config low_0,dA .Config high_1,dI b_2,dA .Refutation x_3] [] o1'
def z4i (high_0 : Config) (v_1 b_2 : Int) : Option (Bool) := callC tn 101 [dA .Config high_0,dI v_1,dI b_2] [] o1'
def z1g (a0 : Int) (a3 : List Int) (a5 a7 : Int) (a9 : List Member) : Option (Int × Bool) := gp 108 Tryz.f108 0 o18' [1,0,1,0] [1] ⟨[(1,fI a0),(2,fP 0),(9,fL .i64 a3),(10,fI a5),(11,fI a7)],[[dL .Member a9]]⟩
def z48 (c_0 : Config) (k_1 s_2 : Int) : Option (Bool) := callC tn 130 [dA .Config c_0,dI k_1,dI s_2] [] o1'
def z30 (a0 : Int) (a2 : List Int) (a4 : Int) : Option (List Int) := gp 55 Tryz.f55 0 o2' [1,1,0,1,0] [0] ⟨[(0,fI a0),(3,.fl (.own .i64 a2 false)),(5,fI a4)],[]⟩
def z39 (a0 a3 : Int) (a5 : List Int) (a7 a9 : Int) (a11 a13 : List Member) : Option (Int × Bool × Int) := gp 23 Tryz.f23 0 o10' [1,1,1,1,0,1,0] [2] ⟨[(3,fI a0),(4,fP 0),(11,fI a3),(36,fL .i64 a5),(37,fI a7),(38,fI a9)],[[dL .Member a11],[dL .Member a13]]⟩
def z55 (c_0 : Config) (v_1 s_2 : Int) : Option (Bool) := callC tn 56 [dA .Config c_0,dI v_1,dI s_2] [] o1'
def z4k (a0 a3 a5 : Int) (a7 : List Int) (a9 : List Trust) : Option (Int) := gp 72 Tryz.f72 0 o0' [1,1,0,1,0] [1] ⟨[(1,fI a0),(2,fP 0),(5,fI a3)],[[dI a5,dL .i64 a7,dL .Trust a9]]⟩
def z6j (a4 : List (List Trust)) (a7 : List Trust) (a9 : Int) (a11 : List Member) (a13 a15 : Int) (a17 : List Int) (a19 : Int) (a21 a23 a25 : List Member) (a27 : Bool) (a29 : Int) (a31 : List Int) (a33 : List Trust) : Option (Config × Config × List Int × Int) := gp 10 Tryz.f10 1 o20' [1,1,1,1,0,1,0,0,1,1,0,0,1,1,0,1,0,1,1,0] [4,4,4,5] ⟨[(0,fP 0),(4,fP 1),(5,fP 2),(6,fP 3),(7,.fl (.own .l_Trust a4 false)),(9,fP 4),(10,.fl (.own .Trust a7 false)),(11,fI a9),(25,fL .Member a11),(26,fI a13),(27,fI a15)],[[dL .i64 a17,dI a19],[.own .Member a21 false],[.own .Member a23 false],[dL .Member a25],[.d (.lf (.b a27)),dI a29,dL .i64 a31,dL .Trust a33]]⟩
def z7i (x_1 : Trust) (n_2 : Int) (h0 : List Int) (h1 : Int) : Option (Trust × List Int × Int) := callC tn 37 [.ptr 0 0,dA .Trust x_1,dI n_2] [[.d (.lf (.l (c := .i64) h0)),dI h1]] o4'
def z1z (a0 : Bool) (a4 : List (List Trust)) (a6 a8 : Int) (a10 a12 : List Member) : Option (Config × Int) := gp 81 Tryz.f81 0 o14' [1,1,1,0,1,0] [2] ⟨[(1,fB a0),(4,fP 0),(6,fP 1),(19,fL .l_Trust a4),(20,fI a6),(21,fI a8)],[[.own .Member a10 false],[.own .Member a12 false]]⟩
def z3p (a2 : List Int) (a4 : Int) (a6 a8 a10 : List Member) : Option (Config × List Int × Int) := gp 29 Tryz.f29 1 o12' [1,1,1,1,0,1,0,1,1,1,1,1,1,1,1,0] [4,4] ⟨[(4,fP 2),(5,fP 3)],[[dL .i64 a2,dI a4],[dL .Member a6],[.own .Member a8 false],[.own .Member a10 false]]⟩
def z4w (a1 a5 : Int) (a7 : List Int) (a9 a11 : Int) (a13 : List Int) (a15 : List Trust) (a17 : Int) (a19 : List Int) (a21 : List Trust) : Option (Trust × List Int × Int) := gp 79 Tryz.f79 1 o4' [1,1,0,1,0] [3] ⟨[(0,fP 0),(1,fI a1),(4,fP 1),(5,fP 2),(6,fI a5)],[[dL .i64 a7,dI a9],[dI a11,.own .i64 a13 false,.own .Trust a15 false],[dI a17,.own .i64 a19 false,.own .Trust a21 false]]⟩
def z2m (a1 a3 : Int) (a6 : List Trust) (a8 : Int) (a10 : List Int) (a12 a14 : Int) (a16 : List Int) (a18 : List Trust) : Option (Trust × List Int × Int) := gp 80 Tryz.f80 1 o4' [1,1,0,1,0] [2] ⟨[(0,fP 0),(1,fI a1),(2,fI a3),(6,fP 1),(7,.fl (.own .Trust a6 false)),(8,fI a8)],[[dL .i64 a10,dI a12],[dI a14,.own .i64 a16 false,.own .Trust a18 false]]⟩
def z4x (a1 a3 : Int) (a7 : List Int) (a9 a11 : Int) (a13 : List Int) (a15 a17 : Int) (a19 : List Int) (a21 : List Trust) (a23 : Int) (a25 : List Int) (a27 : List Trust) : Option (Trust × List Int × Int) := gp 110 Tryz.f110 1 o4' [1,1,1,0,1,0] [3] ⟨[(0,fP 0),(1,fI a1),(2,fI a3),(6,fP 1),(7,fP 2),(20,fL .i64 a7),(21,fI a9),(22,fI a11)],[[dL .i64 a13,dI a15],[dI a17,.own .i64 a19 false,.own .Trust a21 false],[dI a23,.own .i64 a25 false,.own .Trust a27 false]]⟩
def z3q (a1 : Int) (a3 : List Int) (a5 : Int) (a7 : List Int) (a9 : Int) : Option (List Int × List Int × Int) := gp 131 Tryz.f131 1 o21' [1,1,0,1,0] [1] ⟨[(0,fP 0),(1,fI a1),(5,.fl (.own .i64 a3 false)),(6,fI a5)],[[dL .i64 a7,dI a9]]⟩
def z4r (a0 : Int) (a2 : List Trust) (a4 a6 a8 : Int) (a10 : List Int) (a12 : List Trust) : Option (Int) := gp 113 Tryz.f113 0 o0' [1,1,0,1,0] [1] ⟨[(3,fI a0),(7,fL .Trust a2),(8,fI a4),(9,fI a6)],[[dI a8,dL .i64 a10,dL .Trust a12]]⟩
def z59 (a0 : Int) (a2 : List Trust) (a4 a6 a8 : Int) (a10 : List Int) (a12 : List Trust) : Option (Int) := gp 114 Tryz.f114 0 o0' [1,1,0,1,0] [1] ⟨[(3,fI a0),(14,fL .Trust a2),(15,fI a4),(16,fI a6)],[[dI a8,dL .i64 a10,dL .Trust a12]]⟩
def z1o (a1 : List Int) (a3 a5 a7 : Int) (a9 : List Int) (a11 : List Trust) : Option (Int) := gp 115 Tryz.f115 0 o0' [1,1,0,1,0] [1] ⟨[(1,fP 0),(26,fL .i64 a1),(27,fI a3),(28,fI a5)],[[dI a7,dL .i64 a9,dL .Trust a11]]⟩
def z7a (nodes_0 : List Int) : Option (Int × Int) := callC tn 133 [.d (.lf (.l (c := .i64) nodes_0))] [] o5'
def z49 (a2 : Int) (a4 : List Int) (a6 a8 : Int) (a10 : List Int) (a12 : List Trust) (a14 : Int) (a16 : List Int) (a18 : List Trust) (a20 : Int) (a22 : List Int) (a24 : List Trust) : Option (Trust × List Int × Int) := gp 73 Tryz.f73 1 o4' [1,1,0,1,0,1,1,1,1,1,1,1,1,1,0,1,0,1,0] [3,4] ⟨[(4,fP 2),(6,fP 3),(7,fI a2)],[[dL .i64 a4,dI a6],[dI a8,dL .i64 a10,dL .Trust a12],[dI a14,.own .i64 a16 false,.own .Trust a18 false],[dI a20,.own .i64 a22 false,.own .Trust a24 false]]⟩
def z20 (a1 : Int) (a3 : List Int) (a5 : Bool) (a7 : List Int) (a9 a11 : Int) (a13 : List Member) : Option (List Int) := gp 54 Tryz.f54 0 o2' [1,1,1,1,0,1,0,0,1,0,1,1,0] [1,1,1,1] ⟨[(2,fP 0),(5,fI a1),(6,.fl (.own .i64 a3 false)),(7,fB a5),(19,fL .i64 a7),(20,fI a9),(21,fI a11)],[[dL .Member a13]]⟩
def z2h (a0 : Int) (a2 : List Int) (a4 a6 : Int) : Option (List Int) := gp 46 Tryz.f46 0 o2' [1,1,0,1,0,0,1,0,0,1,0] [0,0,0,0] ⟨[(0,fI a0),(3,.fl (.own .i64 a2 false)),(4,fI a4),(5,fI a6)],[]⟩
def z5a (a0 a2 a4 : Int) : Option (Int) := gp 84 Tryz.f84 0 o0' [1,1,0,1,0] [0] ⟨[(0,fI a0),(3,fI a2),(4,fI a4)],[]⟩
def z3k (a2 a4 a6 : Int) (a8 : List Int) (a10 : List Trust) (a12 : Int) (a14 : List Int) (a16 : List Trust) : Option (Bool) := gp 86 Tryz.f86 0 o1' [1,1,0,1,0] [2] ⟨[(2,fP 0),(3,fP 1),(30,fI a2),(31,fI a4)],[[dI a6,dL .i64 a8,dL .Trust a10],[dI a12,dL .i64 a14,dL .Trust a16]]⟩
def z34 (a1 : Int) (a3 : List Int) (a5 a7 a9 : Int) (a11 : List Int) (a13 : List Trust) : Option (Int) := gp 88 Tryz.f88 0 o0' [1,1,0,1,0] [1] ⟨[(1,fP 0),(3,fI a1),(9,fL .i64 a3),(10,fI a5),(11,fI a7)],[[dI a9,dL .i64 a11,dL .Trust a13]]⟩
def z4l (a0 a2 : List Int) (a4 a6 : Int) : Option (Bool) := gp 112 Tryz.f112 0 o1' [1,1,0,1,0] [0] ⟨[(0,fL .i64 a0),(1,fL .i64 a2),(12,fI a4),(13,fI a6)],[]⟩
def z4m (a0 : Int) (a5 : List Int) (a7 a9 a11 : Int) (a13 : List Int) (a15 : List Trust) (a17 : Int) (a19 : List Int) (a21 : List Trust) (a23 : Int) (a25 : List Int) (a27 : List Trust) : Option (Trust) := gp 117 Tryz.f117 0 o6' [1,1,0,1,0] [3] ⟨[(1,fI a0),(2,fP 0),(4,fP 1),(5,fP 2),(15,fL .i64 a5),(16,fI a7),(17,fI a9)],[[dI a11,dL .i64 a13,dL .Trust a15],[dI a17,.own .i64 a19 false,.own .Trust a21 false],[dI a23,.own .i64 a25 false,.own .Trust a27 false]]⟩
def z6q (n_0 : Int) : Option (Int) := callC tn 134 [dI n_0] [] o0'
def z3y (a2 a4 a6 a8 : Int) (a10 a12 : List Member) : Option (Int) := gp 83 Tryz.f83 0 o0' [1,1,1,1,1,0,1,0,0,1,1,0,0,1,1,1,0] [2,2,2,2] ⟨[(2,fP 0),(3,fP 1),(7,fI a2),(8,fI a4),(39,fI a6),(40,fI a8)],[[dL .Member a10],[dL .Member a12]]⟩
def z00 (a1 a3 a5 : Int) (a8 a10 : Bool) (a12 : List Int) : Option (List Int) := gp 141 Tryz.f141 1 o3' [1,1,0] [1] ⟨[(0,.fl (.ref 0)),(1,fI a1),(2,fI a3),(3,fI a5),(4,.fl (.fn 125 [])),(10,fB a8),(11,fB a10)],[[.own .i64 a12 false]]⟩
def z12 (a_1 b_2 : Int) (h0 : List Int) : Option (List Int) := callC tn 153 [.ref 0,dI a_1,dI b_2,.fn 125 []] [[.own .i64 h0 false]] o3'
def z16 (a_1 b_2 : Int) (h0 : List Int) : Option (List Int) := callC tn 154 [.ref 0,dI a_1,dI b_2,.fn 125 []] [[.own .i64 h0 false]] o3'
def z13 (a_1 b_2 : Int) (h0 : List Int) : Option (List Int) := callC tn 155 [.ref 0,dI a_1,dI b_2,.fn 125 []] [[.own .i64 h0 false]] o3'
def z0n (a_1 b_2 : Int) (h0 : List Int) : Option (Int × Int × List Int) := callC tn 156 [.ref 0,dI a_1,dI b_2,.fn 125 []] [[.own .i64 h0 false]] o29'
def z0k (a_1 b_2 : Int) (h0 : List Int) : Option (List Int) := callC tn 157 [.ref 0,dI a_1,dI b_2,.fn 125 []] [[.own .i64 h0 false]] o3'
def z09 (a_1 b_2 : Int) (h0 : List Int) : Option (Bool × List Int) := callC tn 158 [.ref 0,dI a_1,dI b_2,.fn 125 []] [[.own .i64 h0 false]] o11'
def z08 (a_0 b_1 : Int) : Option (Int) := callC tn 125 [dI a_0,dI b_1] [] o0'
def z04 (a_1 b_2 pivot_3 : Int) (h0 : List Int) : Option (Int × List Int) := callC tn 159 [.ref 0,dI a_1,dI b_2,dI pivot_3,.fn 125 []] [[.own .i64 h0 false]] o15'
def z02 (a_1 b_2 pivot_3 : Int) (h0 : List Int) : Option (Int × Bool × List Int) := callC tn 160 [.ref 0,dI a_1,dI b_2,dI pivot_3,.fn 125 []] [[.own .i64 h0 false]] o8'
def z3z (length_0 : Int) : Option (Int) := callC tn 170 [dI length_0] [] ⟨[.lf (.i .u64)],[]⟩
def z0i (a_1 : Int) (h0 : List Int) (h1 : Int) : Option (Int × List Int × Int) := callC tn 172 [.ref 0,dI a_1,.ptr 1 0,.fn 125 []] [[.own .i64 h0 false],[dI h1]] o25'
def z0u (a_1 b_2 c_3 : Int) (h0 : List Int) (h1 : Int) : Option (Int × List Int × Int) := callC tn 173 [.ref 0,dI a_1,dI b_2,dI c_3,.ptr 1 0,.fn 125 []] [[.own .i64 h0 false],[dI h1]] o25'
def z6g (s_0 : Int) : Option (Int) := callC tn 145 [dI s_0] [] o0'
def z4s (x_0 y_1 : Int) : Option (Int) := callC tn 144 [dI x_0,dI y_1] [] o0'
def z77 (vals_0 : List Int) : Option (Int) := callC tn 143 [.d (.lf (.l (c := .i64) vals_0))] [] o0'
def z0v (a_1 b_2 : Int) (h0 : List Int) (h1 : Int) : Option (Int × Int × List Int × Int) := callC tn 175 [.ref 0,dI a_1,dI b_2,.ptr 1 0,.fn 125 []] [[.own .i64 h0 false],[dI h1]] o30'
def z5u (x_0 : Int) : Option (Bool) := callC tn 163 [dI x_0] [] o1'
def z31 (a2 : List Trust) (a4 a6 a8 : Int) (a10 : List Int) (a12 : List Trust) (a14 : Int) (a16 : List Int) (a18 : List Trust) (a20 : Int) (a22 : List Int) (a24 : List Trust) : Option (Trust) := gp 97 Tryz.f97 0 o6' [1,1,0,1,0] [3] ⟨[(2,fP 1),(3,fP 2),(13,fL .Trust a2),(14,fI a4),(15,fI a6)],[[dI a8,dL .i64 a10,dL .Trust a12],[dI a14,.own .i64 a16 false,.own .Trust a18 false],[dI a20,.own .i64 a22 false,.own .Trust a24 false]]⟩
def z2p (a0 : Int) (a5 : List Int) (a7 a9 a11 : Int) (a13 : List Int) (a15 : List Trust) (a17 : Int) (a19 : List Int) (a21 : List Trust) (a23 : Int) (a25 : List Int) (a27 : List Trust) : Option (Trust) := gp 123 Tryz.f123 0 o6' [1,1,0,1,0] [3] ⟨[(1,fI a0),(2,fP 0),(4,fP 1),(5,fP 2),(15,fL .i64 a5),(16,fI a7),(17,fI a9)],[[dI a11,dL .i64 a13,dL .Trust a15],[dI a17,.own .i64 a19 false,.own .Trust a21 false],[dI a23,.own .i64 a25 false,.own .Trust a27 false]]⟩
def z4t (threshold_0 by_1 : Int) : Option (Int) := callC tn 140 [dI threshold_0,dI by_1] [] o0'
def z32 (a0 : Int) (a2 : List Trust) (a4 a6 a8 : Int) (a10 : List Int) (a12 : List Trust) : Option (Int) := gp 148 Tryz.f148 0 o0' [1,1,0,1,0] [1] ⟨[(3,fI a0),(7,fL .Trust a2),(8,fI a4),(9,fI a6)],[[dI a8,dL .i64 a10,dL .Trust a12]]⟩
def z3a (a0 : Int) (a2 : List Trust) (a4 a6 a8 : Int) (a10 : List Int) (a12 : List Trust) : Option (Int) := gp 149 Tryz.f149 0 o0' [1,1,0,1,0] [1] ⟨[(3,fI a0),(14,fL .Trust a2),(15,fI a4),(16,fI a6)],[[dI a8,dL .i64 a10,dL .Trust a12]]⟩
def z33 (a0 : List Trust) (a2 a4 a6 : Int) (a8 : List Int) (a10 : List Trust) : Option (Int) := gp 150 Tryz.f150 0 o0' [1,1,1,1,0,1,0] [1] ⟨[(36,fL .Trust a0),(37,fI a2),(38,fI a4)],[[dI a6,dL .i64 a8,dL .Trust a10]]⟩
def z1m (a0 a3 : Int) (a5 : List Int) (a7 a9 a11 : Int) (a13 : List Int) (a15 : List Trust) : Option (Bool) := gp 93 Tryz.f93 0 o1' [1,1,1,0,1,0] [1] ⟨[(1,fI a0),(2,fP 0),(5,fI a3),(14,fL .i64 a5),(15,fI a7),(16,fI a9)],[[dI a11,dL .i64 a13,dL .Trust a15]]⟩
def z3l (a0 : Int) (a2 : List Int) (a4 a6 : Int) : Option (Int × Int) := gp 166 Tryz.f166 0 o5' [1,1,0,1,0] [0] ⟨[(4,fI a0),(7,fL .i64 a2),(8,fI a4),(9,fI a6)],[]⟩
def z0e (a0 : List Int) (a3 a5 : Int) : Option (Int) := gp 174 Tryz.f174 0 o0' [1,0,1,0] [0] ⟨[(0,fL .i64 a0),(1,.fl (.fn 165 [])),(7,fI a3),(8,fI a5)],[]⟩
def z5f (k_0 : Int) : Option (Bool) := callC tn 165 [dI k_0] [] o1'
def z5v (k_0 : Int) : Option (Bool) := callC tn 151 [dI k_0] [] o1'
def z2q (a1 : Int) (a3 : List Int) (a5 a7 a9 : Int) (a11 : List Int) (a13 : List Trust) : Option (Int) := gp 137 Tryz.f137 0 o0' [1,1,0,1,0] [1] ⟨[(1,fP 0),(3,fI a1),(9,fL .i64 a3),(10,fI a5),(11,fI a7)],[[dI a9,dL .i64 a11,dL .Trust a13]]⟩
def z2v (a0 a2 a4 : Int) : Option (Int × Bool) := gp 120 Tryz.f120 0 o18' [1,1,1,0,1,0] [0] ⟨[(1,fI a0),(6,fI a2),(7,fI a4)],[]⟩
def z2i (a0 : Int) (a3 : List Int) (a5 : List Member) : Option (Int × List Int) := gp 139 Tryz.f139 0 o24' [1,1,1,1,0] [1] ⟨[(1,fI a0),(2,fP 0),(6,.fl (.own .i64 a3 false))],[[dL .Member a5]]⟩
def z1n (a0 a2 a8 a10 : Int) (a12 : List Arr2_Config) (a14 a16 : Int) (a18 : List Explanation) (a20 a22 : Int) (a24 a26 : List Member) (a28 a30 a32 a34 : Int) (a36 : List Refutation) (a38 : List Int) (a40 : Int) (a42 a44 a46 a48 : List Member) (a50 a52 a54 a56 : Int) (a58 : List Refutation) (a60 a62 a64 a66 : Int) (a68 : List Refutation) (a70 a72 a74 a76 : Int) (a78 : List Refutation) : Option (Bool) := gp 8 Tryz.f8 0 o1' [1,1,1,1,0,1,0,0,1,1,0,0,1,1,1,1,1,1,1,1,1,1,1,0] [6,6,6,10] ⟨[(3,fI a0),(4,fI a2),(11,fP 2),(13,fP 3),(14,fP 4),(17,fP 6),(18,fI a8),(19,fI a10),(83,fL .Arr2_Config a12),(84,fI a14),(85,fI a16),(298,fL .Explanation a18),(299,fI a20),(300,fI a22)],[[dL .Member a24],[dL .Member a26],[dI a28,dI a30,dI a32,dI a34,dL .Refutation a36],[dL .i64 a38,dI a40],[dL .Member a42],[dL .Member a44],[dL .Member a46,dL .Member a48],[dI a50,dI a52,dI a54,dI a56,dL .Refutation a58],[dI a60,dI a62,dI a64,dI a66,dL .Refutation a68],[dI a70,dI a72,dI a74,dI a76,dL .Refutation a78]]⟩
def z3b (a0 : Int) (a2 : List Int) (a4 a6 : Int) (a8 a10 : List Member) : Option (Int × Int) := gp 31 Tryz.f31 0 o5' [1,1,1,1,1,0,1,0] [2] ⟨[(9,fI a0),(41,fL .i64 a2),(42,fI a4),(43,fI a6)],[[dL .Member a8],[dL .Member a10]]⟩
def z3r (a0 a3 : Int) (a5 : List Int) (a7 a9 : Int) (a11 a13 : List Member) : Option (Int × Bool × Int) := gp 32 Tryz.f32 0 o10' [1,1,1,1,0,1,0] [2] ⟨[(3,fI a0),(4,fP 0),(11,fI a3),(36,fL .i64 a5),(37,fI a7),(38,fI a9)],[[dL .Member a11],[dL .Member a13]]⟩
def z3s (a4 : List Int) (a6 a8 : Int) (a10 a12 : List Member) (a14 a16 a18 a20 : Int) (a22 : List Refutation) (a24 a26 a28 a30 : Int) (a32 : List Refutation) : Option (Explanation × Int) := gp 33 Tryz.f33 0 o17' [1,1,1,1,1,1,1,1,0,1,0] [4] ⟨[(4,fP 0),(5,fP 1),(8,fP 2),(15,fP 3),(68,fL .i64 a4),(69,fI a6),(70,fI a8)],[[dL .Member a10],[dL .Member a12],[dI a14,dI a16,dI a18,dI a20,.own .Refutation a22 false],[dI a24,dI a26,dI a28,dI a30,.own .Refutation a32 false]]⟩
def z6x (low_0 high_1 : Config) (b_2 : Int) : Option (Refutation × Int) := callC tn 76 [dA .Config low_0,dA .Config high_1,dI b_2] [] o19'
def z5b (a2 a4 a6 a8 a10 a12 : Int) (a14 : List Refutation) (a16 a18 a20 a22 : Int) (a24 : List Refutation) : Option (Bool) := gp 34 Tryz.f34 0 o1' [1,1,0,1,0] [2] ⟨[(2,fP 0),(3,fP 1),(43,fI a2),(44,fI a4)],[[dI a6,dI a8,dI a10,dI a12,dL .Refutation a14],[dI a16,dI a18,dI a20,dI a22,dL .Refutation a24]]⟩
def z2j (a0 a2 : Int) (a4 a6 : List Int) (a8 a10 : Int) (a12 : List Member) : Option (List Int) := gp 64 Tryz.f64 0 o2' [1,1,0,1,0] [1] ⟨[(1,fI a0),(2,fI a2),(7,.fl (.own .i64 a4 false)),(12,fL .i64 a6),(13,fI a8),(14,fI a10)],[[dL .Member a12]]⟩
def z21 (a0 a3 : Int) (a5 : List Trust) (a7 a9 a11 : Int) (a13 : List Int) (a15 : List Trust) : Option (Bool) := gp 44 Tryz.f44 0 o1' [1,1,1,1,0,1,0] [1] ⟨[(1,fI a0),(2,fP 0),(5,fI a3),(27,fL .Trust a5),(28,fI a7),(29,fI a9)],[[dI a11,dL .i64 a13,dL .Trust a15]]⟩
def z2a (a0 : Int) (a5 : List Int) (a7 a9 : Int) (a11 a13 : List Member) (a15 a17 a19 : Int) : Option (Refutation × Int) := gp 61 Tryz.f61 0 o19' [1,1,0,1,0] [3] ⟨[(2,fI a0),(3,fP 0),(4,fP 1),(6,fP 2),(26,fL .i64 a5),(27,fI a7),(28,fI a9)],[[dL .Member a11],[dL .Member a13],[dI a15,dI a17,dI a19]]⟩
def z4u (a3 : List Int) (a5 a7 : Int) (a9 a11 : List Member) (a13 a15 a17 a19 : Int) (a21 : List Refutation) : Option (Bool) := gp 26 Tryz.f26 0 o1' [1,1,1,0,1,0,1,1,1,1,1,1,1,0,1,1,0,1,0] [3,3] ⟨[(5,fP 0),(6,fP 1),(9,fP 2),(150,fL .i64 a3),(151,fI a5),(152,fI a7)],[[dL .Member a9],[dL .Member a11],[dI a13,dI a15,dI a17,dI a19,dL .Refutation a21]]⟩
def z78 (low_0 high_1 : Config) (b_2 : Int) (x_3 : Refutation) : Option (Bool) := callC tn 65 [dA .Config low_0,dA .Config high_1,dI b_2,dA .Refutation x_3] [] o1'
def z6r (high_0 : Config) (b_1 k_2 : Int) : Option (Bool) := callC tn 102 [dA .Config high_0,dI b_1,dI k_2] [] o1'
def z4a (a0 : Bool) (a4 : List Trust) (a6 : List (List Trust)) (a8 a10 : Int) (a12 : List Trust) (a14 a16 : Int) (a18 a20 : List Member) : Option (Config × Int) := gp 81 Tryz.f81 0 o14' [1,1,1,0,1,0,0,1,1,0,0,1,0,1,0] [2,2,2,2] ⟨[(1,fB a0),(4,fP 0),(6,fP 1),(8,fL .Trust a4),(19,fL .l_Trust a6),(20,fI a8),(21,fI a10),(25,fL .Trust a12),(26,fI a14),(27,fI a16)],[[.own .Member a18 false],[.own .Member a20 false]]⟩
def z4b (l_0 : List Trust) : Option (List Trust) := callC tn 111 [.d (.lf (.l (c := .Trust) l_0))] [] o22'
def z5l (a1 a3 : Int) (a6 : List Trust) (a8 a11 : Int) (a13 : List Int) (a15 a17 : Int) (a19 : List Int) (a21 : List Trust) (a23 : Int) (a25 : List Int) (a27 : List Trust) : Option (Trust × List Int × Int) := gp 80 Tryz.f80 1 o4' [1,1,0,1,0,0,1,0,0,1,0,1,0] [2,2,2,3] ⟨[(0,fP 0),(1,fI a1),(2,fI a3),(6,fP 1),(7,.fl (.own .Trust a6 false)),(8,fI a8),(9,fP 2),(10,fI a11)],[[dL .i64 a13,dI a15],[dI a17,.own .i64 a19 false,.own .Trust a21 false],[dI a23,.own .i64 a25 false,.own .Trust a27 false]]⟩
def z4y (a1 a3 a7 : Int) (a9 : List Int) (a11 a13 : Int) (a15 : List Int) (a17 : List Trust) (a19 : Int) (a21 : List Int) (a23 : List Trust) : Option (Trust × List Int × Int) := gp 110 Tryz.f110 1 o4' [1,1,1,1,0,1,0,0,1,0] [3] ⟨[(0,fP 0),(1,fI a1),(2,fI a3),(6,fP 1),(7,fP 2),(11,fI a7)],[[dL .i64 a9,dI a11],[dI a13,.own .i64 a15 false,.own .Trust a17 false],[dI a19,.own .i64 a21 false,.own .Trust a23 false]]⟩
def z3t (a1 : List Int) (a3 : Int) (a5 : List Int) (a7 : Int) : Option (List Int × List Int × Int) := gp 131 Tryz.f131 1 o21' [1,1,1,0,1,0] [1] ⟨[(0,fP 0),(5,.fl (.own .i64 a1 false)),(7,fI a3)],[[dL .i64 a5,dI a7]]⟩
def z1p (a0 : List Trust) (a2 a4 a6 : Int) (a8 : List Int) (a10 : List Trust) : Option (Int) := gp 115 Tryz.f115 0 o0' [1,1,1,1,0,1,0] [1] ⟨[(49,fL .Trust a0),(50,fI a2),(51,fI a4)],[[dI a6,dL .i64 a8,dL .Trust a10]]⟩
def z2c (a0 : Int) (a2 : List Int) (a4 a6 : Int) : Option (Int × Int) := gp 133 Tryz.f133 0 o5' [1,1,0,1,0] [0] ⟨[(4,fI a0),(7,fL .i64 a2),(8,fI a4),(9,fI a6)],[]⟩
def z4c (a1 : Int) (a3 : List Int) (a5 : Bool) (a7 : List Int) (a9 a11 : Int) (a13 : Bool) (a15 : List Member) : Option (List Int) := gp 54 Tryz.f54 0 o2' [1,1,1,1,0,1,0] [1] ⟨[(2,fP 0),(5,fI a1),(6,.fl (.own .i64 a3 false)),(7,fB a5),(19,fL .i64 a7),(20,fI a9),(21,fI a11),(22,fB a13)],[[dL .Member a15]]⟩
def z4n (a0 : Int) (a2 : List Trust) (a4 a6 a8 : Int) (a10 : List Int) (a12 : List Trust) : Option (Int) := gp 88 Tryz.f88 0 o0' [1,1,1,0,1,0] [1] ⟨[(3,fI a0),(27,fL .Trust a2),(28,fI a4),(29,fI a6)],[[dI a8,dL .i64 a10,dL .Trust a12]]⟩
def z3m (a0 : Int) (a4 : List Trust) (a6 a8 a10 : Int) (a12 : List Int) (a14 : List Trust) (a16 : Int) (a18 : List Int) (a20 : List Trust) (a22 : Int) (a24 : List Int) (a26 : List Trust) : Option (Trust) := gp 117 Tryz.f117 0 o6' [1,1,1,0,1,0] [3] ⟨[(1,fI a0),(4,fP 1),(5,fP 2),(36,fL .Trust a4),(37,fI a6),(38,fI a8)],[[dI a10,dL .i64 a12,dL .Trust a14],[dI a16,.own .i64 a18 false,.own .Trust a20 false],[dI a22,.own .i64 a24 false,.own .Trust a26 false]]⟩
def z0d (a1 a3 a6 : Int) (a8 : List Int) : Option (List Int) := gp 153 Tryz.f153 1 o3' [1,0] [1] ⟨[(0,.fl (.ref 0)),(1,fI a1),(2,fI a3),(3,.fl (.fn 125 [])),(8,fI a6)],[[.own .i64 a8 false]]⟩
def z0o (a2 a4 a6 a8 : Int) (a10 : List Int) : Option (List Int) := gp 154 Tryz.f154 1 o3' [1,1,1,0,1,0] [1] ⟨[(0,.fl (.ref 0)),(3,.fl (.fn 125 [])),(8,fI a2),(9,fI a4),(10,fI a6),(11,fI a8)],[[.own .i64 a10 false]]⟩
def z11 (lo_1 hi_2 first_3 : Int) (h0 : List Int) : Option (List Int) := callC tn 169 [.ref 0,dI lo_1,dI hi_2,dI first_3,.fn 125 []] [[.own .i64 h0 false]] o3'
def z0b (a1 a3 a6 a8 : Int) (a10 : List Int) (a12 : Int) : Option (List Int) := gp 155 Tryz.f155 1 o3' [1,1,0,1,1,1,0] [2] ⟨[(0,.fl (.ref 0)),(1,fI a1),(8,fI a3),(9,fP 1),(10,.fl (.d (.lf (.i .u64 a6)))),(11,fI a8)],[[.own .i64 a10 false],[.d (.lf (.i .u64 a12))]]⟩
def z4d (h0 : Int) : Option (Int × Int) := callC tn 171 [.ptr 0 0] [[.d (.lf (.i .u64 h0))]] o31'
def z0s (a1 a3 : Int) (a5 : List Int) : Option (List Int) := gp 157 Tryz.f157 1 o3' [1,1,0] [1] ⟨[(0,.fl (.ref 0)),(8,fI a1),(9,fI a3)],[[.own .i64 a5 false]]⟩
def z03 (a1 a3 a6 a8 : Int) (a10 : List Int) : Option (Bool × List Int) := gp 158 Tryz.f158 1 o11' [1,1,0,1,0] [1] ⟨[(0,.fl (.ref 0)),(1,fI a1),(2,fI a3),(3,.fl (.fn 125 [])),(9,fI a6),(10,fI a8)],[[.own .i64 a10 false]]⟩
def z0a (a1 a4 a6 : Int) (a8 : List Int) : Option (Int × List Int) := gp 159 Tryz.f159 1 o15' [1,1,1,0,0] [1] ⟨[(0,.fl (.ref 0)),(1,fI a1),(4,.fl (.fn 125 [])),(11,fI a4),(12,fI a6)],[[.own .i64 a8 false]]⟩
def z0w (a1 a4 a6 : Int) (a8 : List Int) : Option (Int × Bool × List Int) := gp 160 Tryz.f160 1 o8' [1,1,1,0,0] [1] ⟨[(0,.fl (.ref 0)),(1,fI a1),(4,.fl (.fn 125 [])),(12,fI a4),(13,fI a6)],[[.own .i64 a8 false]]⟩
def z4v (a0 : Int) (a2 : List Int) (a4 a6 : Int) : Option (Int) := gp 143 Tryz.f143 0 o0' [1,1,0,1,0] [0] ⟨[(3,fI a0),(6,fL .i64 a2),(7,fI a4),(8,fI a6)],[]⟩
def z27 (a0 : Int) (a4 : List Trust) (a6 a8 a10 : Int) (a12 : List Int) (a14 : List Trust) (a16 : Int) (a18 : List Int) (a20 : List Trust) (a22 : Int) (a24 : List Int) (a26 : List Trust) : Option (Trust) := gp 123 Tryz.f123 0 o6' [1,1,1,0,1,0] [3] ⟨[(1,fI a0),(4,fP 1),(5,fP 2),(36,fL .Trust a4),(37,fI a6),(38,fI a8)],[[dI a10,dL .i64 a12,dL .Trust a14],[dI a16,.own .i64 a18 false,.own .Trust a20 false],[dI a22,.own .i64 a24 false,.own .Trust a26 false]]⟩
def z1e (a0 a3 : Int) (a5 : List Trust) (a7 a9 a11 : Int) (a13 : List Int) (a15 : List Trust) : Option (Bool) := gp 93 Tryz.f93 0 o1' [1,1,1,1,0,1,0] [1] ⟨[(1,fI a0),(2,fP 0),(5,fI a3),(27,fL .Trust a5),(28,fI a7),(29,fI a9)],[[dI a11,dL .i64 a13,dL .Trust a15]]⟩
def z2r (a0 : Int) (a2 : List Trust) (a4 a6 a8 : Int) (a10 : List Int) (a12 : List Trust) : Option (Int) := gp 137 Tryz.f137 0 o0' [1,1,1,0,1,0] [1] ⟨[(3,fI a0),(23,fL .Trust a2),(24,fI a4),(25,fI a6)],[[dI a8,dL .i64 a10,dL .Trust a12]]⟩
def z4e (a0 a5 a7 : Int) (a9 a11 : List Member) (a13 a15 a17 : Int) : Option (Refutation × Int) := gp 76 Tryz.f76 0 o19' [1,1,0,1,0] [3] ⟨[(2,fI a0),(3,fP 0),(4,fP 1),(6,fP 2),(23,fI a5),(24,fI a7)],[[dL .Member a9],[dL .Member a11],[dI a13,dI a15,dI a17]]⟩
def z22 (a0 a2 : List Trust) (a4 a6 : Int) : Option (List Trust) := gp 111 Tryz.f111 0 o22' [1,1,0,1,0] [0] ⟨[(3,.fl (.own .Trust a0 false)),(11,fL .Trust a2),(12,fI a4),(13,fI a6)],[]⟩
def z0g (a1 a3 a6 a8 : Int) (a10 : List Int) : Option (List Int) := gp 153 Tryz.f153 1 o3' [1,0,0,1,0,0,1,0] [1,1,1,1] ⟨[(0,.fl (.ref 0)),(1,fI a1),(2,fI a3),(3,.fl (.fn 125 [])),(8,fI a6),(9,fI a8)],[[.own .i64 a10 false]]⟩
def z0p (a2 a4 a6 : Int) (a8 : List Int) : Option (List Int) := gp 154 Tryz.f154 1 o3' [1,1,1,1,1,0] [1] ⟨[(0,.fl (.ref 0)),(3,.fl (.fn 125 [])),(8,fI a2),(9,fI a4),(12,fI a6)],[[.own .i64 a8 false]]⟩
def z0c (a1 a3 a6 : Int) (a8 : List Int) : Option (List Int) := gp 169 Tryz.f169 1 o3' [1,0] [1] ⟨[(0,.fl (.ref 0)),(2,fI a1),(3,fI a3),(4,.fl (.fn 125 [])),(10,fI a6)],[[.own .i64 a8 false]]⟩
def z0t (a1 a3 a6 a8 : Int) (a10 : Bool) (a12 : List Int) : Option (Bool × List Int) := gp 158 Tryz.f158 1 o11' [1,1,0,1,0,0,1,0,0,0,0] [1,1,1,1] ⟨[(0,.fl (.ref 0)),(1,fI a1),(2,fI a3),(3,.fl (.fn 125 [])),(9,fI a6),(10,fI a8),(16,fB a10)],[[.own .i64 a12 false]]⟩
def z0q (a1 a4 a6 : Int) (a8 : List Int) : Option (Int × List Int) := gp 159 Tryz.f159 1 o15' [1,1,1,0,0,0,0,0,0] [1,1,1,1] ⟨[(0,.fl (.ref 0)),(1,fI a1),(4,.fl (.fn 125 [])),(11,fI a4),(12,fI a6)],[[.own .i64 a8 false]]⟩
def z0l (a1 a4 a6 : Int) (a8 : Bool) (a10 : List Int) : Option (Int × Bool × List Int) := gp 160 Tryz.f160 1 o8' [1,1,1,1,0,0] [1] ⟨[(0,.fl (.ref 0)),(1,fI a1),(4,.fl (.fn 125 [])),(12,fI a4),(13,fI a6),(47,fB a8)],[[.own .i64 a10 false]]⟩
def z15 (a0 : List Trust) (a3 : Int) (a5 : Bool) (a7 : List Trust) (a9 a11 a14 a16 a18 : Int) (a20 : List Int) (a22 : List Trust) : Option (List Trust) := gp 111 Tryz.f111 0 o22' [1,1,0,1,0,0,1,1,0,0,1,1,0,1,0] [0,0,0,1] ⟨[(3,.fl (.own .Trust a0 false)),(5,fP 0),(6,fI a3),(7,fB a5),(11,fL .Trust a7),(12,fI a9),(13,fI a11),(17,.fl (.loc (.slot 3))),(18,fI a14),(19,fI a16)],[[dI a18,dL .i64 a20,dL .Trust a22]]⟩
def z63 (a_0 b_1 : Trust) : Option (Int) := callC tn 132 [dA .Trust a_0,dA .Trust b_1] [] o0'
def z4z (a_0 b_1 : Int) : Option (Int) := callC tn 147 [dI a_0,dI b_1] [] o0'
def z0h (a1 a3 a6 a8 : Int) (a10 : List Int) : Option (Bool × List Int) := gp 158 Tryz.f158 1 o11' [1,1,0,1,0,0,1,0,0,0,0] [1,1,1,1] ⟨[(0,.fl (.ref 0)),(1,fI a1),(2,fI a3),(3,.fl (.fn 125 [])),(9,fI a6),(10,fI a8)],[[.own .i64 a10 false]]⟩
def z07 (a1 a3 a6 a8 a10 : Int) (a12 : List Int) : Option (Bool × List Int) := gp 158 Tryz.f158 1 o11' [1,1,0,1,0,0,1,0,0,1,1,1,1,0,1,0,1,0] [1,1,1,1] ⟨[(0,.fl (.ref 0)),(1,fI a1),(2,fI a3),(3,.fl (.fn 125 [])),(9,fI a6),(10,fI a8),(11,fI a10)],[[.own .i64 a12 false]]⟩
def z05 (a1 a3 a6 a8 a10 : Int) (a12 : List Int) : Option (Bool × List Int) := gp 158 Tryz.f158 1 o11' [1,1,0,1,0,0,1,0,0,1,1,1,1,1,1,0,1,0] [1,1,1,1] ⟨[(0,.fl (.ref 0)),(1,fI a1),(2,fI a3),(3,.fl (.fn 125 [])),(9,fI a6),(10,fI a8),(12,fI a10)],[[.own .i64 a12 false]]⟩
def z0f (a1 a4 a6 : Int) (a8 : Bool) (a10 : List Int) : Option (Int × List Int) := gp 159 Tryz.f159 1 o15' [1,1,1,0,0,0,0,1,0,0] [1,1,1,1] ⟨[(0,.fl (.ref 0)),(1,fI a1),(4,.fl (.fn 125 [])),(11,fI a4),(12,fI a6),(47,fB a8)],[[.own .i64 a10 false]]⟩
def z0x (a1 a4 a6 : Int) (a8 : List Int) : Option (Int × Bool × List Int) := gp 160 Tryz.f160 1 o8' [1,1,1,1,0,0] [1] ⟨[(0,.fl (.ref 0)),(1,fI a1),(4,.fl (.fn 125 [])),(12,fI a4),(13,fI a6)],[[.own .i64 a8 false]]⟩
def z06 (a1 a4 a6 : Int) (a8 : List Int) : Option (Int × Bool × List Int) := gp 160 Tryz.f160 1 o8' [1,1,1,1,1,1,1,1,1,0,0] [1] ⟨[(0,.fl (.ref 0)),(1,fI a1),(4,.fl (.fn 125 [])),(12,fI a4),(13,fI a6)],[[.own .i64 a8 false]]⟩
def z2k (a2 a4 : Int) (a6 : List Int) (a8 : List Trust) (a10 : Int) (a12 : List Int) (a14 : List Trust) : Option (Int) := gp 132 Tryz.f132 0 o0' [1,1,0,1,0] [2] ⟨[(2,fP 0),(3,fP 1),(6,fI a2)],[[dI a4,dL .i64 a6,dL .Trust a8],[dI a10,dL .i64 a12,dL .Trust a14]]⟩
def z0r (a1 a4 a6 : Int) (a8 : List Int) : Option (Int × List Int) := gp 159 Tryz.f159 1 o15' [1,1,1,0,0,0,0,1,0,0] [1,1,1,1] ⟨[(0,.fl (.ref 0)),(1,fI a1),(4,.fl (.fn 125 [])),(11,fI a4),(12,fI a6)],[[.own .i64 a8 false]]⟩
def z0y (a1 a4 a6 : Int) (a8 : List Int) : Option (Int × Bool × List Int) := gp 160 Tryz.f160 1 o8' [1,1,1,1,1,1,1,1,1,0,0,0,0,0,0] [1,1,1,1] ⟨[(0,.fl (.ref 0)),(1,fI a1),(4,.fl (.fn 125 [])),(12,fI a4),(13,fI a6)],[[.own .i64 a8 false]]⟩
def z1r (a2 a4 : Int) (a6 : List Int) (a8 : List Trust) (a10 : Int) (a12 : List Int) (a14 : List Trust) : Option (Int) := gp 132 Tryz.f132 0 o0' [1,1,1,1,0,1,0] [2] ⟨[(2,fP 0),(3,fP 1),(9,fI a2)],[[dI a4,dL .i64 a6,dL .Trust a8],[dI a10,dL .i64 a12,dL .Trust a14]]⟩
def z0m (a1 a4 a6 : Int) (a8 : Bool) (a10 : List Int) : Option (Int × Bool × List Int) := gp 160 Tryz.f160 1 o8' [1,1,1,1,1,1,1,1,1,0,0,0,0,1,0,0] [1,1,1,1] ⟨[(0,.fl (.ref 0)),(1,fI a1),(4,.fl (.fn 125 [])),(12,fI a4),(13,fI a6),(120,fB a8)],[[.own .i64 a10 false]]⟩
def z0z (a1 a4 a6 : Int) (a8 : List Int) : Option (Int × Bool × List Int) := gp 160 Tryz.f160 1 o8' [1,1,1,1,1,1,1,1,1,0,0,0,0,1,0,0] [1,1,1,1] ⟨[(0,.fl (.ref 0)),(1,fI a1),(4,.fl (.fn 125 [])),(12,fI a4),(13,fI a6)],[[.own .i64 a8 false]]⟩
end
end Go.Proofs.YtjfhnffdijlboaaGreat
