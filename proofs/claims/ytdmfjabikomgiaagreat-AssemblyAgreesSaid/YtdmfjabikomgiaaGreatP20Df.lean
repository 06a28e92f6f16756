/- What the functions come to: names. -/
import Derived.Test.YtdmfjabikomgiaaGreatP20Env
namespace Go.Proofs.YtdmfjabikomgiaaGreat
open Go Go.Ab
abbrev dA(c:sig.TC)(x:sig.Ty c):TL sig:=.d (.ag (sig.cells c x))
noncomputable abbrev gp(f:Nat)(fn:Func)(k:Nat)(o:OSpec sig)(p ms:List Nat)(st:TSt sig):Option o.Out:=goC tn ⟨f,fn,k⟩ o (q08 fn p) (yhz fn p ms) st
abbrev fI(n:Int):TV sig:=.fl (.d (.lf (.i .i64 n)))
abbrev fB(n:Bool):TV sig:=.fl (.d (.lf (.b n)))
abbrev fL(c:sig.TC)(l:List (sig.Ty c)):TV sig:=.fl (.d (.lf (.l c l)))
abbrev fP(n:Nat):TV sig:=.fl (.ptr n 0)
abbrev dI(n:Int):TL sig:=.d (.lf (.i .i64 n))
abbrev dL(c:sig.TC)(l:List (sig.Ty c)):TL sig:=.d (.lf (.l c l))
noncomputable section
def law20_AssemblyAgrees(a:List Int):Option (Bool):=callC tn 6 [.d (.lf (.l (c:=.i64) a))] [] o1'
def z85(a:List Int):Option (Unit×List Int×Int):=callC tn 11 [.d (.lf (.l (c:=.i64) a))] [] o38'
def z4g(a:Config)(b:Int)(e:List Play):Option (Meeting×List Int×Int):=callC tn 13 [dA .Config a,dI b,.d (.lf (.l (c:=.Play) e))] [] o25'
def z72(a:Meeting):Option (Meeting×Int):=callC tn 14 [dA .Meeting a] [] o12'
def z82(a:Int)(b:List Int)(e:Int):Option (Config×List Int×Int):=callC tn 25 [.ptr 0 0,dI a] [[.d (.lf (.l (c:=.i64) b)),dI e]] o18'
def z1e(a:Int)(b:List Int)(e:Int):Option (Int×List Int×Int):=callC tn 29 [.ptr 0 0,dI a] [[.d (.lf (.l (c:=.i64) b)),dI e]] o13'
def z59(a:Int):Option (List Int):=callC tn 20 [dI a] [] o3'
def z87(a:Config)(b:List Int)(e:Int):Option (Int×List Int×Int):=callC tn 26 [.ptr 0 0,dA .Config a] [[.d (.lf (.l (c:=.i64) b)),dI e]] o13'
def z7v(a b:Config)(c:Int):Option (Int×Int):=callC tn 19 [dA .Config a,dA .Config b,dI c] [] o7'
def z2t(a b:List Int)(e:Int):Option (Int×List Int×Int):=callC tn 56 [.ptr 0 0,.d (.lf (.l (c:=.i64) a))] [[.d (.lf (.l (c:=.i64) b)),dI e]] o13'
def z7w(a:Config)(e f:Int)(g:Bool)(h:List Int)(i:Int):Option (List Play×List Int×Int):=callC tn 27 [.ptr 0 0,dA .Config a,dI e,dI f,.d (.lf (.b g))] [[.d (.lf (.l (c:=.i64) h)),dI i]] o19'
def z6o(a:Config)(b:Int):Option (Meeting×Int):=callC tn 41 [dA .Config a,dI b] [] o12'
def z60(a:Meeting):Option (Bool):=callC tn 51 [dA .Meeting a] [] o1'
def z7z(a:Int)(b:List Int)(e:Int):Option (Unit×Unit×List Int×Int×List Member):=callC tn 70 [.ptr 0 0,dI a] [[.d (.lf (.l (c:=.i64) b)),dI e]] o26'
def z6p(a b:Config)(c:Int):Option (Int×Int):=callC tn 68 [dA .Config a,dA .Config b,dI c] [] o7'
def z5k(a:Config):Option (Int):=callC tn 69 [dA .Config a] [] o0'
def z50(a:Config):Option (Int):=callC tn 91 [dA .Config a] [] o0'
def z21(a b:Int)(e:List Int)(f:Int):Option (Int×List Int×Int):=callC tn 87 [.ptr 0 0,dI a,dI b] [[.d (.lf (.l (c:=.i64) e)),dI f]] o13'
def z7k(a b:Config)(c:Int):Option (Int):=callC tn 123 [dA .Config a,dA .Config b,dI c] [] o0'
def z52(a:Config)(b:Int):Option (Bool×Int):=callC tn 16 [dA .Config a,dI b] [] o20'
def z80(a b:Config)(c:Int):Option (List Int×Int):=callC tn 124 [dA .Config a,dA .Config b,dI c] [] o27'
def z76(a b:Config):Option (Int):=callC tn 62 [dA .Config a,dA .Config b] [] o0'
def z4d(a:Config):Option (Int):=callC tn 35 [dA .Config a] [] o0'
def z7a(a:Config)(b:Int):Option (Int):=callC tn 63 [dA .Config a,dI b] [] o0'
def z7b(a:Config)(b:Int):Option (Config):=callC tn 65 [dA .Config a,dI b] [] o14'
def z7l(a:Config):Option (Bool×Int):=callC tn 64 [dA .Config a] [] o20'
def z7m(a b:Config)(c:Int):Option (Int):=callC tn 172 [dA .Config a,dA .Config b,dI c] [] o0'
def z4u(a:Config):Option (Int):=callC tn 119 [dA .Config a] [] o0'
def z6c(a:Int):Option (List Int):=callC tn 168 [dI a] [] o3'
def z2v(a:Config):Option (Int):=callC tn 71 [dA .Config a] [] o0'
def z2d(a:Int):Option (Bool):=callC tn 81 [dI a] [] o1'
def z7n(a:Config):Option (Int×Int):=callC tn 121 [dA .Config a] [] o7'
def z4v(a:Config):Option (Int):=callC tn 169 [dA .Config a] [] o0'
def z5w(a b:Trust):Option (Bool):=callC tn 33 [dA .Trust a,dA .Trust b] [] o1'
def z6f(a b:Int):Option (Bool):=callC tn 34 [dI a,dI b] [] o1'
def law20_awake:Option (Bool):=callC tn 18 [] [] o1'
def z7c(a:List Claim):Option (List Claim):=callC tn 24 [.d (.lf (.l (c:=.Claim) a))] [] o5'
def z7g(a b:List Int):Option (Bool):=callC tn 80 [.d (.lf (.l (c:=.i64) a)),.d (.lf (.l (c:=.i64) b))] [] o1'
def law20_three:Option (Config):=callC tn 67 [] [] o14'
def z4w(a:List Claim)(b:Claim):Option (Bool):=callC tn 28 [.d (.lf (.l (c:=.Claim) a)),dA .Claim b] [] o1'
def z6q(a:Config)(b:Int):Option (Int):=callC tn 75 [dA .Config a,dI b] [] o0'
def z5q(a:Config)(b:Int):Option (List Int):=callC tn 130 [dA .Config a,dI b] [] o3'
def z23(a b:Int)(c:List Play)(d:List Int)(e f:Int)(g:List Int)(h:Int)(i:List Member)(j k:Int):Option (Bool):=gp 6 Tryz.f6 0 o1' [1,1,1,1,1,1,1,0,1,0] [3] ⟨[(3,fP 0),(4,fP 1),(5,fI a),(6,fI b),(8,fP 2),(9,.fl (.own .Play c false)),(36,fL .i64 d),(37,fI e),(38,fI f)],[[dL .i64 g,dI h],[dL .Member i],[dI j,dI k]]⟩
def z3w(a:List Int)(b:List Play)(c d:Int)(e:List Member)(f:List Voter)(g h:Int)(i:List Voter)(j k:Int):Option (Meeting×List Int×Int):=gp 13 Tryz.f13 0 o25' [1,1,1,1,1,0,1,0] [3] ⟨[(6,fP 1),(9,fP 2),(11,.fl (.own .i64 a false)),(30,fL .Play b),(31,fI c),(32,fI d)],[[dL .Member e],[.own .Voter f false,dI g,dI h],[dL .Voter i,dI j,dI k]]⟩
def z5l(a:Meeting)(b:Play):Option (Meeting×Int):=callC tn 57 [dA .Meeting a,dA .Play b] [] o12'
def z53(a:Meeting):Option (Meeting):=callC tn 58 [dA .Meeting a] [] o21'
def z6r(a:Meeting)(b:Play):Option (Int):=callC tn 113 [dA .Meeting a,dA .Play b] [] o0'
def z67(a:Meeting)(b:Play):Option (Int×Voter×Int):=callC tn 114 [dA .Meeting a,dA .Play b] [] o39'
def z3c(a:List Voter):Option (Unit×List Voter):=callC tn 115 [.d (.lf (.l (c:=.Voter) a))] [] ⟨[.ref 0],[[.own .Voter false]]⟩
def z3r(a:Int):Option (Bool):=callC tn 162 [dI a] [] o1'
def z1t(a b:Int):Option (Bool):=callC tn 92 [dI a,dI b] [] o1'
def z7o(a:Voter)(b:Claim):Option (Voter×Int):=callC tn 163 [dA .Voter a,dA .Claim b] [] o15'
def z7s(a:Voter):Option (Message):=callC tn 165 [dA .Voter a] [] o16'
def z77(a:Voter)(b:Message):Option (Voter×Int):=callC tn 164 [dA .Voter a,dA .Message b] [] o15'
def z29(a:Trust):Option (Int):=callC tn 137 [dA .Trust a] [] o0'
def z3x(a:Trust)(b:Int):Option (Bool):=callC tn 106 [dA .Trust a,dI b] [] o1'
def z6s(a:Voter)(b:Trust):Option (Voter×Int):=callC tn 166 [dA .Voter a,dA .Trust b] [] o15'
def z2j(a:Message):Option (Bool):=callC tn 151 [dA .Message a] [] o1'
def z2h(a:Int):Option (Bool):=callC tn 136 [dI a] [] o1'
def z5e(a:Voter):Option (Bool):=callC tn 105 [dA .Voter a] [] o1'
def z68(a:Claim):Option (Bool):=callC tn 189 [dA .Claim a] [] o1'
def z1f(a:List Claim)(b e:Int):Option (Bool×Int×Int):=callC tn 143 [.d (.lf (.l (c:=.Claim) a)),.fn 199 [(0,0)]] [[dI b,dI e]] o28'
def z5x(a:List Claim)(b:Claim):Option (Bool):=callC tn 150 [.d (.lf (.l (c:=.Claim) a)),dA .Claim b] [] o1'
def z2u(a:Voter):Option (Voter):=callC tn 200 [dA .Voter a] [] o10'
def z6y(a:List Claim)(b:Claim):Option (List Claim):=callC tn 201 [.d (.lf (.l (c:=.Claim) a)),dA .Claim b] [] o5'
def z3l(a b:Voter):Option (Voter):=callC tn 202 [dA .Voter a,dA .Voter b] [] o10'
def z6z(a:Voter):Option (Message):=callC tn 155 [dA .Voter a] [] o16'
def z3n(a:Message):Option (Message):=callC tn 208 [dA .Message a] [] o16'
def z1a(a:List Message)(b:Int):Option (Int×Bool):=callC tn 203 [.d (.lf (.l (c:=.Message) a)),dI b,.fn 204 []] [] o17'
def z1s(a:List Message):Option (Unit×List Message):=callC tn 206 [.d (.lf (.l (c:=.Message) a))] [] ⟨[.ref 0],[[.own .Message false]]⟩
def z5f(a:Int)(b e:List Message):Option (List Message×Unit):=callC tn 207 [.ref 0,dI a,.d (.lf (.l (c:=.Message) b))] [[.own .Message e false]] ⟨[.lf (.l .Message)],[[.undef]]⟩
def z5h(a:Trust):Option (Int):=callC tn 179 [dA .Trust a] [] o0'
def z61(a:Trust):Option (Int):=callC tn 180 [dA .Trust a] [] o0'
def z5i(a:Trust):Option (Int):=callC tn 181 [dA .Trust a] [] o0'
def z54(a:Trust):Option (Int):=callC tn 152 [dA .Trust a] [] o0'
def z45(a b:Trust):Option (Bool):=callC tn 194 [dA .Trust a,dA .Trust b] [] o1'
def z62(a:Int):Option (Bool):=callC tn 192 [dI a] [] o1'
def z4h(a:List Claim):Option (Bool):=callC tn 147 [.d (.lf (.l (c:=.Claim) a))] [] o1'
def z5m(a b:Int):Option (Bool):=callC tn 178 [dI a,dI b] [] o1'
def z6n(a:List Claim):Option (Bool):=callC tn 148 [.d (.lf (.l (c:=.Claim) a))] [] o1'
def z1m(a:List Claim)(b e f:Int)(g:List Int)(h:List Trust)(i j k:List Claim)(m:List Message):Option (Bool×Int×Int×Int×List Int×List Trust×List Claim×List Claim×List Claim×List Message):=callC tn 143 [.d (.lf (.l (c:=.Claim) a)),.fn 149 [(0,0)]] [[dI b,dI e,dI f,.d (.lf (.l (c:=.i64) g)),.d (.lf (.l (c:=.Trust) h)),.d (.lf (.l (c:=.Claim) i)),.d (.lf (.l (c:=.Claim) j)),.d (.lf (.l (c:=.Claim) k)),.d (.lf (.l (c:=.Message) m))]] o29'
def z1o(a:List Claim)(b e:Int):Option (Int×Int×Int):=callC tn 188 [.d (.lf (.l (c:=.Claim) a)),.fn 199 [(0,0)]] [[dI b,dI e]] o30'
def z2o(a:List Claim)(b:Claim):Option (Bool):=callC tn 191 [.d (.lf (.l (c:=.Claim) a)),dA .Claim b] [] o1'
def z5g(a:Trust):Option (Trust):=callC tn 138 [dA .Trust a] [] o4'
def z0k(a:List Claim):Option (Unit×List Claim):=callC tn 116 [.d (.lf (.l (c:=.Claim) a))] [] o24'
def z7d(a b:List Claim):Option (List Claim):=callC tn 228 [.d (.lf (.l (c:=.Claim) a)),.d (.lf (.l (c:=.Claim) b))] [] o5'
def z6t(a:Voter):Option (Voter):=callC tn 229 [dA .Voter a] [] o10'
def z2i(a b:List Claim):Option (Bool):=callC tn 156 [.d (.lf (.l (c:=.Claim) a)),.d (.lf (.l (c:=.Claim) b))] [] o1'
def z1j(a:List Int):Option (Bool):=callC tn 214 [.d (.lf (.l (c:=.i64) a)),.fn 215 []] [] o1'
def z7t(a:List Int):Option (Int×Int):=callC tn 216 [.d (.lf (.l (c:=.i64) a))] [] o7'
def z3q(a b:List Int):Option (Bool):=callC tn 221 [.d (.lf (.l (c:=.i64) a)),.d (.lf (.l (c:=.i64) b))] [] o1'
def z1d(a b:List Trust):Option (Bool):=callC tn 222 [.d (.lf (.l (c:=.Trust) a)),.d (.lf (.l (c:=.Trust) b)),.fn 194 []] [] o1'
def z1n(a:List Claim)(b e f:Int)(g:List Int)(h:List Trust)(i j k:List Claim)(m:List Message):Option (Int×Int×Int×Int×List Int×List Trust×List Claim×List Claim×List Claim×List Message):=callC tn 188 [.d (.lf (.l (c:=.Claim) a)),.fn 149 [(0,0)]] [[dI b,dI e,dI f,.d (.lf (.l (c:=.i64) g)),.d (.lf (.l (c:=.Trust) h)),.d (.lf (.l (c:=.Claim) i)),.d (.lf (.l (c:=.Claim) j)),.d (.lf (.l (c:=.Claim) k)),.d (.lf (.l (c:=.Message) m))]] o31'
def z3d(a:List Claim)(b:Claim):Option (Int):=callC tn 220 [.d (.lf (.l (c:=.Claim) a)),dA .Claim b] [] o0'
def z24(a:List Int):Option (Unit×List Int):=callC tn 139 [.d (.lf (.l (c:=.i64) a))] [] ⟨[.ref 0],[[.own .i64 false]]⟩
def z79(a:List (List Claim)):Option (Unit×List Claim):=callC tn 242 [.d (.lf (.l (c:=.l_Claim) a))] [] o24'
def z6d(a:List Claim):Option (List Claim):=callC tn 241 [.d (.lf (.l (c:=.Claim) a))] [] o5'
def z63(a:Int)(b:Trust)(e:List Message):Option (Config):=callC tn 243 [dI a,dA .Trust b,.d (.lf (.l (c:=.Message) e))] [] o14'
def z6l(a:Voter)(b:Config):Option (Claim×Bool):=callC tn 244 [dA .Voter a,dA .Config b] [] o32'
def z1u(a:List Int):Option (Int):=callC tn 234 [.d (.lf (.l (c:=.i64) a)),.fn 215 []] [] o0'
def z1k(a:List Claim):Option (Unit×List Claim):=callC tn 251 [.ref 0,.fn 252 []] [[.own .Claim a false]] o24'
def z1g(a:List Claim):Option (List Claim):=callC tn 253 [.ref 0,.fn 190 []] [[.own .Claim a false]] o2'
def z73(a:List Claim):Option (List Claim×Unit):=callC tn 254 [.ref 0] [[.own .Claim a false]] ⟨[.lf (.l .Claim)],[[.undef]]⟩
def z6u(a:List Message):Option (List Claim):=callC tn 257 [.d (.lf (.l (c:=.Message) a))] [] o5'
def z1r(a:List Claim):Option (Int×List Claim):=callC tn 188 [.ref 0,.fn 252 []] [[.own .Claim a false]] o9'
def z7x(a:Int):Option (Int):=callC tn 267 [.d (.lf (.i .u64 a))] [] o0'
def z01(a b c:Int)(d:List Claim):Option (List Claim):=callC tn 266 [.ref 0,dI a,dI b,dI c,.fn 190 []] [[.own .Claim d false]] o2'
def z7u(a:Int):Option (Int):=callC tn 279 [.d (.lf (.i .u64 a))] [] o0'
def z3e(a:Bool)(b:List Voter)(c d:Int)(e:List Voter)(f g:Int):Option (Meeting×Int):=gp 14 Tryz.f14 0 o12' [1,1,0,1,0] [2] ⟨[(1,fP 0),(2,fP 1),(4,fB a)],[[dL .Voter b,dI c,dI d],[.own .Voter e false,dI f,dI g]]⟩
def z64(a:Meeting):Option (Meeting×Bool):=callC tn 59 [dA .Meeting a] [] o22'
def z5n(a:Int):Option (List Int):=callC tn 103 [dI a] [] o3'
def z7h(a:Trust):Option (Int):=callC tn 79 [dA .Trust a] [] o0'
def z4e(a:Trust):Option (Int):=callC tn 82 [dA .Trust a] [] o0'
def z6m(a:Trust):Option (Int):=callC tn 129 [dA .Trust a] [] o0'
def z70(a:Trust):Option (Int):=callC tn 128 [dA .Trust a] [] o0'
def z4f(a:Trust):Option (Int):=callC tn 133 [dA .Trust a] [] o0'
def z71(a:List Int)(b:Int)(c d:List Member):Option (Config×List Int×Int):=gp 25 Tryz.f25 1 o18' [1,1,0,0] [3] ⟨[(4,fP 1),(5,fP 2)],[[dL .i64 a,dI b],[.own .Member c false],[.own .Member d false]]⟩
def z46(a:Int)(b:List Int)(c:Int):Option (List Int):=gp 20 Tryz.f20 0 o3' [1,1,0,1,0] [0] ⟨[(0,fI a),(3,.fl (.own .i64 b false)),(4,fI c)],[]⟩
def z6x(a b c:Int)(d:List Int)(e:Int)(f:List Member):Option (Int×List Int×Int):=gp 26 Tryz.f26 1 o13' [1,1,1,0,1,0] [2] ⟨[(0,fP 0),(3,fP 1),(5,fI a),(6,fI b),(7,fI c)],[[dL .i64 d,dI e],[dL .Member f]]⟩
def z0w(a b:Int)(c:Bool)(d:List Play)(e f:Int)(g:List Int)(h:Int)(i:List Member):Option (List Play×List Int×Int):=gp 27 Tryz.f27 1 o19' [1,1,1,0,1,0] [2] ⟨[(0,fP 0),(2,fI a),(3,fI b),(4,fB c),(11,.fl (.own .Play d false)),(12,fI e),(13,fI f)],[[dL .i64 g,dI h],[dL .Member i]]⟩
def z5y(a:Int)(b:List Int)(e:Int):Option (Trust×List Int×Int):=callC tn 72 [.ptr 0 0,dI a] [[.d (.lf (.l (c:=.i64) b)),dI e]] o6'
def z7e(a b:Int)(e:List Int)(f:Int):Option (Trust×List Int×Int):=callC tn 125 [.ptr 0 0,dI a,dI b] [[.d (.lf (.l (c:=.i64) e)),dI f]] o6'
def z7f(a b:Int)(e:List Int)(f:Int):Option (Trust×List Int×Int):=callC tn 174 [.ptr 0 0,dI a,dI b] [[.d (.lf (.l (c:=.i64) e)),dI f]] o6'
def z74(a:Int)(b:List Int)(e:Int):Option (List Int×List Int×Int):=callC tn 213 [.ptr 0 0,dI a] [[.d (.lf (.l (c:=.i64) b)),dI e]] o23'
def z2z(a:Int)(b:List Member)(c d:Int)(e:List Member)(f:List Voter)(g h:Int)(i:List Voter)(j k:Int):Option (Meeting×Int):=gp 41 Tryz.f41 0 o12' [1,1,1,1,0,1,0] [3] ⟨[(1,fI a),(4,fP 1),(7,fP 2),(39,fL .Member b),(40,fI c),(41,fI d)],[[dL .Member e],[.own .Voter f false,dI g,dI h],[.own .Voter i false,dI j,dI k]]⟩
def z88(a:Int):Option (Trust):=callC tn 93 [dI a] [] o4'
def z6v(a:Int)(b:Trust):Option (Voter×Int):=callC tn 94 [dI a,dA .Trust b] [] o15'
def z30(a:List Voter)(b c:Int)(d:List Voter)(e f g:Int):Option (Bool):=gp 51 Tryz.f51 0 o1' [1,1,1,0,1,0] [2] ⟨[(3,fP 1),(48,fL .Voter a),(49,fI b),(50,fI c)],[[dL .Voter d,dI e,dI f],[dI g]]⟩
def z1h(a:List Message)(b:Int):Option (Bool×Int):=callC tn 107 [.d (.lf (.l (c:=.Message) a)),.fn 108 [(0,0)]] [[dI b]] o33'
def z1l(a:List Message)(b:Int):Option (Int×Int):=callC tn 153 [.d (.lf (.l (c:=.Message) a)),.fn 108 [(0,0)]] [[dI b]] o34'
def z1y(a b c:Int)(d:List Int)(e:Int)(f g:List Member):Option (Unit×Unit×List Int×Int×List Member):=gp 70 Tryz.f70 1 o26' [1,1,1,1,0,1,0] [3] ⟨[(0,fP 0),(4,fP 1),(5,fI a),(6,fI b),(7,fP 2),(8,fI c)],[[dL .i64 d,dI e],[.own .Member f false],[.own .Member g false]]⟩
def z86(a:Int)(b:List Int)(e:Int):Option (Trust×List Int×Int):=callC tn 126 [.ptr 0 0,dI a] [[.d (.lf (.l (c:=.i64) b)),dI e]] o6'
def z83(a b:Int)(e:List Int)(f:Int):Option (Trust×List Int×Int):=callC tn 127 [.ptr 0 0,dI a,dI b] [[.d (.lf (.l (c:=.i64) e)),dI f]] o6'
def z3s(a:Int)(b:List Int)(c d:Int)(e f:List Member):Option (Int×Int):=gp 68 Tryz.f68 0 o7' [1,1,1,1,1,0,1,0] [2] ⟨[(9,fI a),(41,fL .i64 b),(42,fI c),(43,fI d)],[[dL .Member e],[dL .Member f]]⟩
def z2e(a:List Member)(b c:Int)(d:List Member):Option (Int):=gp 91 Tryz.f91 0 o0' [1,1,0,1,0] [1] ⟨[(1,fP 0),(11,fL .Member a),(12,fI b),(13,fI c)],[[dL .Member d]]⟩
def z4i(a:Member)(b:Int):Option (Int):=callC tn 135 [dA .Member a,dI b] [] o0'
def z51(a:Trust):Option (Bool):=callC tn 177 [dA .Trust a] [] o1'
def z4j(a:Int)(b c:List Int)(d e:Int)(f g:List Member):Option (List Int×Int):=gp 124 Tryz.f124 0 o27' [1,1,1,0,1,0] [2] ⟨[(2,fI a),(3,fP 0),(4,fP 1),(9,.fl (.own .i64 b false)),(21,fL .i64 c),(22,fI d),(23,fI e)],[[dL .Member f],[dL .Member g]]⟩
def z84(a b:Config)(c:Int):Option (Bool):=callC tn 173 [dA .Config a,dA .Config b,dI c] [] o1'
def z6g(a:Config)(b:Int):Option (Bool×Int):=callC tn 212 [dA .Config a,dI b] [] o20'
def z4k(a:Config)(b:Int):Option (Bool):=callC tn 170 [dA .Config a,dI b] [] o1'
def z3o(a b:Int)(c d:List Member):Option (Int):=gp 62 Tryz.f62 0 o0' [1,1,1,1,1,0,1,0] [2] ⟨[(2,fP 0),(3,fP 1),(39,fI a),(40,fI b)],[[dL .Member c],[dL .Member d]]⟩
def z47(a:List Member)(b c:Int)(d:List Member):Option (Int):=gp 35 Tryz.f35 0 o0' [1,1,0,1,0] [1] ⟨[(1,fP 0),(11,fL .Member a),(12,fI b),(13,fI c)],[[dL .Member d]]⟩
def z2k(a:Int)(b:List Member)(c d:Int)(e f g:List Member):Option (Config):=gp 65 Tryz.f65 0 o14' [1,1,1,0,1,0] [3] ⟨[(1,fI a),(4,fP 1),(5,fP 2),(13,fL .Member b),(14,fI c),(15,fI d)],[[dL .Member e],[.own .Member f false],[.own .Member g false]]⟩
def z7p(a:Trust)(b c:Int):Option (Trust):=callC tn 122 [dA .Trust a,dI b,dI c] [] o4'
def z7i(a:Trust)(b:Int):Option (Trust):=callC tn 171 [dA .Trust a,dI b] [] o4'
def z3f(a:Int)(b:List Int)(c:Int):Option (List Int):=gp 168 Tryz.f168 0 o3' [1,1,0,1,0] [0] ⟨[(0,fI a),(3,.fl (.own .i64 b false)),(4,fI c)],[]⟩
def z7j(a:Int):Option (Int):=callC tn 210 [dI a] [] o0'
def z2f(a:Int)(b:List Member)(c d:Int)(e:List Member):Option (Int):=gp 71 Tryz.f71 0 o0' [1,1,0,1,0] [1] ⟨[(3,fI a),(7,fL .Member b),(8,fI c),(9,fI d)],[[dL .Member e]]⟩
def z48(a:List Int)(b c:Int)(d:List Member):Option (Int×Int):=gp 121 Tryz.f121 0 o7' [1,0,1,0] [1] ⟨[(1,fP 0),(9,fL .i64 a),(10,fI b),(11,fI c)],[[dL .Member d]]⟩
def z3y(a b c:Int)(d:List Int)(e:List Trust)(f:Int)(g:List Int)(h:List Trust):Option (Bool):=gp 33 Tryz.f33 0 o1' [1,1,0,1,0] [2] ⟨[(2,fP 0),(3,fP 1),(30,fI a),(31,fI b)],[[dI c,dL .i64 d,dL .Trust e],[dI f,dL .i64 g,dL .Trust h]]⟩
def z39(a b:List Claim)(c:Int):Option (List Claim):=gp 24 Tryz.f24 0 o5' [1,1,0,1,0] [0] ⟨[(0,fL .Claim a),(3,.fl (.own .Claim b false)),(4,fI c)],[]⟩
def z4x(a b:List Int)(c d:Int):Option (Bool):=gp 80 Tryz.f80 0 o1' [1,1,0,1,0] [0] ⟨[(0,fL .i64 a),(1,fL .i64 b),(12,fI c),(13,fI d)],[]⟩
def z69(a:List Claim)(b c d e:Int):Option (Bool):=gp 28 Tryz.f28 0 o1' [1,0,1,0] [1] ⟨[(3,fP 0),(7,fL .Claim a),(8,fI b),(9,fI c)],[[dI d,dI e]]⟩
def z4r(a:Int)(b:List Int)(c d:Int)(e:List Member):Option (Int):=gp 75 Tryz.f75 0 o0' [1,1,1,0,1,0] [1] ⟨[(5,fI a),(17,fL .i64 b),(18,fI c),(19,fI d)],[[dL .Member e]]⟩
def z2q(a:Int)(b:List Int)(c:Bool)(d:List Member):Option (List Int):=gp 130 Tryz.f130 0 o3' [1,1,1,1,0,1,0] [1] ⟨[(2,fP 0),(5,fI a),(6,.fl (.own .i64 b false)),(7,fB c)],[[dL .Member d]]⟩
def z1v(a b:Int)(c:List Play)(d e:Int)(f:List Int)(g:Int)(h:List Member)(i j:Int):Option (Bool):=gp 6 Tryz.f6 0 o1' [1,1,1,1,1,1,1,1,1,0,1,0] [3] ⟨[(4,fP 1),(5,fI a),(6,fI b),(8,fP 2),(9,.fl (.own .Play c false)),(56,fI d),(57,fI e)],[[dL .i64 f,dI g],[dL .Member h],[dI i,dI j]]⟩
def z31(a:List Voter)(b c:Int)(d:List Voter)(e f:Int)(g:List Voter)(h i:Int):Option (Meeting):=gp 58 Tryz.f58 0 o21' [1,1,1,0,1,0] [2] ⟨[(1,fP 0),(2,fP 1),(12,fL .Voter a),(13,fI b),(14,fI c)],[[.own .Voter d false,dI e,dI f],[.own .Voter g false,dI h,dI i]]⟩
def z55(a:Trust):Option (Trust):=callC tn 96 [dA .Trust a] [] o4'
def z2a(a:List Message)(b c d e f:Int)(g:List Int)(h:List Trust)(i j k:List Claim)(l:List Message):Option (Bool):=gp 105 Tryz.f105 0 o1' [1,1,1,1,0,1,0] [1] ⟨[(1,fP 0),(62,fL .Message a),(63,fI b),(64,fI c)],[[dI d,dI e,dI f,dL .i64 g,dL .Trust h,dL .Claim i,dL .Claim j,dL .Claim k,dL .Message l]]⟩
def z4l(a:List Message)(b c d e f:Int)(g:List Int)(h:List Trust)(i j k:List Claim)(l:List Message)(m n o:Int)(p:List Int)(q:List Trust)(r s t:List Claim)(u:List Message):Option (Voter):=gp 200 Tryz.f200 0 o10' [1,1,1,1,0,1,0] [2] ⟨[(1,fP 0),(2,fP 1),(25,fL .Message a),(26,fI b),(27,fI c)],[[dI d,dI e,dI f,dL .i64 g,dL .Trust h,.own .Claim i false,.own .Claim j false,.own .Claim k false,.own .Message l false],[dI m,dI n,dI o,.own .i64 p false,.own .Trust q false,.own .Claim r false,.own .Claim s false,.own .Claim t false,.own .Message u false]]⟩
def z0f(a:List Message)(b c d e:Int):Option (Int×Bool):=gp 203 Tryz.f203 0 o17' [1,1,1,0,0] [0] ⟨[(0,fL .Message a),(1,fI b),(2,.fl (.fn 204 [])),(8,fI c),(9,fI d),(10,fI e)],[]⟩
def z6e(a:Message)(b:Int):Option (Int):=callC tn 204 [dA .Message a,dI b] [] o0'
def z41(a b:Int):Option (Int):=callC tn 205 [dI a,dI b] [] o0'
def z65(a:Int):Option (Bool):=callC tn 230 [dI a] [] o1'
def z3g(a:Int)(b:List Trust)(c d e:Int)(f:List Int)(g:List Trust):Option (Int):=gp 179 Tryz.f179 0 o0' [1,1,0,1,0] [1] ⟨[(3,fI a),(7,fL .Trust b),(8,fI c),(9,fI d)],[[dI e,dL .i64 f,dL .Trust g]]⟩
def z3t(a:Int)(b:List Trust)(c d e:Int)(f:List Int)(g:List Trust):Option (Int):=gp 180 Tryz.f180 0 o0' [1,1,0,1,0] [1] ⟨[(3,fI a),(14,fL .Trust b),(15,fI c),(16,fI d)],[[dI e,dL .i64 f,dL .Trust g]]⟩
def z3h(a:List Trust)(b c d:Int)(e:List Int)(f:List Trust):Option (Int):=gp 181 Tryz.f181 0 o0' [1,1,1,1,0,1,0] [1] ⟨[(36,fL .Trust a),(37,fI b),(38,fI c)],[[dI d,dL .i64 e,dL .Trust f]]⟩
def z32(a:Int)(b:List Int)(c d e:Int)(f:List Int)(g:List Trust):Option (Int):=gp 152 Tryz.f152 0 o0' [1,1,0,1,0] [1] ⟨[(1,fP 0),(3,fI a),(9,fL .i64 b),(10,fI c),(11,fI d)],[[dI e,dL .i64 f,dL .Trust g]]⟩
def z66(a:Int):Option (Bool):=callC tn 193 [dI a] [] o1'
def z2l(a b:List Claim)(c d:Int):Option (Bool):=gp 147 Tryz.f147 0 o1' [1,0,1,0] [0] ⟨[(0,fL .Claim a),(5,fL .Claim b),(6,fI c),(7,fI d)],[]⟩
def z09(a b:Claim):Option (Int):=callC tn 190 [dA .Claim a,dA .Claim b] [] o0'
def z7q(a:List Int):Option (Int):=callC tn 219 [.d (.lf (.l (c:=.i64) a))] [] o0'
def z0x(a:List Claim)(b c d e:Int):Option (Int×Int×Int):=gp 188 Tryz.f188 1 o30' [1,0,1,0] [1] ⟨[(0,fL .Claim a),(1,.fl (.fn 199 [(0,0)])),(7,fI b),(8,fI c)],[[dI d,dI e]]⟩
def z75(a:Claim)(b c:Int):Option (Bool×Int×Int):=callC tn 199 [dA .Claim a,.ptr 0 0] [[dI b,dI c]] o28'
def z5r(a b:Claim):Option (Bool):=callC tn 146 [dA .Claim a,dA .Claim b] [] o1'
def z4m(a:List Trust)(b c d:Int)(e:List Int)(f:List Trust)(g:Int)(h:List Int)(i:List Trust)(j:Int)(k:List Int)(l:List Trust):Option (Trust):=gp 138 Tryz.f138 0 o4' [1,1,0,1,0] [3] ⟨[(2,fP 1),(3,fP 2),(13,fL .Trust a),(14,fI b),(15,fI c)],[[dI d,dL .i64 e,dL .Trust f],[dI g,.own .i64 h false,.own .Trust i false],[dI j,.own .i64 k false,.own .Trust l false]]⟩
def z4s(a:Bool)(b c d:Int)(e:List Int)(f:List Trust)(g h i:List Claim)(j:List Message)(k l m:Int)(n:List Int)(o:List Trust)(p q r:List Claim)(s:List Message)(t:List Member)(u v:Int):Option (Voter):=gp 229 Tryz.f229 0 o10' [1,1,0,1,0] [4] ⟨[(1,fP 0),(2,fP 1),(3,fP 2),(4,fP 3),(5,fB a)],[[dI b,dI c,dI d,dL .i64 e,dL .Trust f,dL .Claim g,dL .Claim h,dL .Claim i,dL .Message j],[dI k,dI l,dI m,.own .i64 n false,.own .Trust o false,.own .Claim p false,.own .Claim q false,.own .Claim r false,.own .Message s false],[dL .Member t],[dI u,dI v]]⟩
def z1z(a b:List Claim)(c d:Int):Option (Bool):=gp 156 Tryz.f156 0 o1' [1,1,0,1,0] [0] ⟨[(0,fL .Claim a),(1,fL .Claim b),(12,fI c),(13,fI d)],[]⟩
def z3z(a:Int)(b:List Int)(c d:Int):Option (Int×Int):=gp 216 Tryz.f216 0 o7' [1,1,0,1,0] [0] ⟨[(4,fI a),(7,fL .i64 b),(8,fI c),(9,fI d)],[]⟩
def z22(a b:List Int)(c d:Int):Option (Bool):=gp 221 Tryz.f221 0 o1' [1,1,0,1,0] [0] ⟨[(0,fL .i64 a),(1,fL .i64 b),(12,fI c),(13,fI d)],[]⟩
def z0h(a b:List Trust)(c d:Int):Option (Bool):=gp 222 Tryz.f222 0 o1' [1,1,0,1,0] [0] ⟨[(1,fL .Trust a),(2,.fl (.fn 194 [])),(15,fL .Trust b),(16,fI c),(17,fI d)],[]⟩
def z0t(a:List Claim)(b c d e f:Int)(g:List Int)(h:List Trust)(i j k:List Claim)(l:List Message):Option (Int×Int×Int×Int×List Int×List Trust×List Claim×List Claim×List Claim×List Message):=gp 188 Tryz.f188 1 o31' [1,0,1,0] [1] ⟨[(0,fL .Claim a),(1,.fl (.fn 149 [(0,0)])),(7,fI b),(8,fI c)],[[dI d,dI e,dI f,dL .i64 g,dL .Trust h,dL .Claim i,dL .Claim j,dL .Claim k,dL .Message l]]⟩
def z6w(a:Claim)(b e f:Int)(g:List Int)(h:List Trust)(i j k:List Claim)(m:List Message):Option (Bool×Int×Int×Int×List Int×List Trust×List Claim×List Claim×List Claim×List Message):=callC tn 149 [dA .Claim a,.ptr 0 0] [[dI b,dI e,dI f,.d (.lf (.l (c:=.i64) g)),.d (.lf (.l (c:=.Trust) h)),.d (.lf (.l (c:=.Claim) i)),.d (.lf (.l (c:=.Claim) j)),.d (.lf (.l (c:=.Claim) k)),.d (.lf (.l (c:=.Message) m))]] o29'
def z1q(a:List Claim)(b c d e:Int):Option (Int):=gp 220 Tryz.f220 0 o0' [1,0,1,0] [1] ⟨[(0,fL .Claim a),(3,fP 0),(7,fI b),(8,fI c)],[[dI d,dI e]]⟩
def z2g(a:Int)(b:List Message)(c d e:Int)(f:List Int)(g:List Trust)(h i:List Member):Option (Config):=gp 243 Tryz.f243 0 o14' [1,1,0,1,0] [3] ⟨[(0,fI a),(4,fP 0),(6,fP 1),(7,fP 2),(12,fL .Message b),(13,fI c),(14,fI d)],[[dI e,dL .i64 f,dL .Trust g],[.own .Member h false],[.own .Member i false]]⟩
def z42(a:Trust):Option (Trust):=callC tn 256 [dA .Trust a] [] o4'
def z3p(a:List Message)(b:List Claim)(c d e f g:Int)(h:List Int)(i:List Trust)(j k l:List Claim)(m:List Message)(n:List Member)(o p:Int):Option (Claim×Bool):=gp 244 Tryz.f244 0 o32' [1,1,0,1,0] [3] ⟨[(2,fP 0),(3,fP 1),(4,fP 2),(6,fL .Message a),(17,fL .Claim b),(18,fI c),(19,fI d)],[[dI e,dI f,dI g,dL .i64 h,dL .Trust i,dL .Claim j,dL .Claim k,dL .Claim l,dL .Message m],[dL .Member n],[dI o,dI p]]⟩
def z6h(a:List Message)(b:Claim):Option (Int):=callC tn 259 [.d (.lf (.l (c:=.Message) a)),dA .Claim b] [] o0'
def z49(a:List Message)(b:Claim):Option (Int):=callC tn 246 [.d (.lf (.l (c:=.Message) a)),dA .Claim b] [] o0'
def z4t(a:Config)(b c d:Int):Option (Bool):=callC tn 258 [dA .Config a,dI b,dI c,dI d] [] o1'
def z20(a:List Message)(b:Claim):Option (Int):=callC tn 260 [.d (.lf (.l (c:=.Message) a)),dA .Claim b,.fn 269 []] [] o0'
def z1w(a:List Message)(b:Claim):Option (Int):=callC tn 260 [.d (.lf (.l (c:=.Message) a)),dA .Claim b,.fn 261 []] [] o0'
def z5j(a:Config)(b c:Int):Option (Bool):=callC tn 268 [dA .Config a,dI b,dI c] [] o1'
def z56(a:Config)(b:Int):Option (Int):=callC tn 225 [dA .Config a,dI b] [] o0'
def z2w(a:Config):Option (Int):=callC tn 249 [dA .Config a] [] o0'
def z37(a:Trust)(b:Int):Option (Bool):=callC tn 265 [dA .Trust a,dI b] [] o1'
def z5s(a:Config)(b:Int):Option (Int×List Int):=callC tn 239 [dA .Config a,dI b] [] o35'
def z0m(a:List Int)(b c:Int):Option (Int):=gp 234 Tryz.f234 0 o0' [1,0,1,0] [0] ⟨[(0,fL .i64 a),(1,.fl (.fn 215 [])),(7,fI b),(8,fI c)],[]⟩
def z5t(a:Int):Option (Bool):=callC tn 215 [dI a] [] o1'
def z5u(a b:Int)(c:List Claim):Option (Unit×List Claim):=gp 251 Tryz.f251 1 o24' [1,1,1,0,1,0] [1] ⟨[(0,.fl (.ref 0)),(1,.fl (.fn 252 [])),(5,fI a),(6,fI b)],[[.own .Claim c false]]⟩
def z4n(a:List Claim)(b:List Message)(c d:Int):Option (List Claim):=gp 257 Tryz.f257 0 o5' [1,1,0,1,0] [0] ⟨[(3,.fl (.own .Claim a false)),(6,fL .Message b),(7,fI c),(8,fI d)],[]⟩
def z10(a b:Int)(c:List Claim):Option (Int×List Claim):=gp 188 Tryz.f188 1 o9' [1,0,1,0] [1] ⟨[(0,.fl (.ref 0)),(1,.fl (.fn 252 [])),(7,fI a),(8,fI b)],[[.own .Claim c false]]⟩
def z6i(a:Claim):Option (Bool):=callC tn 252 [dA .Claim a] [] o1'
def z00(a b c:Int)(d e:Bool)(f:List Claim):Option (List Claim):=gp 266 Tryz.f266 1 o2' [1,1,0] [1] ⟨[(0,.fl (.ref 0)),(1,fI a),(2,fI b),(3,fI c),(4,.fl (.fn 190 [])),(10,fB d),(11,fB e)],[[.own .Claim f false]]⟩
def z1b(a b:Int)(c:List Claim):Option (List Claim):=callC tn 270 [.ref 0,dI a,dI b,.fn 190 []] [[.own .Claim c false]] o2'
def z1i(a b:Int)(c:List Claim):Option (List Claim):=callC tn 271 [.ref 0,dI a,dI b,.fn 190 []] [[.own .Claim c false]] o2'
def z1c(a b:Int)(c:List Claim):Option (List Claim):=callC tn 272 [.ref 0,dI a,dI b,.fn 190 []] [[.own .Claim c false]] o2'
def z0q(a b:Int)(c:List Claim):Option (Int×Int×List Claim):=callC tn 273 [.ref 0,dI a,dI b,.fn 190 []] [[.own .Claim c false]] o40'
def z0n(a b:Int)(c:List Claim):Option (List Claim):=callC tn 274 [.ref 0,dI a,dI b,.fn 190 []] [[.own .Claim c false]] o2'
def z08(a b:Int)(c:List Claim):Option (Bool×List Claim):=callC tn 275 [.ref 0,dI a,dI b,.fn 190 []] [[.own .Claim c false]] o11'
def z04(a b c:Int)(d:List Claim):Option (Int×List Claim):=callC tn 276 [.ref 0,dI a,dI b,dI c,.fn 190 []] [[.own .Claim d false]] o9'
def z02(a b c:Int)(d:List Claim):Option (Int×Bool×List Claim):=callC tn 277 [.ref 0,dI a,dI b,dI c,.fn 190 []] [[.own .Claim d false]] o8'
def z4a(a:Int):Option (Int):=callC tn 281 [dI a] [] ⟨[.lf (.i .u64)],[]⟩
def z0l(a:Int)(b:List Claim)(c:Int):Option (Int×List Claim×Int):=callC tn 283 [.ref 0,dI a,.ptr 1 0,.fn 190 []] [[.own .Claim b false],[dI c]] o36'
def z12(a b c:Int)(d:List Claim)(e:Int):Option (Int×List Claim×Int):=callC tn 284 [.ref 0,dI a,dI b,dI c,.ptr 1 0,.fn 190 []] [[.own .Claim d false],[dI e]] o36'
def z13(a b:Int)(c:List Claim)(d:Int):Option (Int×Int×List Claim×Int):=callC tn 285 [.ref 0,dI a,dI b,.ptr 1 0,.fn 190 []] [[.own .Claim c false],[dI d]] o41'
def z33(a:List Int)(b:Bool)(c:List Int)(d e:Int)(f:List Voter)(g h:Int)(i:List Voter)(j k:Int):Option (Meeting×Bool):=gp 59 Tryz.f59 0 o22' [1,1,1,0,1,0] [2] ⟨[(1,fP 0),(2,fP 1),(4,fL .i64 a),(5,fB b),(21,fL .i64 c),(22,fI d),(23,fI e)],[[dL .Voter f,dI g,dI h],[.own .Voter i false,dI j,dI k]]⟩
def z3i(a:Int)(b:List Int)(c:Int):Option (List Int):=gp 103 Tryz.f103 0 o3' [1,1,0,1,0] [0] ⟨[(0,fI a),(3,.fl (.own .i64 b false)),(5,fI c)],[]⟩
def z3m(a:Int)(b:List Int)(c d e:Int)(f:List Int)(g:List Trust):Option (Int):=gp 79 Tryz.f79 0 o0' [1,1,0,1,0] [1] ⟨[(1,fP 0),(3,fI a),(9,fL .i64 b),(10,fI c),(11,fI d)],[[dI e,dL .i64 f,dL .Trust g]]⟩
def z57(a:Int)(b:List Trust)(c d e:Int)(f:List Int)(g:List Trust):Option (Int):=gp 129 Tryz.f129 0 o0' [1,1,0,1,0] [1] ⟨[(3,fI a),(7,fL .Trust b),(8,fI c),(9,fI d)],[[dI e,dL .i64 f,dL .Trust g]]⟩
def z5o(a:Int)(b:List Trust)(c d e:Int)(f:List Int)(g:List Trust):Option (Int):=gp 128 Tryz.f128 0 o0' [1,1,0,1,0] [1] ⟨[(3,fI a),(14,fL .Trust b),(15,fI c),(16,fI d)],[[dI e,dL .i64 f,dL .Trust g]]⟩
def z26(a:List Int)(b c d:Int)(e:List Int)(f:List Trust):Option (Int):=gp 133 Tryz.f133 0 o0' [1,1,0,1,0] [1] ⟨[(1,fP 0),(26,fL .i64 a),(27,fI b),(28,fI c)],[[dI d,dL .i64 e,dL .Trust f]]⟩
def z7r(a:List Int):Option (Int×Int):=callC tn 176 [.d (.lf (.l (c:=.i64) a))] [] o7'
def z5a(a b:Int)(c:List Int)(d:Int)(e f:List Member):Option (Config×List Int×Int):=gp 25 Tryz.f25 1 o18' [1,1,1,0,1,0] [3] ⟨[(4,fP 1),(5,fP 2),(22,fI a),(23,fI b)],[[dL .i64 c,dI d],[.own .Member e false],[.own .Member f false]]⟩
def z2x(a b:Int)(c:Bool)(d:List Play)(e f g:Int)(h:List Int)(i:Int)(j:List Member)(k l m n o p:Int)(q:List Int)(r:List Trust)(s t u:Int)(v:List Int)(w:List Trust)(x y:List Claim):Option (List Play×List Int×Int):=gp 27 Tryz.f27 1 o19' [1,1,1,0,1,0,0,1,0,0,1,1,0,1,0,1,1,1,1,1,1,1,1,1,0,1,0] [2,2,2,3,3] ⟨[(0,fP 0),(2,fI a),(3,fI b),(4,fB c),(11,.fl (.own .Play d false)),(12,fI e),(13,fI f),(14,fP 2),(15,fI g)],[[dL .i64 h,dI i],[dL .Member j],[dI k,dI l,dI m,dI n,dI o,dI p,.own .i64 q false,.own .Trust r false,dI s,dI t,dI u,.own .i64 v false,.own .Trust w false,.own .Claim x false,.own .Claim y false]]⟩
def z81(a:Int)(b:List Int)(e:Int):Option (List Claim×List Int×Int):=callC tn 73 [.ptr 0 0,dI a] [[.d (.lf (.l (c:=.i64) b)),dI e]] o37'
def z5b(a b:Int)(c:List Int)(d e:Int)(f:List Int)(g h:Int)(i:List Int)(j:List Trust)(k:Int)(l:List Int)(m:List Trust):Option (Trust×List Int×Int):=gp 174 Tryz.f174 1 o6' [1,1,1,0,1,0] [3] ⟨[(0,fP 0),(1,fI a),(2,fI b),(6,fP 1),(7,fP 2),(20,fL .i64 c),(21,fI d),(22,fI e)],[[dL .i64 f,dI g],[dI h,.own .i64 i false,.own .Trust j false],[dI k,.own .i64 l false,.own .Trust m false]]⟩
def z43(a:Int)(b:List Int)(c:Int)(d:List Int)(e:Int):Option (List Int×List Int×Int):=gp 213 Tryz.f213 1 o23' [1,1,0,1,0] [1] ⟨[(0,fP 0),(1,fI a),(5,.fl (.own .i64 b false)),(6,fI c)],[[dL .i64 d,dI e]]⟩
def z0j(a:List Message)(b c d:Int):Option (Int×Int):=gp 153 Tryz.f153 1 o34' [1,0,1,0] [1] ⟨[(0,fL .Message a),(1,.fl (.fn 108 [(0,0)])),(7,fI b),(8,fI c)],[[dI d]]⟩
def z6a(a:Message)(b:Int):Option (Bool×Int):=callC tn 108 [dA .Message a,.ptr 0 0] [[dI b]] o33'
def z5c(a b:Int)(c:List Int)(d e:Int)(f:List Int)(g:List Trust)(h:Int)(i:List Int)(j:List Trust):Option (Trust×List Int×Int):=gp 126 Tryz.f126 1 o6' [1,1,0,1,0] [3] ⟨[(0,fP 0),(1,fI a),(4,fP 1),(5,fP 2),(6,fI b)],[[dL .i64 c,dI d],[dI e,.own .i64 f false,.own .Trust g false],[dI h,.own .i64 i false,.own .Trust j false]]⟩
def z2y(a b:Int)(c:List Trust)(d:Int)(e:List Int)(f g:Int)(h:List Int)(i:List Trust):Option (Trust×List Int×Int):=gp 127 Tryz.f127 1 o6' [1,1,0,1,0] [2] ⟨[(0,fP 0),(1,fI a),(2,fI b),(6,fP 1),(7,.fl (.own .Trust c false)),(8,fI d)],[[dL .i64 e,dI f],[dI g,.own .i64 h false,.own .Trust i false]]⟩
def z3a(a:Int)(b:List Int)(c d:Int)(e:List Member):Option (Bool):=gp 170 Tryz.f170 0 o1' [1,1,0,1,0] [1] ⟨[(1,fI a),(2,fP 0),(23,fL .i64 b),(24,fI c),(25,fI d)],[[dL .Member e]]⟩
def z3b(a:Trust)(b:Int):Option (Bool):=callC tn 120 [dA .Trust a,dI b] [] o1'
def z4b(a b c d:Int)(e f:List Member):Option (Int):=gp 62 Tryz.f62 0 o0' [1,1,1,1,1,0,1,0,0,1,1,0,0,1,1,1,0] [2,2,2,2] ⟨[(2,fP 0),(3,fP 1),(7,fI a),(8,fI b),(39,fI c),(40,fI d)],[[dL .Member e],[dL .Member f]]⟩
def z4y(a:Int)(b:List Int)(c d e:Int)(f:List Int)(g:List Trust)(h:Int)(i:List Int)(j:List Trust)(k:Int)(l:List Int)(m:List Trust):Option (Trust):=gp 171 Tryz.f171 0 o4' [1,1,0,1,0] [3] ⟨[(1,fI a),(2,fP 0),(4,fP 1),(5,fP 2),(15,fL .i64 b),(16,fI c),(17,fI d)],[[dI e,dL .i64 f,dL .Trust g],[dI h,.own .i64 i false,.own .Trust j false],[dI k,.own .i64 l false,.own .Trust m false]]⟩
def z78(a:Int):Option (Int):=callC tn 211 [dI a] [] o0'
def z2r(a:Int)(b:List Int)(c d:Int):Option (List Int):=gp 168 Tryz.f168 0 o3' [1,1,0,1,0,0,1,0,0,1,0] [0,0,0,0] ⟨[(0,fI a),(3,.fl (.own .i64 b false)),(4,fI c),(5,fI d)],[]⟩
def z5p(a b c:Int):Option (Int):=gp 210 Tryz.f210 0 o0' [1,1,0,1,0] [0] ⟨[(0,fI a),(3,fI b),(4,fI c)],[]⟩
def z2m(a b:List Claim)(c d:Int):Option (List Claim):=gp 24 Tryz.f24 0 o5' [1,1,0,1,0,0,1,0,0,1,0] [0,0,0,0] ⟨[(0,fL .Claim a),(3,.fl (.own .Claim b false)),(4,fI c),(5,fI d)],[]⟩
def z2b(a:Int)(b:List Int)(c:Bool)(d:List Int)(e f:Int)(g:List Member):Option (List Int):=gp 130 Tryz.f130 0 o3' [1,1,1,1,0,1,0,0,1,0,1,1,0] [1,1,1,1] ⟨[(2,fP 0),(5,fI a),(6,.fl (.own .i64 b false)),(7,fB c),(19,fL .i64 d),(20,fI e),(21,fI f)],[[dL .Member g]]⟩
def z28(a:List Int)(b c:Int)(d:List Int)(e:Int)(f:List Member)(g h:Int)(i:List Voter)(j k:Int)(l:List Voter)(m n:Int):Option (Bool):=gp 6 Tryz.f6 0 o1' [1,1,1,1,1,1,1,1,1,1,1,1,1,0,1,0] [5] ⟨[(8,fP 2),(16,fP 4),(100,fL .i64 a),(101,fI b),(102,fI c)],[[dL .i64 d,dI e],[dL .Member f],[dI g,dI h],[dL .Voter i,dI j,dI k],[dL .Voter l,dI m,dI n]]⟩
def z3u(a:List Voter)(b c:Int)(d:List Message)(e f:Int)(g:List Voter)(h i:Int)(j:List Voter)(k l m n o:Int)(p:List Int)(q:List Trust)(r s t:List Claim)(u:List Message):Option (Meeting):=gp 58 Tryz.f58 0 o21' [1,1,1,0,1,0,0,1,1,0,0,1,1,1,1,0,1,0] [2,2,2,3] ⟨[(1,fP 0),(2,fP 1),(5,fP 2),(12,fL .Voter a),(13,fI b),(14,fI c),(37,fL .Message d),(38,fI e),(39,fI f)],[[.own .Voter g false,dI h,dI i],[.own .Voter j false,dI k,dI l],[dI m,dI n,dI o,dL .i64 p,dL .Trust q,.own .Claim r false,.own .Claim s false,.own .Claim t false,.own .Message u false]]⟩
def z3j(a:Message):Option (Message):=callC tn 117 [dA .Message a] [] o16'
def z3v(a:List Trust)(b c d:Int)(e:List Int)(f:List Trust)(g:Int)(h:List Int)(i:List Trust)(j:Int)(k:List Int)(l:List Trust):Option (Trust):=gp 96 Tryz.f96 0 o4' [1,1,0,1,0] [3] ⟨[(2,fP 1),(3,fP 2),(13,fL .Trust a),(14,fI b),(15,fI c)],[[dI d,dL .i64 e,dL .Trust f],[dI g,.own .i64 h false,.own .Trust i false],[dI j,.own .i64 k false,.own .Trust l false]]⟩
def z34(a:Int)(b:List Trust)(c d e:Int)(f:List Int)(g:List Trust):Option (Int):=gp 152 Tryz.f152 0 o0' [1,1,1,0,1,0] [1] ⟨[(3,fI a),(23,fL .Trust b),(24,fI c),(25,fI d)],[[dI e,dL .i64 f,dL .Trust g]]⟩
def z58(a:Int)(b:List Int)(c d:Int):Option (Int):=gp 219 Tryz.f219 0 o0' [1,1,0,1,0] [0] ⟨[(3,fI a),(6,fL .i64 b),(7,fI c),(8,fI d)],[]⟩
def z35(a:List Message)(b:List Claim)(c d e f g:Int)(h:List Int)(i:List Trust)(j k l:List Claim)(m:List Message)(n o p:Int)(q:List Int)(r:List Trust)(s t u:List Claim)(v:List Message)(w:List Member)(x y:Int):Option (Voter):=gp 229 Tryz.f229 0 o10' [1,1,1,1,0,1,0] [4] ⟨[(1,fP 0),(2,fP 1),(3,fP 2),(6,fL .Message a),(43,fL .Claim b),(44,fI c),(45,fI d)],[[dI e,dI f,dI g,dL .i64 h,dL .Trust i,dL .Claim j,dL .Claim k,dL .Claim l,dL .Message m],[dI n,dI o,dI p,.own .i64 q false,.own .Trust r false,.own .Claim s false,.own .Claim t false,.own .Claim u false,.own .Message v false],[dL .Member w],[dI x,dI y]]⟩
def z4c(a:Config)(b c:Int):Option (Bool):=callC tn 245 [dA .Config a,dI b,dI c] [] o1'
def z38(a:List Trust)(b c d:Int)(e:List Int)(f:List Trust)(g:Int)(h:List Int)(i:List Trust)(j:Int)(k:List Int)(l:List Trust):Option (Trust):=gp 256 Tryz.f256 0 o4' [1,1,0,1,0] [3] ⟨[(2,fP 1),(3,fP 2),(13,fL .Trust a),(14,fI b),(15,fI c)],[[dI d,dL .i64 e,dL .Trust f],[dI g,.own .i64 h false,.own .Trust i false],[dI j,.own .i64 k false,.own .Trust l false]]⟩
def z18(a:Int)(b:List Message)(c d e f:Int):Option (Int):=gp 260 Tryz.f260 0 o0' [1,1,0,1,0] [1] ⟨[(2,.fl (.fn 269 [])),(4,fP 0),(7,fI a),(10,fL .Message b),(11,fI c),(12,fI d)],[[dI e,dI f]]⟩
def z5v(a:Message):Option (List Claim):=callC tn 269 [dA .Message a] [] o5'
def z0y(a:Int)(b:List Message)(c d e f:Int):Option (Int):=gp 260 Tryz.f260 0 o0' [1,1,0,1,0] [1] ⟨[(2,.fl (.fn 261 [])),(4,fP 0),(7,fI a),(10,fL .Message b),(11,fI c),(12,fI d)],[[dI e,dI f]]⟩
def z4o(a:Message):Option (List Claim):=callC tn 261 [dA .Message a] [] o5'
def z1p(a:Int)(b:List Member)(c d:Int)(e:List Member):Option (Int):=gp 249 Tryz.f249 0 o0' [1,1,0,1,0] [1] ⟨[(3,fI a),(7,fL .Member b),(8,fI c),(9,fI d)],[[dL .Member e]]⟩
def z25(a b:Int)(c:List Int)(d e f:Int)(g:List Int)(h:List Trust):Option (Bool):=gp 265 Tryz.f265 0 o1' [1,1,1,0,1,0] [1] ⟨[(1,fI a),(2,fP 0),(5,fI b),(14,fL .i64 c),(15,fI d),(16,fI e)],[[dI f,dL .i64 g,dL .Trust h]]⟩
def z2s(a:Int)(b:List Int)(c:List Member):Option (Int×List Int):=gp 239 Tryz.f239 0 o35' [1,1,1,1,0] [1] ⟨[(1,fI a),(2,fP 0),(6,.fl (.own .i64 b false))],[[dL .Member c]]⟩
def z6j(a:Config)(b:Int):Option (Int×Bool):=callC tn 238 [dA .Config a,dI b] [] o17'
def z0d(a b c:Int)(d:List Claim):Option (List Claim):=gp 270 Tryz.f270 1 o2' [1,0] [1] ⟨[(0,.fl (.ref 0)),(1,fI a),(2,fI b),(3,.fl (.fn 190 [])),(8,fI c)],[[.own .Claim d false]]⟩
def z0r(a b c d:Int)(e:List Claim):Option (List Claim):=gp 271 Tryz.f271 1 o2' [1,1,1,0,1,0] [1] ⟨[(0,.fl (.ref 0)),(3,.fl (.fn 190 [])),(8,fI a),(9,fI b),(10,fI c),(11,fI d)],[[.own .Claim e false]]⟩
def z19(a b c:Int)(d:List Claim):Option (List Claim):=callC tn 280 [.ref 0,dI a,dI b,dI c,.fn 190 []] [[.own .Claim d false]] o2'
def z0b(a b c e:Int)(f:List Claim)(g:Int):Option (List Claim):=gp 272 Tryz.f272 1 o2' [1,1,0,1,1,1,0] [2] ⟨[(0,.fl (.ref 0)),(1,fI a),(8,fI b),(9,fP 1),(10,.fl (.d (.lf (.i .u64 c)))),(11,fI e)],[[.own .Claim f false],[.d (.lf (.i .u64 g))]]⟩
def z4p(a:Int):Option (Int×Int):=callC tn 282 [.ptr 0 0] [[.d (.lf (.i .u64 a))]] o42'
def z0z(a b:Int)(c:List Claim):Option (List Claim):=gp 274 Tryz.f274 1 o2' [1,1,0] [1] ⟨[(0,.fl (.ref 0)),(8,fI a),(9,fI b)],[[.own .Claim c false]]⟩
def z03(a b c d:Int)(e:List Claim):Option (Bool×List Claim):=gp 275 Tryz.f275 1 o11' [1,1,0,1,0] [1] ⟨[(0,.fl (.ref 0)),(1,fI a),(2,fI b),(3,.fl (.fn 190 [])),(9,fI c),(10,fI d)],[[.own .Claim e false]]⟩
def z0a(a b c:Int)(d:List Claim):Option (Int×List Claim):=gp 276 Tryz.f276 1 o9' [1,1,1,0,0] [1] ⟨[(0,.fl (.ref 0)),(1,fI a),(4,.fl (.fn 190 [])),(11,fI b),(12,fI c)],[[.own .Claim d false]]⟩
def z14(a b c:Int)(d:List Claim):Option (Int×Bool×List Claim):=gp 277 Tryz.f277 1 o8' [1,1,1,0,0] [1] ⟨[(0,.fl (.ref 0)),(1,fI a),(4,.fl (.fn 190 [])),(12,fI b),(13,fI c)],[[.own .Claim d false]]⟩
def z36(a:List Int)(b:Bool)(c:Int)(d:List Int)(e f:Int)(g:List Int)(h i:Int)(j:List Voter)(k l:Int)(m:List Voter)(n o:Int):Option (Meeting×Bool):=gp 59 Tryz.f59 0 o22' [1,1,1,0,1,0,0,1,1,0,0,1,1,0] [2,2,2,2] ⟨[(1,fP 0),(2,fP 1),(4,fL .i64 a),(5,fB b),(7,fI c),(21,fL .i64 d),(22,fI e),(23,fI f),(27,fL .i64 g),(28,fI h),(29,fI i)],[[dL .Voter j,dI k,dI l],[.own .Voter m false,dI n,dI o]]⟩
def z4z(a:Int)(b:List Trust)(c d e:Int)(f:List Int)(g:List Trust):Option (Int):=gp 79 Tryz.f79 0 o0' [1,1,1,0,1,0] [1] ⟨[(3,fI a),(27,fL .Trust b),(28,fI c),(29,fI d)],[[dI e,dL .i64 f,dL .Trust g]]⟩
def z27(a:List Trust)(b c d:Int)(e:List Int)(f:List Trust):Option (Int):=gp 133 Tryz.f133 0 o0' [1,1,1,1,0,1,0] [1] ⟨[(49,fL .Trust a),(50,fI b),(51,fI c)],[[dI d,dL .i64 e,dL .Trust f]]⟩
def z2n(a:Int)(b:List Int)(c d:Int):Option (Int×Int):=gp 176 Tryz.f176 0 o7' [1,1,0,1,0] [0] ⟨[(4,fI a),(7,fL .i64 b),(8,fI c),(9,fI d)],[]⟩
def z6b(a:List Claim)(b:Int)(c:List Int)(d:Int):Option (List Claim×List Int×Int):=gp 73 Tryz.f73 1 o37' [1,1,0,1,0] [1] ⟨[(0,fP 0),(5,.fl (.own .Claim a false)),(6,fI b)],[[dL .i64 c,dI d]]⟩
def z7y(a:List Int)(b:Int):Option (Claim×List Int×Int):=callC tn 88 [.ptr 0 0] [[.d (.lf (.l (c:=.i64) a)),dI b]] o43'
def z5d(a b c:Int)(d:List Int)(e f:Int)(g:List Int)(h:List Trust)(i:Int)(j:List Int)(k:List Trust):Option (Trust×List Int×Int):=gp 174 Tryz.f174 1 o6' [1,1,1,1,0,1,0,0,1,0] [3] ⟨[(0,fP 0),(1,fI a),(2,fI b),(6,fP 1),(7,fP 2),(11,fI c)],[[dL .i64 d,dI e],[dI f,.own .i64 g false,.own .Trust h false],[dI i,.own .i64 j false,.own .Trust k false]]⟩
def z44(a:List Int)(b:Int)(c:List Int)(d:Int):Option (List Int×List Int×Int):=gp 213 Tryz.f213 1 o23' [1,1,1,0,1,0] [1] ⟨[(0,fP 0),(5,.fl (.own .i64 a false)),(7,fI b)],[[dL .i64 c,dI d]]⟩
def z5z(a b:Int)(c:List Trust)(d e:Int)(f:List Int)(g h:Int)(i:List Int)(j:List Trust)(k:Int)(l:List Int)(m:List Trust):Option (Trust×List Int×Int):=gp 127 Tryz.f127 1 o6' [1,1,0,1,0,0,1,0,0,1,0,1,0] [2,2,2,3] ⟨[(0,fP 0),(1,fI a),(2,fI b),(6,fP 1),(7,.fl (.own .Trust c false)),(8,fI d),(9,fP 2),(10,fI e)],[[dL .i64 f,dI g],[dI h,.own .i64 i false,.own .Trust j false],[dI k,.own .i64 l false,.own .Trust m false]]⟩
def z2p(a b:Int)(c:List Int)(d e f:Int)(g:List Int)(h:List Trust):Option (Bool):=gp 120 Tryz.f120 0 o1' [1,1,1,0,1,0] [1] ⟨[(1,fI a),(2,fP 0),(5,fI b),(14,fL .i64 c),(15,fI d),(16,fI e)],[[dI f,dL .i64 g,dL .Trust h]]⟩
def z40(a:Int)(b:List Trust)(c d e:Int)(f:List Int)(g:List Trust)(h:Int)(i:List Int)(j:List Trust)(k:Int)(l:List Int)(m:List Trust):Option (Trust):=gp 171 Tryz.f171 0 o4' [1,1,1,0,1,0] [3] ⟨[(1,fI a),(4,fP 1),(5,fP 2),(36,fL .Trust b),(37,fI c),(38,fI d)],[[dI e,dL .i64 f,dL .Trust g],[dI h,.own .i64 i false,.own .Trust j false],[dI k,.own .i64 l false,.own .Trust m false]]⟩
def z4q(a:Int)(b:List Int)(c:Bool)(d:List Int)(e f:Int)(g:Bool)(h:List Member):Option (List Int):=gp 130 Tryz.f130 0 o3' [1,1,1,1,0,1,0] [1] ⟨[(2,fP 0),(5,fI a),(6,.fl (.own .i64 b false)),(7,fB c),(19,fL .i64 d),(20,fI e),(21,fI f),(22,fB g)],[[dL .Member h]]⟩
def z1x(a b:Int)(c:List Trust)(d e f:Int)(g:List Int)(h:List Trust):Option (Bool):=gp 265 Tryz.f265 0 o1' [1,1,1,1,0,1,0] [1] ⟨[(1,fI a),(2,fP 0),(5,fI b),(27,fL .Trust c),(28,fI d),(29,fI e)],[[dI f,dL .i64 g,dL .Trust h]]⟩
def z3k(a:Int)(b:List Int)(c d:Int)(e:List Member):Option (Int×Bool):=gp 238 Tryz.f238 0 o17' [1,0,1,0] [1] ⟨[(1,fI a),(2,fP 0),(9,fL .i64 b),(10,fI c),(11,fI d)],[[dL .Member e]]⟩
def z6k(a:Config)(b c:Int):Option (Bool):=callC tn 250 [dA .Config a,dI b,dI c] [] o1'
def z0g(a b c d:Int)(e:List Claim):Option (List Claim):=gp 270 Tryz.f270 1 o2' [1,0,0,1,0,0,1,0] [1,1,1,1] ⟨[(0,.fl (.ref 0)),(1,fI a),(2,fI b),(3,.fl (.fn 190 [])),(8,fI c),(9,fI d)],[[.own .Claim e false]]⟩
def z0s(a b c:Int)(d:List Claim):Option (List Claim):=gp 271 Tryz.f271 1 o2' [1,1,1,1,1,0] [1] ⟨[(0,.fl (.ref 0)),(3,.fl (.fn 190 [])),(8,fI a),(9,fI b),(12,fI c)],[[.own .Claim d false]]⟩
def z0c(a b c:Int)(d:List Claim):Option (List Claim):=gp 280 Tryz.f280 1 o2' [1,0] [1] ⟨[(0,.fl (.ref 0)),(2,fI a),(3,fI b),(4,.fl (.fn 190 [])),(10,fI c)],[[.own .Claim d false]]⟩
def z11(a b c d:Int)(e:Bool)(f:List Claim):Option (Bool×List Claim):=gp 275 Tryz.f275 1 o11' [1,1,0,1,0,0,1,0,0,0,0] [1,1,1,1] ⟨[(0,.fl (.ref 0)),(1,fI a),(2,fI b),(3,.fl (.fn 190 [])),(9,fI c),(10,fI d),(16,fB e)],[[.own .Claim f false]]⟩
def z0u(a b c:Int)(d:List Claim):Option (Int×List Claim):=gp 276 Tryz.f276 1 o9' [1,1,1,0,0,0,0,0,0] [1,1,1,1] ⟨[(0,.fl (.ref 0)),(1,fI a),(4,.fl (.fn 190 [])),(11,fI b),(12,fI c)],[[.own .Claim d false]]⟩
def z0o(a b c:Int)(d:Bool)(e:List Claim):Option (Int×Bool×List Claim):=gp 277 Tryz.f277 1 o8' [1,1,1,1,0,0] [1] ⟨[(0,.fl (.ref 0)),(1,fI a),(4,.fl (.fn 190 [])),(12,fI b),(13,fI c),(47,fB d)],[[.own .Claim e false]]⟩
def z2c(a b:Int)(c:List Trust)(d e f:Int)(g:List Int)(h:List Trust):Option (Bool):=gp 120 Tryz.f120 0 o1' [1,1,1,1,0,1,0] [1] ⟨[(1,fI a),(2,fP 0),(5,fI b),(27,fL .Trust c),(28,fI d),(29,fI e)],[[dI f,dL .i64 g,dL .Trust h]]⟩
def z0i(a b c d:Int)(e:List Claim):Option (Bool×List Claim):=gp 275 Tryz.f275 1 o11' [1,1,0,1,0,0,1,0,0,0,0] [1,1,1,1] ⟨[(0,.fl (.ref 0)),(1,fI a),(2,fI b),(3,.fl (.fn 190 [])),(9,fI c),(10,fI d)],[[.own .Claim e false]]⟩
def z07(a b c d e:Int)(f:List Claim):Option (Bool×List Claim):=gp 275 Tryz.f275 1 o11' [1,1,0,1,0,0,1,0,0,1,1,1,1,0,1,0,1,0] [1,1,1,1] ⟨[(0,.fl (.ref 0)),(1,fI a),(2,fI b),(3,.fl (.fn 190 [])),(9,fI c),(10,fI d),(11,fI e)],[[.own .Claim f false]]⟩
def z05(a b c d e:Int)(f:List Claim):Option (Bool×List Claim):=gp 275 Tryz.f275 1 o11' [1,1,0,1,0,0,1,0,0,1,1,1,1,1,1,0,1,0] [1,1,1,1] ⟨[(0,.fl (.ref 0)),(1,fI a),(2,fI b),(3,.fl (.fn 190 [])),(9,fI c),(10,fI d),(12,fI e)],[[.own .Claim f false]]⟩
def z0e(a b c:Int)(d:Bool)(e:List Claim):Option (Int×List Claim):=gp 276 Tryz.f276 1 o9' [1,1,1,0,0,0,0,1,0,0] [1,1,1,1] ⟨[(0,.fl (.ref 0)),(1,fI a),(4,.fl (.fn 190 [])),(11,fI b),(12,fI c),(47,fB d)],[[.own .Claim e false]]⟩
def z15(a b c:Int)(d:List Claim):Option (Int×Bool×List Claim):=gp 277 Tryz.f277 1 o8' [1,1,1,1,0,0] [1] ⟨[(0,.fl (.ref 0)),(1,fI a),(4,.fl (.fn 190 [])),(12,fI b),(13,fI c)],[[.own .Claim d false]]⟩
def z06(a b c:Int)(d:List Claim):Option (Int×Bool×List Claim):=gp 277 Tryz.f277 1 o8' [1,1,1,1,1,1,1,1,1,0,0] [1] ⟨[(0,.fl (.ref 0)),(1,fI a),(4,.fl (.fn 190 [])),(12,fI b),(13,fI c)],[[.own .Claim d false]]⟩
def z0v(a b c:Int)(d:List Claim):Option (Int×List Claim):=gp 276 Tryz.f276 1 o9' [1,1,1,0,0,0,0,1,0,0] [1,1,1,1] ⟨[(0,.fl (.ref 0)),(1,fI a),(4,.fl (.fn 190 [])),(11,fI b),(12,fI c)],[[.own .Claim d false]]⟩
def z16(a b c:Int)(d:List Claim):Option (Int×Bool×List Claim):=gp 277 Tryz.f277 1 o8' [1,1,1,1,1,1,1,1,1,0,0,0,0,0,0] [1,1,1,1] ⟨[(0,.fl (.ref 0)),(1,fI a),(4,.fl (.fn 190 [])),(12,fI b),(13,fI c)],[[.own .Claim d false]]⟩
def z0p(a b c:Int)(d:Bool)(e:List Claim):Option (Int×Bool×List Claim):=gp 277 Tryz.f277 1 o8' [1,1,1,1,1,1,1,1,1,0,0,0,0,1,0,0] [1,1,1,1] ⟨[(0,.fl (.ref 0)),(1,fI a),(4,.fl (.fn 190 [])),(12,fI b),(13,fI c),(120,fB d)],[[.own .Claim e false]]⟩
def z17(a b c:Int)(d:List Claim):Option (Int×Bool×List Claim):=gp 277 Tryz.f277 1 o8' [1,1,1,1,1,1,1,1,1,0,0,0,0,1,0,0] [1,1,1,1] ⟨[(0,.fl (.ref 0)),(1,fI a),(4,.fl (.fn 190 [])),(12,fI b),(13,fI c)],[[.own .Claim d false]]⟩
end
end Go.Proofs.YtdmfjabikomgiaaGreat
