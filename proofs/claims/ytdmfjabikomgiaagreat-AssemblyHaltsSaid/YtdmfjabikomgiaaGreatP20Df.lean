/- What the functions come to: names. -/
import Derived.Test.YtdmfjabikomgiaaGreatP20Env
namespace Go.Proofs.YtdmfjabikomgiaaGreat
open Go Go.Ab
abbrev dA(c:sig.TC)(x:sig.Ty c):TL sig:=.d (.ag (sig.cells c x))
noncomputable abbrev gp(f:Nat)(fn:Func)(k:Nat)(o:OSpec sig)(p ms:List Nat)(st:TSt sig):Option o.Out:=goC tn ⟨f,fn,k⟩ o (q09 fn p) (yfl fn p ms) st
abbrev fI(n:Int):TV sig:=.fl (.d (.lf (.i .i64 n)))
abbrev fB(n:Bool):TV sig:=.fl (.d (.lf (.b n)))
abbrev fL(c:sig.TC)(l:List (sig.Ty c)):TV sig:=.fl (.d (.lf (.l c l)))
abbrev fP(n:Nat):TV sig:=.fl (.ptr n 0)
abbrev dI(n:Int):TL sig:=.d (.lf (.i .i64 n))
abbrev dL(c:sig.TC)(l:List (sig.Ty c)):TL sig:=.d (.lf (.l c l))
noncomputable section
def law20_AssemblyCalm(a:List Int):Option (Bool):=callC tn 8 [.d (.lf (.l (c:=.i64) a))] [] o0'
def law20_AssemblyHalts(a:List Int):Option (Bool):=callC tn 7 [.d (.lf (.l (c:=.i64) a))] [] o0'
def z7v(a:List Int):Option (Unit×List Int×Int):=callC tn 11 [.d (.lf (.l (c:=.i64) a))] [] o36'
def law20_party(a e:Int)(f:Bool)(g:List Int)(h:Int):Option (Config×Int×List Play×List Int×Int):=callC tn 12 [.ptr 0 0,dI a,dI e,.d (.lf (.b f))] [[.d (.lf (.l (c:=.i64) g)),dI h]] o37'
def z3w(a:Config)(b:Int)(e:List Play):Option (Meeting×List Int×Int):=callC tn 13 [dA .Config a,dI b,.d (.lf (.l (c:=.Play) e))] [] o24'
def z3x(a:Meeting):Option (Meeting×Int):=callC tn 14 [dA .Meeting a] [] o11'
def z6c(a b:Meeting):Option (Bool):=callC tn 31 [dA .Meeting a,dA .Meeting b] [] o0'
def z7c(a:Meeting):Option (Bool):=callC tn 32 [dA .Meeting a] [] o0'
def z7q(a:Int)(b:List Int)(e:Int):Option (Config×List Int×Int):=callC tn 25 [.ptr 0 0,dI a] [[.d (.lf (.l (c:=.i64) b)),dI e]] o16'
def z1e(a:Int)(b:List Int)(e:Int):Option (Int×List Int×Int):=callC tn 29 [.ptr 0 0,dI a] [[.d (.lf (.l (c:=.i64) b)),dI e]] o17'
def z6i(a:Int):Option (List Int):=callC tn 20 [dI a] [] o5'
def z2t(a b:List Int)(e:Int):Option (Int×List Int×Int):=callC tn 56 [.ptr 0 0,.d (.lf (.l (c:=.i64) a))] [[.d (.lf (.l (c:=.i64) b)),dI e]] o17'
def z7j(a:Config)(e f:Int)(g:Bool)(h:List Int)(i:Int):Option (List Play×List Int×Int):=callC tn 27 [.ptr 0 0,dA .Config a,dI e,dI f,.d (.lf (.b g))] [[.d (.lf (.l (c:=.i64) h)),dI i]] o18'
def z6m(a:Config)(b:Int):Option (Meeting×Int):=callC tn 41 [dA .Config a,dI b] [] o11'
def z5v(a:Meeting):Option (Bool):=callC tn 51 [dA .Meeting a] [] o0'
def z7t(a:Int)(b:List Int)(e:Int):Option (Unit×Unit×List Int×Int×List Member):=callC tn 70 [.ptr 0 0,dI a] [[.d (.lf (.l (c:=.i64) b)),dI e]] o25'
def z4t(a:Config):Option (Int):=callC tn 91 [dA .Config a] [] o1'
def z20(a b:Int)(e:List Int)(f:Int):Option (Int×List Int×Int):=callC tn 87 [.ptr 0 0,dI a,dI b] [[.d (.lf (.l (c:=.i64) e)),dI f]] o17'
def z5r(a:Config):Option (Int):=callC tn 35 [dA .Config a] [] o1'
def z5w(a:Config):Option (Int):=callC tn 71 [dA .Config a] [] o1'
def z5s(a:Int):Option (Bool):=callC tn 81 [dI a] [] o0'
def z29(a:List Voter)(b c:Int)(d:List Int)(e:Int)(f:List Member)(g:List Voter)(h i:Int)(j:List Voter)(k l:Int)(m:List Voter)(n o:Int):Option (Bool):=gp 8 Tryz.f8 0 o0' [1,1,1,1,1,1,1,0,1,0] [5] ⟨[(4,fP 1),(7,fP 2),(10,fP 3),(97,fL .Voter a),(98,fI b),(99,fI c)],[[dL .i64 d,dI e],[dL .Member f],[dL .Voter g,dI h,dI i],[dL .Voter j,dI k,dI l],[dL .Voter m,dI n,dI o]]⟩
def z3y(a b:List Claim):Option (Bool):=callC tn 23 [.d (.lf (.l (c:=.Claim) a)),.d (.lf (.l (c:=.Claim) b))] [] o0'
def z74(a b:List Claim):Option (List Claim):=callC tn 21 [.d (.lf (.l (c:=.Claim) a)),.d (.lf (.l (c:=.Claim) b))] [] o3'
def z3l(a b:Trust):Option (Bool):=callC tn 33 [dA .Trust a,dA .Trust b] [] o0'
def z6v(a b:Int):Option (Bool):=callC tn 34 [dI a,dI b] [] o0'
def law20_awake:Option (Bool):=callC tn 18 [] [] o0'
def z6n(a:List Claim):Option (List Claim):=callC tn 24 [.d (.lf (.l (c:=.Claim) a))] [] o3'
def z7b(a b:List Int):Option (Bool):=callC tn 80 [.d (.lf (.l (c:=.i64) a)),.d (.lf (.l (c:=.i64) b))] [] o0'
def law20_three:Option (Config):=callC tn 67 [] [] o19'
def z57(a:List Claim)(b:Claim):Option (Bool):=callC tn 28 [.d (.lf (.l (c:=.Claim) a)),dA .Claim b] [] o0'
def z23(a:Int)(b:List Play)(c:List Int)(d e:Int)(f:List Int)(g:Int)(h:List Member):Option (Bool):=gp 7 Tryz.f7 0 o0' [1,1,1,1,1,0,1,0] [2] ⟨[(3,fP 0),(4,fP 1),(5,fI a),(6,.fl (.own .Play b false)),(29,fL .i64 c),(30,fI d),(31,fI e)],[[dL .i64 f,dI g],[dL .Member h]]⟩
def z75(a:Config)(c:Int):Option (Bool×Int):=callC tn 30 [dA .Config a,dI c] [] ⟨[.lf .b,.lf (.i .i64)],[]⟩
def z7d(a:Config)(b:Int):Option (Int):=callC tn 74 [dA .Config a,dI b] [] o1'
def z69(a:Config):Option (Int):=callC tn 76 [dA .Config a] [] o1'
def z6o(a:Config)(b:Int):Option (Int):=callC tn 75 [dA .Config a,dI b] [] o1'
def z5k(a:Config)(b:Int):Option (List Int):=callC tn 130 [dA .Config a,dI b] [] o5'
def z3u(a:List Int)(b:List Play)(c d:Int)(e:List Member)(f:List Voter)(g h:Int)(i:List Voter)(j k:Int):Option (Meeting×List Int×Int):=gp 13 Tryz.f13 0 o24' [1,1,1,1,1,0,1,0] [3] ⟨[(6,fP 1),(9,fP 2),(11,.fl (.own .i64 a false)),(30,fL .Play b),(31,fI c),(32,fI d)],[[dL .Member e],[.own .Voter f false,dI g,dI h],[dL .Voter i,dI j,dI k]]⟩
def z5f(a:Meeting)(b:Play):Option (Meeting×Int):=callC tn 57 [dA .Meeting a,dA .Play b] [] o11'
def z4v(a:Meeting):Option (Meeting):=callC tn 58 [dA .Meeting a] [] o20'
def z6p(a:Meeting)(b:Play):Option (Int):=callC tn 113 [dA .Meeting a,dA .Play b] [] o1'
def z63(a:Meeting)(b:Play):Option (Int×Voter×Int):=callC tn 114 [dA .Meeting a,dA .Play b] [] o38'
def z3a(a:List Voter):Option (Unit×List Voter):=callC tn 115 [.d (.lf (.l (c:=.Voter) a))] [] ⟨[.ref 0],[[.own .Voter false]]⟩
def z3q(a:Int):Option (Bool):=callC tn 162 [dI a] [] o0'
def z1t(a b:Int):Option (Bool):=callC tn 92 [dI a,dI b] [] o0'
def z7e(a:Voter)(b:Claim):Option (Voter×Int):=callC tn 163 [dA .Voter a,dA .Claim b] [] o12'
def z7l(a:Voter):Option (Message):=callC tn 165 [dA .Voter a] [] o13'
def z76(a:Voter)(b:Message):Option (Voter×Int):=callC tn 164 [dA .Voter a,dA .Message b] [] o12'
def z2a(a:Trust):Option (Int):=callC tn 137 [dA .Trust a] [] o1'
def z3v(a:Trust)(b:Int):Option (Bool):=callC tn 106 [dA .Trust a,dI b] [] o0'
def z6q(a:Voter)(b:Trust):Option (Voter×Int):=callC tn 166 [dA .Voter a,dA .Trust b] [] o12'
def z2l(a:Message):Option (Bool):=callC tn 151 [dA .Message a] [] o0'
def z2i(a:Int):Option (Bool):=callC tn 136 [dI a] [] o0'
def z58(a:Voter):Option (Bool):=callC tn 105 [dA .Voter a] [] o0'
def z64(a:Claim):Option (Bool):=callC tn 189 [dA .Claim a] [] o0'
def z1f(a:List Claim)(b e:Int):Option (Bool×Int×Int):=callC tn 143 [.d (.lf (.l (c:=.Claim) a)),.fn 199 [(0,0)]] [[dI b,dI e]] o26'
def z5q(a:List Claim)(b:Claim):Option (Bool):=callC tn 150 [.d (.lf (.l (c:=.Claim) a)),dA .Claim b] [] o0'
def z2u(a:Voter):Option (Voter):=callC tn 200 [dA .Voter a] [] o9'
def z6w(a:List Claim)(b:Claim):Option (List Claim):=callC tn 201 [.d (.lf (.l (c:=.Claim) a)),dA .Claim b] [] o3'
def z3i(a b:Voter):Option (Voter):=callC tn 202 [dA .Voter a,dA .Voter b] [] o9'
def z6x(a:Voter):Option (Message):=callC tn 155 [dA .Voter a] [] o13'
def z3m(a:Message):Option (Message):=callC tn 208 [dA .Message a] [] o13'
def z1a(a:List Message)(b:Int):Option (Int×Bool):=callC tn 203 [.d (.lf (.l (c:=.Message) a)),dI b,.fn 204 []] [] o14'
def z1s(a:List Message):Option (Unit×List Message):=callC tn 206 [.d (.lf (.l (c:=.Message) a))] [] ⟨[.ref 0],[[.own .Message false]]⟩
def z59(a:Int)(b e:List Message):Option (List Message×Unit):=callC tn 207 [.ref 0,dI a,.d (.lf (.l (c:=.Message) b))] [[.own .Message e false]] ⟨[.lf (.l .Message)],[[.undef]]⟩
def z5b(a:Trust):Option (Int):=callC tn 179 [dA .Trust a] [] o1'
def z5x(a:Trust):Option (Int):=callC tn 180 [dA .Trust a] [] o1'
def z5c(a:Trust):Option (Int):=callC tn 181 [dA .Trust a] [] o1'
def z4w(a:Trust):Option (Int):=callC tn 152 [dA .Trust a] [] o1'
def z45(a b:Trust):Option (Bool):=callC tn 194 [dA .Trust a,dA .Trust b] [] o0'
def z5y(a:Int):Option (Bool):=callC tn 192 [dI a] [] o0'
def z4e(a:List Claim):Option (Bool):=callC tn 147 [.d (.lf (.l (c:=.Claim) a))] [] o0'
def z5g(a b:Int):Option (Bool):=callC tn 178 [dI a,dI b] [] o0'
def z6l(a:List Claim):Option (Bool):=callC tn 148 [.d (.lf (.l (c:=.Claim) a))] [] o0'
def z1m(a:List Claim)(b e f:Int)(g:List Int)(h:List Trust)(i j k:List Claim)(m:List Message):Option (Bool×Int×Int×Int×List Int×List Trust×List Claim×List Claim×List Claim×List Message):=callC tn 143 [.d (.lf (.l (c:=.Claim) a)),.fn 149 [(0,0)]] [[dI b,dI e,dI f,.d (.lf (.l (c:=.i64) g)),.d (.lf (.l (c:=.Trust) h)),.d (.lf (.l (c:=.Claim) i)),.d (.lf (.l (c:=.Claim) j)),.d (.lf (.l (c:=.Claim) k)),.d (.lf (.l (c:=.Message) m))]] o27'
def z1o(a:List Claim)(b e:Int):Option (Int×Int×Int):=callC tn 188 [.d (.lf (.l (c:=.Claim) a)),.fn 199 [(0,0)]] [[dI b,dI e]] o28'
def z2p(a:List Claim)(b:Claim):Option (Bool):=callC tn 191 [.d (.lf (.l (c:=.Claim) a)),dA .Claim b] [] o0'
def z5a(a:Trust):Option (Trust):=callC tn 138 [dA .Trust a] [] o8'
def z0k(a:List Claim):Option (Unit×List Claim):=callC tn 116 [.d (.lf (.l (c:=.Claim) a))] [] o23'
def z78(a b:List Claim):Option (List Claim):=callC tn 228 [.d (.lf (.l (c:=.Claim) a)),.d (.lf (.l (c:=.Claim) b))] [] o3'
def z6r(a:Voter):Option (Voter):=callC tn 229 [dA .Voter a] [] o9'
def z2j(a b:List Claim):Option (Bool):=callC tn 156 [.d (.lf (.l (c:=.Claim) a)),.d (.lf (.l (c:=.Claim) b))] [] o0'
def z1j(a:List Int):Option (Bool):=callC tn 214 [.d (.lf (.l (c:=.i64) a)),.fn 215 []] [] o0'
def z7m(a:List Int):Option (Int×Int):=callC tn 216 [.d (.lf (.l (c:=.i64) a))] [] o15'
def z3p(a b:List Int):Option (Bool):=callC tn 221 [.d (.lf (.l (c:=.i64) a)),.d (.lf (.l (c:=.i64) b))] [] o0'
def z1d(a b:List Trust):Option (Bool):=callC tn 222 [.d (.lf (.l (c:=.Trust) a)),.d (.lf (.l (c:=.Trust) b)),.fn 194 []] [] o0'
def z1n(a:List Claim)(b e f:Int)(g:List Int)(h:List Trust)(i j k:List Claim)(m:List Message):Option (Int×Int×Int×Int×List Int×List Trust×List Claim×List Claim×List Claim×List Message):=callC tn 188 [.d (.lf (.l (c:=.Claim) a)),.fn 149 [(0,0)]] [[dI b,dI e,dI f,.d (.lf (.l (c:=.i64) g)),.d (.lf (.l (c:=.Trust) h)),.d (.lf (.l (c:=.Claim) i)),.d (.lf (.l (c:=.Claim) j)),.d (.lf (.l (c:=.Claim) k)),.d (.lf (.l (c:=.Message) m))]] o29'
def z3b(a:List Claim)(b:Claim):Option (Int):=callC tn 220 [.d (.lf (.l (c:=.Claim) a)),dA .Claim b] [] o1'
def z22(a:List Int):Option (Unit×List Int):=callC tn 139 [.d (.lf (.l (c:=.i64) a))] [] ⟨[.ref 0],[[.own .i64 false]]⟩
def z77(a:List (List Claim)):Option (Unit×List Claim):=callC tn 242 [.d (.lf (.l (c:=.l_Claim) a))] [] o23'
def z6a(a:List Claim):Option (List Claim):=callC tn 241 [.d (.lf (.l (c:=.Claim) a))] [] o3'
def z5z(a:Int)(b:Trust)(e:List Message):Option (Config):=callC tn 243 [dI a,dA .Trust b,.d (.lf (.l (c:=.Message) e))] [] o19'
def z6j(a:Voter)(b:Config):Option (Claim×Bool):=callC tn 244 [dA .Voter a,dA .Config b] [] o30'
def z1u(a:List Int):Option (Int):=callC tn 234 [.d (.lf (.l (c:=.i64) a)),.fn 215 []] [] o1'
def z1k(a:List Claim):Option (Unit×List Claim):=callC tn 251 [.ref 0,.fn 252 []] [[.own .Claim a false]] o23'
def z1g(a:List Claim):Option (List Claim):=callC tn 253 [.ref 0,.fn 190 []] [[.own .Claim a false]] o2'
def z70(a:List Claim):Option (List Claim×Unit):=callC tn 254 [.ref 0] [[.own .Claim a false]] ⟨[.lf (.l .Claim)],[[.undef]]⟩
def z6s(a:List Message):Option (List Claim):=callC tn 257 [.d (.lf (.l (c:=.Message) a))] [] o3'
def z1r(a:List Claim):Option (Int×List Claim):=callC tn 188 [.ref 0,.fn 252 []] [[.own .Claim a false]] o7'
def z7r(a:Int):Option (Int):=callC tn 267 [.d (.lf (.i .u64 a))] [] o1'
def z01(a b c:Int)(d:List Claim):Option (List Claim):=callC tn 266 [.ref 0,dI a,dI b,dI c,.fn 190 []] [[.own .Claim d false]] o2'
def z7n(a:Int):Option (Int):=callC tn 279 [.d (.lf (.i .u64 a))] [] o1'
def z3c(a:Bool)(b:List Voter)(c d:Int)(e:List Voter)(f g:Int):Option (Meeting×Int):=gp 14 Tryz.f14 0 o11' [1,1,0,1,0] [2] ⟨[(1,fP 0),(2,fP 1),(4,fB a)],[[dL .Voter b,dI c,dI d],[.own .Voter e false,dI f,dI g]]⟩
def z60(a:Meeting):Option (Meeting×Bool):=callC tn 59 [dA .Meeting a] [] o21'
def z5h(a:Int):Option (List Int):=callC tn 103 [dI a] [] o5'
def z4p(a b:Int)(c:List Voter)(d e:Int)(f:List Voter)(g h:Int):Option (Bool):=gp 31 Tryz.f31 0 o0' [1,1,0,1,0] [2] ⟨[(2,fP 0),(3,fP 1),(29,fI a),(30,fI b)],[[dL .Voter c,dI d,dI e],[dL .Voter f,dI g,dI h]]⟩
def z7o(a b:Voter):Option (Bool):=callC tn 77 [dA .Voter a,dA .Voter b] [] o0'
def z3n(a:Int)(b:List Voter)(c d:Int)(e:List Voter)(f g:Int):Option (Bool):=gp 32 Tryz.f32 0 o0' [1,1,1,0,1,0] [1] ⟨[(3,fI a),(50,fL .Voter b),(51,fI c),(52,fI d)],[[dL .Voter e,dI f,dI g]]⟩
def z7f(a:Voter):Option (Bool):=callC tn 78 [dA .Voter a] [] o0'
def z6d(a:Trust):Option (Int):=callC tn 79 [dA .Trust a] [] o1'
def z3j(a:Trust):Option (Int):=callC tn 82 [dA .Trust a] [] o1'
def z52(a:List Claim):Option (Bool):=callC tn 132 [.d (.lf (.l (c:=.Claim) a))] [] o0'
def z4x(a:List Claim):Option (Bool):=callC tn 22 [.d (.lf (.l (c:=.Claim) a))] [] o0'
def z6k(a:Trust):Option (Int):=callC tn 129 [dA .Trust a] [] o1'
def z6y(a:Trust):Option (Int):=callC tn 128 [dA .Trust a] [] o1'
def z4d(a:Trust):Option (Int):=callC tn 133 [dA .Trust a] [] o1'
def z6z(a:List Int)(b:Int)(c d:List Member):Option (Config×List Int×Int):=gp 25 Tryz.f25 1 o16' [1,1,0,0] [3] ⟨[(4,fP 1),(5,fP 2)],[[dL .i64 a,dI b],[.own .Member c false],[.own .Member d false]]⟩
def z46(a:Int)(b:List Int)(c:Int):Option (List Int):=gp 20 Tryz.f20 0 o5' [1,1,0,1,0] [0] ⟨[(0,fI a),(3,.fl (.own .i64 b false)),(4,fI c)],[]⟩
def z0w(a b:Int)(c:Bool)(d:List Play)(e f:Int)(g:List Int)(h:Int)(i:List Member):Option (List Play×List Int×Int):=gp 27 Tryz.f27 1 o18' [1,1,1,0,1,0] [2] ⟨[(0,fP 0),(2,fI a),(3,fI b),(4,fB c),(11,.fl (.own .Play d false)),(12,fI e),(13,fI f)],[[dL .i64 g,dI h],[dL .Member i]]⟩
def z5t(a:Int)(b:List Int)(e:Int):Option (Trust×List Int×Int):=callC tn 72 [.ptr 0 0,dI a] [[.d (.lf (.l (c:=.i64) b)),dI e]] o4'
def z79(a b:Int)(e:List Int)(f:Int):Option (Trust×List Int×Int):=callC tn 125 [.ptr 0 0,dI a,dI b] [[.d (.lf (.l (c:=.i64) e)),dI f]] o4'
def z7a(a b:Int)(e:List Int)(f:Int):Option (Trust×List Int×Int):=callC tn 174 [.ptr 0 0,dI a,dI b] [[.d (.lf (.l (c:=.i64) e)),dI f]] o4'
def z71(a:Int)(b:List Int)(e:Int):Option (List Int×List Int×Int):=callC tn 213 [.ptr 0 0,dI a] [[.d (.lf (.l (c:=.i64) b)),dI e]] o22'
def z2z(a:Int)(b:List Member)(c d:Int)(e:List Member)(f:List Voter)(g h:Int)(i:List Voter)(j k:Int):Option (Meeting×Int):=gp 41 Tryz.f41 0 o11' [1,1,1,1,0,1,0] [3] ⟨[(1,fI a),(4,fP 1),(7,fP 2),(39,fL .Member b),(40,fI c),(41,fI d)],[[dL .Member e],[.own .Voter f false,dI g,dI h],[.own .Voter i false,dI j,dI k]]⟩
def z7y(a:Int):Option (Trust):=callC tn 93 [dI a] [] o8'
def z6t(a:Int)(b:Trust):Option (Voter×Int):=callC tn 94 [dI a,dA .Trust b] [] o12'
def z30(a:List Voter)(b c:Int)(d:List Voter)(e f g:Int):Option (Bool):=gp 51 Tryz.f51 0 o0' [1,1,1,0,1,0] [2] ⟨[(3,fP 1),(48,fL .Voter a),(49,fI b),(50,fI c)],[[dL .Voter d,dI e,dI f],[dI g]]⟩
def z1h(a:List Message)(b:Int):Option (Bool×Int):=callC tn 107 [.d (.lf (.l (c:=.Message) a)),.fn 108 [(0,0)]] [[dI b]] o31'
def z1l(a:List Message)(b:Int):Option (Int×Int):=callC tn 153 [.d (.lf (.l (c:=.Message) a)),.fn 108 [(0,0)]] [[dI b]] o32'
def z1x(a b c:Int)(d:List Int)(e:Int)(f g:List Member):Option (Unit×Unit×List Int×Int×List Member):=gp 70 Tryz.f70 1 o25' [1,1,1,1,0,1,0] [3] ⟨[(0,fP 0),(4,fP 1),(5,fI a),(6,fI b),(7,fP 2),(8,fI c)],[[dL .i64 d,dI e],[.own .Member f false],[.own .Member g false]]⟩
def z7x(a:Int)(b:List Int)(e:Int):Option (Trust×List Int×Int):=callC tn 126 [.ptr 0 0,dI a] [[.d (.lf (.l (c:=.i64) b)),dI e]] o4'
def z7w(a b:Int)(e:List Int)(f:Int):Option (Trust×List Int×Int):=callC tn 127 [.ptr 0 0,dI a,dI b] [[.d (.lf (.l (c:=.i64) e)),dI f]] o4'
def z2e(a:List Member)(b c:Int)(d:List Member):Option (Int):=gp 91 Tryz.f91 0 o1' [1,1,0,1,0] [1] ⟨[(1,fP 0),(11,fL .Member a),(12,fI b),(13,fI c)],[[dL .Member d]]⟩
def z4f(a:Member)(b:Int):Option (Int):=callC tn 135 [dA .Member a,dI b] [] o1'
def z4u(a:Trust):Option (Bool):=callC tn 177 [dA .Trust a] [] o0'
def z47(a:List Member)(b c:Int)(d:List Member):Option (Int):=gp 35 Tryz.f35 0 o1' [1,1,0,1,0] [1] ⟨[(1,fP 0),(11,fL .Member a),(12,fI b),(13,fI c)],[[dL .Member d]]⟩
def z2g(a:Int)(b:List Member)(c d:Int)(e:List Member):Option (Int):=gp 71 Tryz.f71 0 o1' [1,1,0,1,0] [1] ⟨[(3,fI a),(7,fL .Member b),(8,fI c),(9,fI d)],[[dL .Member e]]⟩
def z5i(a b:List Claim)(c d:Int):Option (Bool):=gp 23 Tryz.f23 0 o0' [1,1,0,1,0] [0] ⟨[(0,fL .Claim a),(1,fL .Claim b),(12,fI c),(13,fI d)],[]⟩
def z3z(a b c:Int)(d:List Int)(e:List Trust)(f:Int)(g:List Int)(h:List Trust):Option (Bool):=gp 33 Tryz.f33 0 o0' [1,1,0,1,0] [2] ⟨[(2,fP 0),(3,fP 1),(30,fI a),(31,fI b)],[[dI c,dL .i64 d,dL .Trust e],[dI f,dL .i64 g,dL .Trust h]]⟩
def z39(a b:List Claim)(c:Int):Option (List Claim):=gp 24 Tryz.f24 0 o3' [1,1,0,1,0] [0] ⟨[(0,fL .Claim a),(3,.fl (.own .Claim b false)),(4,fI c)],[]⟩
def z4q(a b:List Int)(c d:Int):Option (Bool):=gp 80 Tryz.f80 0 o0' [1,1,0,1,0] [0] ⟨[(0,fL .i64 a),(1,fL .i64 b),(12,fI c),(13,fI d)],[]⟩
def z65(a:List Claim)(b c d e:Int):Option (Bool):=gp 28 Tryz.f28 0 o0' [1,0,1,0] [1] ⟨[(3,fP 0),(7,fL .Claim a),(8,fI b),(9,fI c)],[[dI d,dI e]]⟩
def z24(a:Bool)(b:List Voter)(c d:Int)(e:List Int)(f:Int)(g:List Member)(h:List Voter)(i j:Int)(k:List Voter)(l m:Int):Option (Bool):=gp 7 Tryz.f7 0 o0' [1,1,1,1,1,1,1,1,1,1,1,0,1,0] [4] ⟨[(14,fB a),(88,fL .Voter b),(89,fI c),(90,fI d)],[[dL .i64 e,dI f],[dL .Member g],[dL .Voter h,dI i,dI j],[dL .Voter k,dI l,dI m]]⟩
def z4m(a:Int)(b:List Int)(c d:Int)(e:List Member):Option (Int):=gp 75 Tryz.f75 0 o1' [1,1,1,0,1,0] [1] ⟨[(5,fI a),(17,fL .i64 b),(18,fI c),(19,fI d)],[[dL .Member e]]⟩
def z2r(a:Int)(b:List Int)(c:Bool)(d:List Member):Option (List Int):=gp 130 Tryz.f130 0 o5' [1,1,1,1,0,1,0] [1] ⟨[(2,fP 0),(5,fI a),(6,.fl (.own .i64 b false)),(7,fB c)],[[dL .Member d]]⟩
def z31(a:List Voter)(b c:Int)(d:List Voter)(e f:Int)(g:List Voter)(h i:Int):Option (Meeting):=gp 58 Tryz.f58 0 o20' [1,1,1,0,1,0] [2] ⟨[(1,fP 0),(2,fP 1),(12,fL .Voter a),(13,fI b),(14,fI c)],[[.own .Voter d false,dI e,dI f],[.own .Voter g false,dI h,dI i]]⟩
def z4y(a:Trust):Option (Trust):=callC tn 96 [dA .Trust a] [] o8'
def z2b(a:List Message)(b c d e f:Int)(g:List Int)(h:List Trust)(i j k:List Claim)(l:List Message):Option (Bool):=gp 105 Tryz.f105 0 o0' [1,1,1,1,0,1,0] [1] ⟨[(1,fP 0),(62,fL .Message a),(63,fI b),(64,fI c)],[[dI d,dI e,dI f,dL .i64 g,dL .Trust h,dL .Claim i,dL .Claim j,dL .Claim k,dL .Message l]]⟩
def z4g(a:List Message)(b c d e f:Int)(g:List Int)(h:List Trust)(i j k:List Claim)(l:List Message)(m n o:Int)(p:List Int)(q:List Trust)(r s t:List Claim)(u:List Message):Option (Voter):=gp 200 Tryz.f200 0 o9' [1,1,1,1,0,1,0] [2] ⟨[(1,fP 0),(2,fP 1),(25,fL .Message a),(26,fI b),(27,fI c)],[[dI d,dI e,dI f,dL .i64 g,dL .Trust h,.own .Claim i false,.own .Claim j false,.own .Claim k false,.own .Message l false],[dI m,dI n,dI o,.own .i64 p false,.own .Trust q false,.own .Claim r false,.own .Claim s false,.own .Claim t false,.own .Message u false]]⟩
def z0f(a:List Message)(b c d e:Int):Option (Int×Bool):=gp 203 Tryz.f203 0 o14' [1,1,1,0,0] [0] ⟨[(0,fL .Message a),(1,fI b),(2,.fl (.fn 204 [])),(8,fI c),(9,fI d),(10,fI e)],[]⟩
def z6b(a:Message)(b:Int):Option (Int):=callC tn 204 [dA .Message a,dI b] [] o1'
def z41(a b:Int):Option (Int):=callC tn 205 [dI a,dI b] [] o1'
def z61(a:Int):Option (Bool):=callC tn 230 [dI a] [] o0'
def z3d(a:Int)(b:List Trust)(c d e:Int)(f:List Int)(g:List Trust):Option (Int):=gp 179 Tryz.f179 0 o1' [1,1,0,1,0] [1] ⟨[(3,fI a),(7,fL .Trust b),(8,fI c),(9,fI d)],[[dI e,dL .i64 f,dL .Trust g]]⟩
def z3r(a:Int)(b:List Trust)(c d e:Int)(f:List Int)(g:List Trust):Option (Int):=gp 180 Tryz.f180 0 o1' [1,1,0,1,0] [1] ⟨[(3,fI a),(14,fL .Trust b),(15,fI c),(16,fI d)],[[dI e,dL .i64 f,dL .Trust g]]⟩
def z3e(a:List Trust)(b c d:Int)(e:List Int)(f:List Trust):Option (Int):=gp 181 Tryz.f181 0 o1' [1,1,1,1,0,1,0] [1] ⟨[(36,fL .Trust a),(37,fI b),(38,fI c)],[[dI d,dL .i64 e,dL .Trust f]]⟩
def z32(a:Int)(b:List Int)(c d e:Int)(f:List Int)(g:List Trust):Option (Int):=gp 152 Tryz.f152 0 o1' [1,1,0,1,0] [1] ⟨[(1,fP 0),(3,fI a),(9,fL .i64 b),(10,fI c),(11,fI d)],[[dI e,dL .i64 f,dL .Trust g]]⟩
def z62(a:Int):Option (Bool):=callC tn 193 [dI a] [] o0'
def z2m(a b:List Claim)(c d:Int):Option (Bool):=gp 147 Tryz.f147 0 o0' [1,0,1,0] [0] ⟨[(0,fL .Claim a),(5,fL .Claim b),(6,fI c),(7,fI d)],[]⟩
def z09(a b:Claim):Option (Int):=callC tn 190 [dA .Claim a,dA .Claim b] [] o1'
def z7g(a:List Int):Option (Int):=callC tn 219 [.d (.lf (.l (c:=.i64) a))] [] o1'
def z0x(a:List Claim)(b c d e:Int):Option (Int×Int×Int):=gp 188 Tryz.f188 1 o28' [1,0,1,0] [1] ⟨[(0,fL .Claim a),(1,.fl (.fn 199 [(0,0)])),(7,fI b),(8,fI c)],[[dI d,dI e]]⟩
def z72(a:Claim)(b c:Int):Option (Bool×Int×Int):=callC tn 199 [dA .Claim a,.ptr 0 0] [[dI b,dI c]] o26'
def z5l(a b:Claim):Option (Bool):=callC tn 146 [dA .Claim a,dA .Claim b] [] o0'
def z4h(a:List Trust)(b c d:Int)(e:List Int)(f:List Trust)(g:Int)(h:List Int)(i:List Trust)(j:Int)(k:List Int)(l:List Trust):Option (Trust):=gp 138 Tryz.f138 0 o8' [1,1,0,1,0] [3] ⟨[(2,fP 1),(3,fP 2),(13,fL .Trust a),(14,fI b),(15,fI c)],[[dI d,dL .i64 e,dL .Trust f],[dI g,.own .i64 h false,.own .Trust i false],[dI j,.own .i64 k false,.own .Trust l false]]⟩
def z4n(a:Bool)(b c d:Int)(e:List Int)(f:List Trust)(g h i:List Claim)(j:List Message)(k l m:Int)(n:List Int)(o:List Trust)(p q r:List Claim)(s:List Message)(t:List Member)(u v:Int):Option (Voter):=gp 229 Tryz.f229 0 o9' [1,1,0,1,0] [4] ⟨[(1,fP 0),(2,fP 1),(3,fP 2),(4,fP 3),(5,fB a)],[[dI b,dI c,dI d,dL .i64 e,dL .Trust f,dL .Claim g,dL .Claim h,dL .Claim i,dL .Message j],[dI k,dI l,dI m,.own .i64 n false,.own .Trust o false,.own .Claim p false,.own .Claim q false,.own .Claim r false,.own .Message s false],[dL .Member t],[dI u,dI v]]⟩
def z1y(a b:List Claim)(c d:Int):Option (Bool):=gp 156 Tryz.f156 0 o0' [1,1,0,1,0] [0] ⟨[(0,fL .Claim a),(1,fL .Claim b),(12,fI c),(13,fI d)],[]⟩
def z40(a:Int)(b:List Int)(c d:Int):Option (Int×Int):=gp 216 Tryz.f216 0 o15' [1,1,0,1,0] [0] ⟨[(4,fI a),(7,fL .i64 b),(8,fI c),(9,fI d)],[]⟩
def z21(a b:List Int)(c d:Int):Option (Bool):=gp 221 Tryz.f221 0 o0' [1,1,0,1,0] [0] ⟨[(0,fL .i64 a),(1,fL .i64 b),(12,fI c),(13,fI d)],[]⟩
def z0h(a b:List Trust)(c d:Int):Option (Bool):=gp 222 Tryz.f222 0 o0' [1,1,0,1,0] [0] ⟨[(1,fL .Trust a),(2,.fl (.fn 194 [])),(15,fL .Trust b),(16,fI c),(17,fI d)],[]⟩
def z0t(a:List Claim)(b c d e f:Int)(g:List Int)(h:List Trust)(i j k:List Claim)(l:List Message):Option (Int×Int×Int×Int×List Int×List Trust×List Claim×List Claim×List Claim×List Message):=gp 188 Tryz.f188 1 o29' [1,0,1,0] [1] ⟨[(0,fL .Claim a),(1,.fl (.fn 149 [(0,0)])),(7,fI b),(8,fI c)],[[dI d,dI e,dI f,dL .i64 g,dL .Trust h,dL .Claim i,dL .Claim j,dL .Claim k,dL .Message l]]⟩
def z6u(a:Claim)(b e f:Int)(g:List Int)(h:List Trust)(i j k:List Claim)(m:List Message):Option (Bool×Int×Int×Int×List Int×List Trust×List Claim×List Claim×List Claim×List Message):=callC tn 149 [dA .Claim a,.ptr 0 0] [[dI b,dI e,dI f,.d (.lf (.l (c:=.i64) g)),.d (.lf (.l (c:=.Trust) h)),.d (.lf (.l (c:=.Claim) i)),.d (.lf (.l (c:=.Claim) j)),.d (.lf (.l (c:=.Claim) k)),.d (.lf (.l (c:=.Message) m))]] o27'
def z1q(a:List Claim)(b c d e:Int):Option (Int):=gp 220 Tryz.f220 0 o1' [1,0,1,0] [1] ⟨[(0,fL .Claim a),(3,fP 0),(7,fI b),(8,fI c)],[[dI d,dI e]]⟩
def z2h(a:Int)(b:List Message)(c d e:Int)(f:List Int)(g:List Trust)(h i:List Member):Option (Config):=gp 243 Tryz.f243 0 o19' [1,1,0,1,0] [3] ⟨[(0,fI a),(4,fP 0),(6,fP 1),(7,fP 2),(12,fL .Message b),(13,fI c),(14,fI d)],[[dI e,dL .i64 f,dL .Trust g],[.own .Member h false],[.own .Member i false]]⟩
def z42(a:Trust):Option (Trust):=callC tn 256 [dA .Trust a] [] o8'
def z3o(a:List Message)(b:List Claim)(c d e f g:Int)(h:List Int)(i:List Trust)(j k l:List Claim)(m:List Message)(n:List Member)(o p:Int):Option (Claim×Bool):=gp 244 Tryz.f244 0 o30' [1,1,0,1,0] [3] ⟨[(2,fP 0),(3,fP 1),(4,fP 2),(6,fL .Message a),(17,fL .Claim b),(18,fI c),(19,fI d)],[[dI e,dI f,dI g,dL .i64 h,dL .Trust i,dL .Claim j,dL .Claim k,dL .Claim l,dL .Message m],[dL .Member n],[dI o,dI p]]⟩
def z6e(a:List Message)(b:Claim):Option (Int):=callC tn 259 [.d (.lf (.l (c:=.Message) a)),dA .Claim b] [] o1'
def z48(a:List Message)(b:Claim):Option (Int):=callC tn 246 [.d (.lf (.l (c:=.Message) a)),dA .Claim b] [] o1'
def z4o(a:Config)(b c d:Int):Option (Bool):=callC tn 258 [dA .Config a,dI b,dI c,dI d] [] o0'
def z1z(a:List Message)(b:Claim):Option (Int):=callC tn 260 [.d (.lf (.l (c:=.Message) a)),dA .Claim b,.fn 269 []] [] o1'
def z1v(a:List Message)(b:Claim):Option (Int):=callC tn 260 [.d (.lf (.l (c:=.Message) a)),dA .Claim b,.fn 261 []] [] o1'
def z5d(a:Config)(b c:Int):Option (Bool):=callC tn 268 [dA .Config a,dI b,dI c] [] o0'
def z4z(a:Config)(b:Int):Option (Int):=callC tn 225 [dA .Config a,dI b] [] o1'
def z2v(a:Config):Option (Int):=callC tn 249 [dA .Config a] [] o1'
def z37(a:Trust)(b:Int):Option (Bool):=callC tn 265 [dA .Trust a,dI b] [] o0'
def z5m(a:Config)(b:Int):Option (Int×List Int):=callC tn 239 [dA .Config a,dI b] [] o33'
def z0m(a:List Int)(b c:Int):Option (Int):=gp 234 Tryz.f234 0 o1' [1,0,1,0] [0] ⟨[(0,fL .i64 a),(1,.fl (.fn 215 [])),(7,fI b),(8,fI c)],[]⟩
def z5n(a:Int):Option (Bool):=callC tn 215 [dI a] [] o0'
def z5o(a b:Int)(c:List Claim):Option (Unit×List Claim):=gp 251 Tryz.f251 1 o23' [1,1,1,0,1,0] [1] ⟨[(0,.fl (.ref 0)),(1,.fl (.fn 252 [])),(5,fI a),(6,fI b)],[[.own .Claim c false]]⟩
def z4i(a:List Claim)(b:List Message)(c d:Int):Option (List Claim):=gp 257 Tryz.f257 0 o3' [1,1,0,1,0] [0] ⟨[(3,.fl (.own .Claim a false)),(6,fL .Message b),(7,fI c),(8,fI d)],[]⟩
def z10(a b:Int)(c:List Claim):Option (Int×List Claim):=gp 188 Tryz.f188 1 o7' [1,0,1,0] [1] ⟨[(0,.fl (.ref 0)),(1,.fl (.fn 252 [])),(7,fI a),(8,fI b)],[[.own .Claim c false]]⟩
def z6f(a:Claim):Option (Bool):=callC tn 252 [dA .Claim a] [] o0'
def z00(a b c:Int)(d e:Bool)(f:List Claim):Option (List Claim):=gp 266 Tryz.f266 1 o2' [1,1,0] [1] ⟨[(0,.fl (.ref 0)),(1,fI a),(2,fI b),(3,fI c),(4,.fl (.fn 190 [])),(10,fB d),(11,fB e)],[[.own .Claim f false]]⟩
def z1b(a b:Int)(c:List Claim):Option (List Claim):=callC tn 270 [.ref 0,dI a,dI b,.fn 190 []] [[.own .Claim c false]] o2'
def z1i(a b:Int)(c:List Claim):Option (List Claim):=callC tn 271 [.ref 0,dI a,dI b,.fn 190 []] [[.own .Claim c false]] o2'
def z1c(a b:Int)(c:List Claim):Option (List Claim):=callC tn 272 [.ref 0,dI a,dI b,.fn 190 []] [[.own .Claim c false]] o2'
def z0q(a b:Int)(c:List Claim):Option (Int×Int×List Claim):=callC tn 273 [.ref 0,dI a,dI b,.fn 190 []] [[.own .Claim c false]] o39'
def z0n(a b:Int)(c:List Claim):Option (List Claim):=callC tn 274 [.ref 0,dI a,dI b,.fn 190 []] [[.own .Claim c false]] o2'
def z08(a b:Int)(c:List Claim):Option (Bool×List Claim):=callC tn 275 [.ref 0,dI a,dI b,.fn 190 []] [[.own .Claim c false]] o10'
def z04(a b c:Int)(d:List Claim):Option (Int×List Claim):=callC tn 276 [.ref 0,dI a,dI b,dI c,.fn 190 []] [[.own .Claim d false]] o7'
def z02(a b c:Int)(d:List Claim):Option (Int×Bool×List Claim):=callC tn 277 [.ref 0,dI a,dI b,dI c,.fn 190 []] [[.own .Claim d false]] o6'
def z49(a:Int):Option (Int):=callC tn 281 [dI a] [] ⟨[.lf (.i .u64)],[]⟩
def z0l(a:Int)(b:List Claim)(c:Int):Option (Int×List Claim×Int):=callC tn 283 [.ref 0,dI a,.ptr 1 0,.fn 190 []] [[.own .Claim b false],[dI c]] o34'
def z12(a b c:Int)(d:List Claim)(e:Int):Option (Int×List Claim×Int):=callC tn 284 [.ref 0,dI a,dI b,dI c,.ptr 1 0,.fn 190 []] [[.own .Claim d false],[dI e]] o34'
def z13(a b:Int)(c:List Claim)(d:Int):Option (Int×Int×List Claim×Int):=callC tn 285 [.ref 0,dI a,dI b,.ptr 1 0,.fn 190 []] [[.own .Claim c false],[dI d]] o40'
def z33(a:List Int)(b:Bool)(c:List Int)(d e:Int)(f:List Voter)(g h:Int)(i:List Voter)(j k:Int):Option (Meeting×Bool):=gp 59 Tryz.f59 0 o21' [1,1,1,0,1,0] [2] ⟨[(1,fP 0),(2,fP 1),(4,fL .i64 a),(5,fB b),(21,fL .i64 c),(22,fI d),(23,fI e)],[[dL .Voter f,dI g,dI h],[.own .Voter i false,dI j,dI k]]⟩
def z3f(a:Int)(b:List Int)(c:Int):Option (List Int):=gp 103 Tryz.f103 0 o5' [1,1,0,1,0] [0] ⟨[(0,fI a),(3,.fl (.own .i64 b false)),(5,fI c)],[]⟩
def z4r(a b c d e:Int)(f:List Int)(g:List Trust)(h i j:List Claim)(k:List Message)(l m n:Int)(o:List Int)(p:List Trust)(q r s:List Claim)(t:List Message):Option (Bool):=gp 77 Tryz.f77 0 o0' [1,1,0,1,0] [2] ⟨[(2,fP 0),(3,fP 1),(61,fI a),(62,fI b)],[[dI c,dI d,dI e,dL .i64 f,dL .Trust g,dL .Claim h,dL .Claim i,dL .Claim j,dL .Message k],[dI l,dI m,dI n,dL .i64 o,dL .Trust p,dL .Claim q,dL .Claim r,dL .Claim s,dL .Message t]]⟩
def z7p(a b:Message):Option (Bool):=callC tn 131 [dA .Message a,dA .Message b] [] o0'
def z4a(a:Int)(b:List Voter)(c d:Int)(e:List Message)(f g:Int)(h:List Voter)(i j k l m:Int)(n:List Int)(o:List Trust)(p q r:List Claim)(s:List Message):Option (Bool):=gp 32 Tryz.f32 0 o0' [1,1,1,0,1,0,0,1,1,0,0,1,1,1,0] [1,1,1,2] ⟨[(3,fI a),(50,fL .Voter b),(51,fI c),(52,fI d),(75,fL .Message e),(76,fI f),(77,fI g)],[[dL .Voter h,dI i,dI j],[dI k,dI l,dI m,dL .i64 n,dL .Trust o,dL .Claim p,dL .Claim q,dL .Claim r,dL .Message s]]⟩
def z4b(a:List Claim)(b c d e f:Int)(g:List Int)(h:List Trust)(i j k:List Claim)(l:List Message):Option (Bool):=gp 78 Tryz.f78 0 o0' [1,1,1,0,1,0] [1] ⟨[(1,fP 0),(60,fL .Claim a),(61,fI b),(62,fI c)],[[dI d,dI e,dI f,dL .i64 g,dL .Trust h,dL .Claim i,dL .Claim j,dL .Claim k,dL .Message l]]⟩
def z3k(a:Int)(b:List Int)(c d e:Int)(f:List Int)(g:List Trust):Option (Int):=gp 79 Tryz.f79 0 o1' [1,1,0,1,0] [1] ⟨[(1,fP 0),(3,fI a),(9,fL .i64 b),(10,fI c),(11,fI d)],[[dI e,dL .i64 f,dL .Trust g]]⟩
def z2w(a b:List Claim)(c d:Int):Option (Bool):=gp 132 Tryz.f132 0 o0' [1,0,1,0] [0] ⟨[(0,fL .Claim a),(5,fL .Claim b),(6,fI c),(7,fI d)],[]⟩
def z7h(a:Claim):Option (Bool):=callC tn 140 [dA .Claim a] [] o0'
def z73(a b:Claim):Option (Int):=callC tn 175 [dA .Claim a,dA .Claim b] [] o1'
def z28(a b:List Claim)(c d:Int):Option (Bool):=gp 22 Tryz.f22 0 o0' [1,0,1,0] [0] ⟨[(0,fL .Claim a),(7,fL .Claim b),(8,fI c),(9,fI d)],[]⟩
def z50(a:Int)(b:List Trust)(c d e:Int)(f:List Int)(g:List Trust):Option (Int):=gp 129 Tryz.f129 0 o1' [1,1,0,1,0] [1] ⟨[(3,fI a),(7,fL .Trust b),(8,fI c),(9,fI d)],[[dI e,dL .i64 f,dL .Trust g]]⟩
def z5j(a:Int)(b:List Trust)(c d e:Int)(f:List Int)(g:List Trust):Option (Int):=gp 128 Tryz.f128 0 o1' [1,1,0,1,0] [1] ⟨[(3,fI a),(14,fL .Trust b),(15,fI c),(16,fI d)],[[dI e,dL .i64 f,dL .Trust g]]⟩
def z26(a:List Int)(b c d:Int)(e:List Int)(f:List Trust):Option (Int):=gp 133 Tryz.f133 0 o1' [1,1,0,1,0] [1] ⟨[(1,fP 0),(26,fL .i64 a),(27,fI b),(28,fI c)],[[dI d,dL .i64 e,dL .Trust f]]⟩
def z7k(a:List Int):Option (Int×Int):=callC tn 176 [.d (.lf (.l (c:=.i64) a))] [] o15'
def z53(a b:Int)(c:List Int)(d:Int)(e f:List Member):Option (Config×List Int×Int):=gp 25 Tryz.f25 1 o16' [1,1,1,0,1,0] [3] ⟨[(4,fP 1),(5,fP 2),(22,fI a),(23,fI b)],[[dL .i64 c,dI d],[.own .Member e false],[.own .Member f false]]⟩
def z2x(a b:Int)(c:Bool)(d:List Play)(e f g:Int)(h:List Int)(i:Int)(j:List Member)(k l m n o p:Int)(q:List Int)(r:List Trust)(s t u:Int)(v:List Int)(w:List Trust)(x y:List Claim):Option (List Play×List Int×Int):=gp 27 Tryz.f27 1 o18' [1,1,1,0,1,0,0,1,0,0,1,1,0,1,0,1,1,1,1,1,1,1,1,1,0,1,0] [2,2,2,3,3] ⟨[(0,fP 0),(2,fI a),(3,fI b),(4,fB c),(11,.fl (.own .Play d false)),(12,fI e),(13,fI f),(14,fP 2),(15,fI g)],[[dL .i64 h,dI i],[dL .Member j],[dI k,dI l,dI m,dI n,dI o,dI p,.own .i64 q false,.own .Trust r false,dI s,dI t,dI u,.own .i64 v false,.own .Trust w false,.own .Claim x false,.own .Claim y false]]⟩
def z7u(a:Int)(b:List Int)(e:Int):Option (List Claim×List Int×Int):=callC tn 73 [.ptr 0 0,dI a] [[.d (.lf (.l (c:=.i64) b)),dI e]] o35'
def z54(a b:Int)(c:List Int)(d e:Int)(f:List Int)(g h:Int)(i:List Int)(j:List Trust)(k:Int)(l:List Int)(m:List Trust):Option (Trust×List Int×Int):=gp 174 Tryz.f174 1 o4' [1,1,1,0,1,0] [3] ⟨[(0,fP 0),(1,fI a),(2,fI b),(6,fP 1),(7,fP 2),(20,fL .i64 c),(21,fI d),(22,fI e)],[[dL .i64 f,dI g],[dI h,.own .i64 i false,.own .Trust j false],[dI k,.own .i64 l false,.own .Trust m false]]⟩
def z43(a:Int)(b:List Int)(c:Int)(d:List Int)(e:Int):Option (List Int×List Int×Int):=gp 213 Tryz.f213 1 o22' [1,1,0,1,0] [1] ⟨[(0,fP 0),(1,fI a),(5,.fl (.own .i64 b false)),(6,fI c)],[[dL .i64 d,dI e]]⟩
def z0j(a:List Message)(b c d:Int):Option (Int×Int):=gp 153 Tryz.f153 1 o32' [1,0,1,0] [1] ⟨[(0,fL .Message a),(1,.fl (.fn 108 [(0,0)])),(7,fI b),(8,fI c)],[[dI d]]⟩
def z66(a:Message)(b:Int):Option (Bool×Int):=callC tn 108 [dA .Message a,.ptr 0 0] [[dI b]] o31'
def z55(a b:Int)(c:List Int)(d e:Int)(f:List Int)(g:List Trust)(h:Int)(i:List Int)(j:List Trust):Option (Trust×List Int×Int):=gp 126 Tryz.f126 1 o4' [1,1,0,1,0] [3] ⟨[(0,fP 0),(1,fI a),(4,fP 1),(5,fP 2),(6,fI b)],[[dL .i64 c,dI d],[dI e,.own .i64 f false,.own .Trust g false],[dI h,.own .i64 i false,.own .Trust j false]]⟩
def z2y(a b:Int)(c:List Trust)(d:Int)(e:List Int)(f g:Int)(h:List Int)(i:List Trust):Option (Trust×List Int×Int):=gp 127 Tryz.f127 1 o4' [1,1,0,1,0] [2] ⟨[(0,fP 0),(1,fI a),(2,fI b),(6,fP 1),(7,.fl (.own .Trust c false)),(8,fI d)],[[dL .i64 e,dI f],[dI g,.own .i64 h false,.own .Trust i false]]⟩
def z5e(a:Trust)(b:Int):Option (Bool):=callC tn 120 [dA .Trust a,dI b] [] o0'
def z2n(a b:List Claim)(c d:Int):Option (List Claim):=gp 24 Tryz.f24 0 o3' [1,1,0,1,0,0,1,0,0,1,0] [0,0,0,0] ⟨[(0,fL .Claim a),(3,.fl (.own .Claim b false)),(4,fI c),(5,fI d)],[]⟩
def z2c(a:Int)(b:List Int)(c:Bool)(d:List Int)(e f:Int)(g:List Member):Option (List Int):=gp 130 Tryz.f130 0 o5' [1,1,1,1,0,1,0,0,1,0,1,1,0] [1,1,1,1] ⟨[(2,fP 0),(5,fI a),(6,.fl (.own .i64 b false)),(7,fB c),(19,fL .i64 d),(20,fI e),(21,fI f)],[[dL .Member g]]⟩
def z3s(a:List Voter)(b c:Int)(d:List Message)(e f:Int)(g:List Voter)(h i:Int)(j:List Voter)(k l m n o:Int)(p:List Int)(q:List Trust)(r s t:List Claim)(u:List Message):Option (Meeting):=gp 58 Tryz.f58 0 o20' [1,1,1,0,1,0,0,1,1,0,0,1,1,1,1,0,1,0] [2,2,2,3] ⟨[(1,fP 0),(2,fP 1),(5,fP 2),(12,fL .Voter a),(13,fI b),(14,fI c),(37,fL .Message d),(38,fI e),(39,fI f)],[[.own .Voter g false,dI h,dI i],[.own .Voter j false,dI k,dI l],[dI m,dI n,dI o,dL .i64 p,dL .Trust q,.own .Claim r false,.own .Claim s false,.own .Claim t false,.own .Message u false]]⟩
def z3g(a:Message):Option (Message):=callC tn 117 [dA .Message a] [] o13'
def z3t(a:List Trust)(b c d:Int)(e:List Int)(f:List Trust)(g:Int)(h:List Int)(i:List Trust)(j:Int)(k:List Int)(l:List Trust):Option (Trust):=gp 96 Tryz.f96 0 o8' [1,1,0,1,0] [3] ⟨[(2,fP 1),(3,fP 2),(13,fL .Trust a),(14,fI b),(15,fI c)],[[dI d,dL .i64 e,dL .Trust f],[dI g,.own .i64 h false,.own .Trust i false],[dI j,.own .i64 k false,.own .Trust l false]]⟩
def z34(a:Int)(b:List Trust)(c d e:Int)(f:List Int)(g:List Trust):Option (Int):=gp 152 Tryz.f152 0 o1' [1,1,1,0,1,0] [1] ⟨[(3,fI a),(23,fL .Trust b),(24,fI c),(25,fI d)],[[dI e,dL .i64 f,dL .Trust g]]⟩
def z51(a:Int)(b:List Int)(c d:Int):Option (Int):=gp 219 Tryz.f219 0 o1' [1,1,0,1,0] [0] ⟨[(3,fI a),(6,fL .i64 b),(7,fI c),(8,fI d)],[]⟩
def z35(a:List Message)(b:List Claim)(c d e f g:Int)(h:List Int)(i:List Trust)(j k l:List Claim)(m:List Message)(n o p:Int)(q:List Int)(r:List Trust)(s t u:List Claim)(v:List Message)(w:List Member)(x y:Int):Option (Voter):=gp 229 Tryz.f229 0 o9' [1,1,1,1,0,1,0] [4] ⟨[(1,fP 0),(2,fP 1),(3,fP 2),(6,fL .Message a),(43,fL .Claim b),(44,fI c),(45,fI d)],[[dI e,dI f,dI g,dL .i64 h,dL .Trust i,dL .Claim j,dL .Claim k,dL .Claim l,dL .Message m],[dI n,dI o,dI p,.own .i64 q false,.own .Trust r false,.own .Claim s false,.own .Claim t false,.own .Claim u false,.own .Message v false],[dL .Member w],[dI x,dI y]]⟩
def z4c(a:Config)(b c:Int):Option (Bool):=callC tn 245 [dA .Config a,dI b,dI c] [] o0'
def z38(a:List Trust)(b c d:Int)(e:List Int)(f:List Trust)(g:Int)(h:List Int)(i:List Trust)(j:Int)(k:List Int)(l:List Trust):Option (Trust):=gp 256 Tryz.f256 0 o8' [1,1,0,1,0] [3] ⟨[(2,fP 1),(3,fP 2),(13,fL .Trust a),(14,fI b),(15,fI c)],[[dI d,dL .i64 e,dL .Trust f],[dI g,.own .i64 h false,.own .Trust i false],[dI j,.own .i64 k false,.own .Trust l false]]⟩
def z18(a:Int)(b:List Message)(c d e f:Int):Option (Int):=gp 260 Tryz.f260 0 o1' [1,1,0,1,0] [1] ⟨[(2,.fl (.fn 269 [])),(4,fP 0),(7,fI a),(10,fL .Message b),(11,fI c),(12,fI d)],[[dI e,dI f]]⟩
def z5p(a:Message):Option (List Claim):=callC tn 269 [dA .Message a] [] o3'
def z0y(a:Int)(b:List Message)(c d e f:Int):Option (Int):=gp 260 Tryz.f260 0 o1' [1,1,0,1,0] [1] ⟨[(2,.fl (.fn 261 [])),(4,fP 0),(7,fI a),(10,fL .Message b),(11,fI c),(12,fI d)],[[dI e,dI f]]⟩
def z4j(a:Message):Option (List Claim):=callC tn 261 [dA .Message a] [] o3'
def z1p(a:Int)(b:List Member)(c d:Int)(e:List Member):Option (Int):=gp 249 Tryz.f249 0 o1' [1,1,0,1,0] [1] ⟨[(3,fI a),(7,fL .Member b),(8,fI c),(9,fI d)],[[dL .Member e]]⟩
def z25(a b:Int)(c:List Int)(d e f:Int)(g:List Int)(h:List Trust):Option (Bool):=gp 265 Tryz.f265 0 o0' [1,1,1,0,1,0] [1] ⟨[(1,fI a),(2,fP 0),(5,fI b),(14,fL .i64 c),(15,fI d),(16,fI e)],[[dI f,dL .i64 g,dL .Trust h]]⟩
def z2s(a:Int)(b:List Int)(c:List Member):Option (Int×List Int):=gp 239 Tryz.f239 0 o33' [1,1,1,1,0] [1] ⟨[(1,fI a),(2,fP 0),(6,.fl (.own .i64 b false))],[[dL .Member c]]⟩
def z6g(a:Config)(b:Int):Option (Int×Bool):=callC tn 238 [dA .Config a,dI b] [] o14'
def z0d(a b c:Int)(d:List Claim):Option (List Claim):=gp 270 Tryz.f270 1 o2' [1,0] [1] ⟨[(0,.fl (.ref 0)),(1,fI a),(2,fI b),(3,.fl (.fn 190 [])),(8,fI c)],[[.own .Claim d false]]⟩
def z0r(a b c d:Int)(e:List Claim):Option (List Claim):=gp 271 Tryz.f271 1 o2' [1,1,1,0,1,0] [1] ⟨[(0,.fl (.ref 0)),(3,.fl (.fn 190 [])),(8,fI a),(9,fI b),(10,fI c),(11,fI d)],[[.own .Claim e false]]⟩
def z19(a b c:Int)(d:List Claim):Option (List Claim):=callC tn 280 [.ref 0,dI a,dI b,dI c,.fn 190 []] [[.own .Claim d false]] o2'
def z0b(a b c e:Int)(f:List Claim)(g:Int):Option (List Claim):=gp 272 Tryz.f272 1 o2' [1,1,0,1,1,1,0] [2] ⟨[(0,.fl (.ref 0)),(1,fI a),(8,fI b),(9,fP 1),(10,.fl (.d (.lf (.i .u64 c)))),(11,fI e)],[[.own .Claim f false],[.d (.lf (.i .u64 g))]]⟩
def z4k(a:Int):Option (Int×Int):=callC tn 282 [.ptr 0 0] [[.d (.lf (.i .u64 a))]] o41'
def z0z(a b:Int)(c:List Claim):Option (List Claim):=gp 274 Tryz.f274 1 o2' [1,1,0] [1] ⟨[(0,.fl (.ref 0)),(8,fI a),(9,fI b)],[[.own .Claim c false]]⟩
def z03(a b c d:Int)(e:List Claim):Option (Bool×List Claim):=gp 275 Tryz.f275 1 o10' [1,1,0,1,0] [1] ⟨[(0,.fl (.ref 0)),(1,fI a),(2,fI b),(3,.fl (.fn 190 [])),(9,fI c),(10,fI d)],[[.own .Claim e false]]⟩
def z0a(a b c:Int)(d:List Claim):Option (Int×List Claim):=gp 276 Tryz.f276 1 o7' [1,1,1,0,0] [1] ⟨[(0,.fl (.ref 0)),(1,fI a),(4,.fl (.fn 190 [])),(11,fI b),(12,fI c)],[[.own .Claim d false]]⟩
def z14(a b c:Int)(d:List Claim):Option (Int×Bool×List Claim):=gp 277 Tryz.f277 1 o6' [1,1,1,0,0] [1] ⟨[(0,.fl (.ref 0)),(1,fI a),(4,.fl (.fn 190 [])),(12,fI b),(13,fI c)],[[.own .Claim d false]]⟩
def z36(a:List Int)(b:Bool)(c:Int)(d:List Int)(e f:Int)(g:List Int)(h i:Int)(j:List Voter)(k l:Int)(m:List Voter)(n o:Int):Option (Meeting×Bool):=gp 59 Tryz.f59 0 o21' [1,1,1,0,1,0,0,1,1,0,0,1,1,0] [2,2,2,2] ⟨[(1,fP 0),(2,fP 1),(4,fL .i64 a),(5,fB b),(7,fI c),(21,fL .i64 d),(22,fI e),(23,fI f),(27,fL .i64 g),(28,fI h),(29,fI i)],[[dL .Voter j,dI k,dI l],[.own .Voter m false,dI n,dI o]]⟩
def z2k(a:List Message)(b c d e f:Int)(g:List Int)(h:List Trust)(i j k:List Claim)(l:List Message):Option (Bool):=gp 78 Tryz.f78 0 o0' [1,1,1,1,0,1,0] [1] ⟨[(1,fP 0),(73,fL .Message a),(74,fI b),(75,fI c)],[[dI d,dI e,dI f,dL .i64 g,dL .Trust h,dL .Claim i,dL .Claim j,dL .Claim k,dL .Message l]]⟩
def z7i(a:Message):Option (Bool):=callC tn 101 [dA .Message a] [] o0'
def z4s(a:Int)(b:List Trust)(c d e:Int)(f:List Int)(g:List Trust):Option (Int):=gp 79 Tryz.f79 0 o1' [1,1,1,0,1,0] [1] ⟨[(3,fI a),(27,fL .Trust b),(28,fI c),(29,fI d)],[[dI e,dL .i64 f,dL .Trust g]]⟩
def z2f(a b:List Claim)(c d:Int)(e:List Claim)(f g h i:Int):Option (Bool):=gp 22 Tryz.f22 0 o0' [1,0,1,0,0,1,1,0,0,1,1,0] [0,0,0,1] ⟨[(0,fL .Claim a),(4,fP 0),(7,fL .Claim b),(8,fI c),(9,fI d),(16,fL .Claim e),(17,fI f),(18,fI g)],[[dI h,dI i]]⟩
def z67(a b:Claim):Option (Bool):=callC tn 66 [dA .Claim a,dA .Claim b] [] o0'
def z27(a:List Trust)(b c d:Int)(e:List Int)(f:List Trust):Option (Int):=gp 133 Tryz.f133 0 o1' [1,1,1,1,0,1,0] [1] ⟨[(49,fL .Trust a),(50,fI b),(51,fI c)],[[dI d,dL .i64 e,dL .Trust f]]⟩
def z2o(a:Int)(b:List Int)(c d:Int):Option (Int×Int):=gp 176 Tryz.f176 0 o15' [1,1,0,1,0] [0] ⟨[(4,fI a),(7,fL .i64 b),(8,fI c),(9,fI d)],[]⟩
def z68(a:List Claim)(b:Int)(c:List Int)(d:Int):Option (List Claim×List Int×Int):=gp 73 Tryz.f73 1 o35' [1,1,0,1,0] [1] ⟨[(0,fP 0),(5,.fl (.own .Claim a false)),(6,fI b)],[[dL .i64 c,dI d]]⟩
def z7s(a:List Int)(b:Int):Option (Claim×List Int×Int):=callC tn 88 [.ptr 0 0] [[.d (.lf (.l (c:=.i64) a)),dI b]] o42'
def z56(a b c:Int)(d:List Int)(e f:Int)(g:List Int)(h:List Trust)(i:Int)(j:List Int)(k:List Trust):Option (Trust×List Int×Int):=gp 174 Tryz.f174 1 o4' [1,1,1,1,0,1,0,0,1,0] [3] ⟨[(0,fP 0),(1,fI a),(2,fI b),(6,fP 1),(7,fP 2),(11,fI c)],[[dL .i64 d,dI e],[dI f,.own .i64 g false,.own .Trust h false],[dI i,.own .i64 j false,.own .Trust k false]]⟩
def z44(a:List Int)(b:Int)(c:List Int)(d:Int):Option (List Int×List Int×Int):=gp 213 Tryz.f213 1 o22' [1,1,1,0,1,0] [1] ⟨[(0,fP 0),(5,.fl (.own .i64 a false)),(7,fI b)],[[dL .i64 c,dI d]]⟩
def z5u(a b:Int)(c:List Trust)(d e:Int)(f:List Int)(g h:Int)(i:List Int)(j:List Trust)(k:Int)(l:List Int)(m:List Trust):Option (Trust×List Int×Int):=gp 127 Tryz.f127 1 o4' [1,1,0,1,0,0,1,0,0,1,0,1,0] [2,2,2,3] ⟨[(0,fP 0),(1,fI a),(2,fI b),(6,fP 1),(7,.fl (.own .Trust c false)),(8,fI d),(9,fP 2),(10,fI e)],[[dL .i64 f,dI g],[dI h,.own .i64 i false,.own .Trust j false],[dI k,.own .i64 l false,.own .Trust m false]]⟩
def z2q(a b:Int)(c:List Int)(d e f:Int)(g:List Int)(h:List Trust):Option (Bool):=gp 120 Tryz.f120 0 o0' [1,1,1,0,1,0] [1] ⟨[(1,fI a),(2,fP 0),(5,fI b),(14,fL .i64 c),(15,fI d),(16,fI e)],[[dI f,dL .i64 g,dL .Trust h]]⟩
def z4l(a:Int)(b:List Int)(c:Bool)(d:List Int)(e f:Int)(g:Bool)(h:List Member):Option (List Int):=gp 130 Tryz.f130 0 o5' [1,1,1,1,0,1,0] [1] ⟨[(2,fP 0),(5,fI a),(6,.fl (.own .i64 b false)),(7,fB c),(19,fL .i64 d),(20,fI e),(21,fI f),(22,fB g)],[[dL .Member h]]⟩
def z1w(a b:Int)(c:List Trust)(d e f:Int)(g:List Int)(h:List Trust):Option (Bool):=gp 265 Tryz.f265 0 o0' [1,1,1,1,0,1,0] [1] ⟨[(1,fI a),(2,fP 0),(5,fI b),(27,fL .Trust c),(28,fI d),(29,fI e)],[[dI f,dL .i64 g,dL .Trust h]]⟩
def z3h(a:Int)(b:List Int)(c d:Int)(e:List Member):Option (Int×Bool):=gp 238 Tryz.f238 0 o14' [1,0,1,0] [1] ⟨[(1,fI a),(2,fP 0),(9,fL .i64 b),(10,fI c),(11,fI d)],[[dL .Member e]]⟩
def z6h(a:Config)(b c:Int):Option (Bool):=callC tn 250 [dA .Config a,dI b,dI c] [] o0'
def z0g(a b c d:Int)(e:List Claim):Option (List Claim):=gp 270 Tryz.f270 1 o2' [1,0,0,1,0,0,1,0] [1,1,1,1] ⟨[(0,.fl (.ref 0)),(1,fI a),(2,fI b),(3,.fl (.fn 190 [])),(8,fI c),(9,fI d)],[[.own .Claim e false]]⟩
def z0s(a b c:Int)(d:List Claim):Option (List Claim):=gp 271 Tryz.f271 1 o2' [1,1,1,1,1,0] [1] ⟨[(0,.fl (.ref 0)),(3,.fl (.fn 190 [])),(8,fI a),(9,fI b),(12,fI c)],[[.own .Claim d false]]⟩
def z0c(a b c:Int)(d:List Claim):Option (List Claim):=gp 280 Tryz.f280 1 o2' [1,0] [1] ⟨[(0,.fl (.ref 0)),(2,fI a),(3,fI b),(4,.fl (.fn 190 [])),(10,fI c)],[[.own .Claim d false]]⟩
def z11(a b c d:Int)(e:Bool)(f:List Claim):Option (Bool×List Claim):=gp 275 Tryz.f275 1 o10' [1,1,0,1,0,0,1,0,0,0,0] [1,1,1,1] ⟨[(0,.fl (.ref 0)),(1,fI a),(2,fI b),(3,.fl (.fn 190 [])),(9,fI c),(10,fI d),(16,fB e)],[[.own .Claim f false]]⟩
def z0u(a b c:Int)(d:List Claim):Option (Int×List Claim):=gp 276 Tryz.f276 1 o7' [1,1,1,0,0,0,0,0,0] [1,1,1,1] ⟨[(0,.fl (.ref 0)),(1,fI a),(4,.fl (.fn 190 [])),(11,fI b),(12,fI c)],[[.own .Claim d false]]⟩
def z0o(a b c:Int)(d:Bool)(e:List Claim):Option (Int×Bool×List Claim):=gp 277 Tryz.f277 1 o6' [1,1,1,1,0,0] [1] ⟨[(0,.fl (.ref 0)),(1,fI a),(4,.fl (.fn 190 [])),(12,fI b),(13,fI c),(47,fB d)],[[.own .Claim e false]]⟩
def z2d(a b:Int)(c:List Trust)(d e f:Int)(g:List Int)(h:List Trust):Option (Bool):=gp 120 Tryz.f120 0 o0' [1,1,1,1,0,1,0] [1] ⟨[(1,fI a),(2,fP 0),(5,fI b),(27,fL .Trust c),(28,fI d),(29,fI e)],[[dI f,dL .i64 g,dL .Trust h]]⟩
def z0i(a b c d:Int)(e:List Claim):Option (Bool×List Claim):=gp 275 Tryz.f275 1 o10' [1,1,0,1,0,0,1,0,0,0,0] [1,1,1,1] ⟨[(0,.fl (.ref 0)),(1,fI a),(2,fI b),(3,.fl (.fn 190 [])),(9,fI c),(10,fI d)],[[.own .Claim e false]]⟩
def z07(a b c d e:Int)(f:List Claim):Option (Bool×List Claim):=gp 275 Tryz.f275 1 o10' [1,1,0,1,0,0,1,0,0,1,1,1,1,0,1,0,1,0] [1,1,1,1] ⟨[(0,.fl (.ref 0)),(1,fI a),(2,fI b),(3,.fl (.fn 190 [])),(9,fI c),(10,fI d),(11,fI e)],[[.own .Claim f false]]⟩
def z05(a b c d e:Int)(f:List Claim):Option (Bool×List Claim):=gp 275 Tryz.f275 1 o10' [1,1,0,1,0,0,1,0,0,1,1,1,1,1,1,0,1,0] [1,1,1,1] ⟨[(0,.fl (.ref 0)),(1,fI a),(2,fI b),(3,.fl (.fn 190 [])),(9,fI c),(10,fI d),(12,fI e)],[[.own .Claim f false]]⟩
def z0e(a b c:Int)(d:Bool)(e:List Claim):Option (Int×List Claim):=gp 276 Tryz.f276 1 o7' [1,1,1,0,0,0,0,1,0,0] [1,1,1,1] ⟨[(0,.fl (.ref 0)),(1,fI a),(4,.fl (.fn 190 [])),(11,fI b),(12,fI c),(47,fB d)],[[.own .Claim e false]]⟩
def z15(a b c:Int)(d:List Claim):Option (Int×Bool×List Claim):=gp 277 Tryz.f277 1 o6' [1,1,1,1,0,0] [1] ⟨[(0,.fl (.ref 0)),(1,fI a),(4,.fl (.fn 190 [])),(12,fI b),(13,fI c)],[[.own .Claim d false]]⟩
def z06(a b c:Int)(d:List Claim):Option (Int×Bool×List Claim):=gp 277 Tryz.f277 1 o6' [1,1,1,1,1,1,1,1,1,0,0] [1] ⟨[(0,.fl (.ref 0)),(1,fI a),(4,.fl (.fn 190 [])),(12,fI b),(13,fI c)],[[.own .Claim d false]]⟩
def z0v(a b c:Int)(d:List Claim):Option (Int×List Claim):=gp 276 Tryz.f276 1 o7' [1,1,1,0,0,0,0,1,0,0] [1,1,1,1] ⟨[(0,.fl (.ref 0)),(1,fI a),(4,.fl (.fn 190 [])),(11,fI b),(12,fI c)],[[.own .Claim d false]]⟩
def z16(a b c:Int)(d:List Claim):Option (Int×Bool×List Claim):=gp 277 Tryz.f277 1 o6' [1,1,1,1,1,1,1,1,1,0,0,0,0,0,0] [1,1,1,1] ⟨[(0,.fl (.ref 0)),(1,fI a),(4,.fl (.fn 190 [])),(12,fI b),(13,fI c)],[[.own .Claim d false]]⟩
def z0p(a b c:Int)(d:Bool)(e:List Claim):Option (Int×Bool×List Claim):=gp 277 Tryz.f277 1 o6' [1,1,1,1,1,1,1,1,1,0,0,0,0,1,0,0] [1,1,1,1] ⟨[(0,.fl (.ref 0)),(1,fI a),(4,.fl (.fn 190 [])),(12,fI b),(13,fI c),(120,fB d)],[[.own .Claim e false]]⟩
def z17(a b c:Int)(d:List Claim):Option (Int×Bool×List Claim):=gp 277 Tryz.f277 1 o6' [1,1,1,1,1,1,1,1,1,0,0,0,0,1,0,0] [1,1,1,1] ⟨[(0,.fl (.ref 0)),(1,fI a),(4,.fl (.fn 190 [])),(12,fI b),(13,fI c)],[[.own .Claim d false]]⟩
end
end Go.Proofs.YtdmfjabikomgiaaGreat
