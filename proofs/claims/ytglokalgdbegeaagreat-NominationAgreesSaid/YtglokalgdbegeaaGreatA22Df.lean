/- What the functions come to: names. -/
import Derived.Test.YtglokalgdbegeaaGreatA22Env
namespace Go.Proofs.YtglokalgdbegeaaGreat
open Go Go.Ab
abbrev dA(c:sig.TC)(x:sig.Ty c):TL sig:=.d (.ag (sig.cells c x))
noncomputable abbrev gp(f:Nat)(fn:Func)(k:Nat)(o:OSpec sig)(p ms:List Nat)(st:TSt sig):Option o.Out:=goC tn ⟨f,fn,k⟩ o (q08 fn p) (yd2 fn p ms) st
abbrev fI(n:Int):TV sig:=.fl (.d (.lf (.i .i64 n)))
abbrev fB(n:Bool):TV sig:=.fl (.d (.lf (.b n)))
abbrev fL(c:sig.TC)(l:List (sig.Ty c)):TV sig:=.fl (.d (.lf (.l c l)))
abbrev fP(n:Nat):TV sig:=.fl (.ptr n 0)
abbrev dI(n:Int):TL sig:=.d (.lf (.i .i64 n))
abbrev dL(c:sig.TC)(l:List (sig.Ty c)):TL sig:=.d (.lf (.l c l))
noncomputable section
def law22_NominationAgrees(a:List Int):Option (Bool):=callC tn 4 [.d (.lf (.l (c:=.i64) a))] [] o0'
def z7j(a:List Int):Option (Unit×List Int×Int):=callC tn 8 [.d (.lf (.l (c:=.i64) a))] [] o30'
def z7k(a:Int)(b:List Int)(e:Int):Option (Config×List Int×Int):=callC tn 15 [.ptr 0 0,dI a] [[.d (.lf (.l (c:=.i64) b)),dI e]] o16'
def z1n(a:Int)(b:List Int)(e:Int):Option (Int×List Int×Int):=callC tn 10 [.ptr 0 0,dI a] [[.d (.lf (.l (c:=.i64) b)),dI e]] o17'
def z5f(a b:List Int)(e:Int):Option (Int×List Int×Int):=callC tn 16 [.ptr 0 0,.d (.lf (.l (c:=.i64) a))] [[.d (.lf (.l (c:=.i64) b)),dI e]] o17'
def z7c(a b:Config)(c:Int):Option (Int×Int):=callC tn 17 [dA .Config a,dA .Config b,dI c] [] o3'
def z7f(a:Int)(b:List Int)(e:Int):Option (Unit×Unit×List Int×Int×List Member):=callC tn 59 [.ptr 0 0,dI a] [[.d (.lf (.l (c:=.i64) b)),dI e]] o22'
def z6f(a b:Config)(c:Int):Option (Int×Int):=callC tn 61 [dA .Config a,dA .Config b,dI c] [] o3'
def z5o(a:Config):Option (Int):=callC tn 62 [dA .Config a] [] o1'
def z1t(a b:Int)(e:List Int)(f:Int):Option (Int×List Int×Int):=callC tn 9 [.ptr 0 0,dI a,dI b] [[.d (.lf (.l (c:=.i64) e)),dI f]] o17'
def z73(a b:Config)(c:Int):Option (Int):=callC tn 111 [dA .Config a,dA .Config b,dI c] [] o1'
def z50(a:Config)(b:Int):Option (Bool×Int):=callC tn 112 [dA .Config a,dI b] [] o18'
def z7g(a b:Config)(c:Int):Option (List Int×Int):=callC tn 113 [dA .Config a,dA .Config b,dI c] [] o23'
def z6o(a b:Config):Option (Int):=callC tn 148 [dA .Config a,dA .Config b] [] o1'
def z4b(a:Config):Option (Int):=callC tn 60 [dA .Config a] [] o1'
def z6s(a:Config)(b:Int):Option (Int):=callC tn 149 [dA .Config a,dI b] [] o1'
def z6t(a:Config)(b:Int):Option (Config):=callC tn 151 [dA .Config a,dI b] [] o9'
def z74(a:Config):Option (Bool×Int):=callC tn 150 [dA .Config a] [] o18'
def z75(a b:Config)(c:Int):Option (Int):=callC tn 152 [dA .Config a,dA .Config b,dI c] [] o1'
def z4r(a:Config):Option (Int):=callC tn 154 [dA .Config a] [] o1'
def z66(a:Int):Option (List Int):=callC tn 153 [dI a] [] o4'
def z3g(a:Config):Option (Int):=callC tn 176 [dA .Config a] [] o1'
def z2e(a:Int):Option (Bool):=callC tn 66 [dI a] [] o0'
def z76(a:Config):Option (Int×Int):=callC tn 178 [dA .Config a] [] o3'
def z4s(a:Config):Option (Int):=callC tn 196 [dA .Config a] [] o1'
def z1s(a b c d:Int)(e:List Nominator)(f:Int)(g:List Int)(h:Int)(i:List Member):Option (Bool):=gp 4 Tryz.f4 0 o0' [1,1,1,1,1,1,1,1,0,1,0] [2] ⟨[(3,fP 0),(4,fP 1),(5,fI a),(6,fI b),(7,fI c),(9,fI d),(10,.fl (.own .Nominator e false)),(11,fI f)],[[dL .i64 g,dI h],[dL .Member i]]⟩
def z7d(a:List Int)(b:Int):Option (List UInt8×List Int×Int):=callC tn 18 [.ptr 0 0] [[.d (.lf (.l (c:=.i64) a)),dI b]] o31'
def z34(a b:Int)(c:Trust)(e:List UInt8):Option (Nominator×Int):=callC tn 12 [dI a,dI b,dA .Trust c,.d (.lf (.s e))] [] o19'
def z4f(a:Int):Option (Bool):=callC tn 55 [dI a] [] o0'
def z2l(a:Trust):Option (Int):=callC tn 56 [dA .Trust a] [] o1'
def z35(a:Nominator):Option (Nominator):=callC tn 58 [dA .Nominator a] [] o10'
def z1z(a:Nominator):Option (Nominator):=callC tn 57 [dA .Nominator a] [] o10'
def z5j(a:Trust):Option (Int):=callC tn 97 [dA .Trust a] [] o1'
def z60(a:Trust):Option (Int):=callC tn 98 [dA .Trust a] [] o1'
def z5k(a:Trust):Option (Int):=callC tn 99 [dA .Trust a] [] o1'
def z64(a:Nominator):Option (List (List UInt8)):=callC tn 102 [dA .Nominator a] [] o8'
def z5l(a:Nominator):Option (Config):=callC tn 103 [dA .Nominator a] [] o9'
def z3q(a:Nominator)(b:Config):Option (List UInt8×Bool):=callC tn 104 [dA .Nominator a,dA .Config b] [] o14'
def z3y(a:Trust):Option (Trust):=callC tn 100 [dA .Trust a] [] o6'
def z1c(a:List (List UInt8)):Option (Unit×List (List UInt8)):=callC tn 101 [.d (.lf (.l (c:=.s) a))] [] ⟨[.ref 0],[[.own .s false]]⟩
def z1f(a:List Int):Option (Bool):=callC tn 134 [.d (.lf (.l (c:=.i64) a)),.fn 135 []] [] o0'
def z7a(a:List Int):Option (Int×Int):=callC tn 137 [.d (.lf (.l (c:=.i64) a))] [] o3'
def z68(a:Trust)(b c d:Int):Option (Int×Int):=callC tn 139 [dA .Trust a,dI b,dI c,dI d] [] o3'
def z67(a:Int):Option (List Int):=callC tn 140 [dI a] [] o4'
def z1h(a:List Nomination):Option (Unit×List Nomination):=callC tn 71 [.d (.lf (.l (c:=.Nomination) a))] [] ⟨[.ref 0],[[.own .Nomination false]]⟩
def z51(a:Nominator):Option (Nomination):=callC tn 65 [dA .Nominator a] [] o20'
def z52(a:List Nomination):Option (List (List UInt8)):=callC tn 141 [.d (.lf (.l (c:=.Nomination) a))] [] o8'
def z3j(a:List Int):Option (Unit×List Int):=callC tn 138 [.d (.lf (.l (c:=.i64) a))] [] ⟨[.ref 0],[[.own .i64 false]]⟩
def z1p(a:List Int):Option (Int):=callC tn 163 [.d (.lf (.l (c:=.i64) a)),.fn 135 []] [] o1'
def z6l(a:Trust)(b c d:Int):Option (Int):=callC tn 164 [dA .Trust a,dI b,dI c,dI d] [] o1'
def z69(a:List Int)(b:Int)(c d:List Member):Option (Config×List Int×Int):=gp 15 Tryz.f15 1 o16' [1,1,0,0] [3] ⟨[(4,fP 1),(5,fP 2)],[[dL .i64 a,dI b],[.own .Member c false],[.own .Member d false]]⟩
def z1x(a b c:Int)(d:List Int)(e:Int)(f g:List Member):Option (Unit×Unit×List Int×Int×List Member):=gp 59 Tryz.f59 1 o22' [1,1,1,1,0,1,0] [3] ⟨[(0,fP 0),(4,fP 1),(5,fI a),(6,fI b),(7,fP 2),(8,fI c)],[[dL .i64 d,dI e],[.own .Member f false],[.own .Member g false]]⟩
def z6u(a b:Int)(e:List Int)(f:Int):Option (Trust×List Int×Int):=callC tn 27 [.ptr 0 0,dI a,dI b] [[.d (.lf (.l (c:=.i64) e)),dI f]] o5'
def z7l(a:Int)(b:List Int)(e:Int):Option (Trust×List Int×Int):=callC tn 108 [.ptr 0 0,dI a] [[.d (.lf (.l (c:=.i64) b)),dI e]] o5'
def z7h(a b:Int)(e:List Int)(f:Int):Option (Trust×List Int×Int):=callC tn 109 [.ptr 0 0,dI a,dI b] [[.d (.lf (.l (c:=.i64) e)),dI f]] o5'
def z6v(a b:Int)(e:List Int)(f:Int):Option (Trust×List Int×Int):=callC tn 74 [.ptr 0 0,dI a,dI b] [[.d (.lf (.l (c:=.i64) e)),dI f]] o5'
def z4c(a:Trust):Option (Int):=callC tn 75 [dA .Trust a] [] o1'
def z6m(a:Int)(b:List Int)(e:Int):Option (List Int×List Int×Int):=callC tn 117 [.ptr 0 0,dI a] [[.d (.lf (.l (c:=.i64) b)),dI e]] o21'
def z6p(a:Trust):Option (Int):=callC tn 118 [dA .Trust a] [] o1'
def z6x(a:Trust):Option (Int):=callC tn 119 [dA .Trust a] [] o1'
def z4d(a:Trust):Option (Int):=callC tn 120 [dA .Trust a] [] o1'
def z3m(a:Int)(b:List Int)(c d:Int)(e f:List Member):Option (Int×Int):=gp 61 Tryz.f61 0 o3' [1,1,1,1,1,0,1,0] [2] ⟨[(9,fI a),(41,fL .i64 b),(42,fI c),(43,fI d)],[[dL .Member e],[dL .Member f]]⟩
def z4g(a:Int)(b c:List Int)(d e:Int)(f g:List Member):Option (List Int×Int):=gp 113 Tryz.f113 0 o23' [1,1,1,0,1,0] [2] ⟨[(2,fI a),(3,fP 0),(4,fP 1),(9,.fl (.own .i64 b false)),(21,fL .i64 c),(22,fI d),(23,fI e)],[[dL .Member f],[dL .Member g]]⟩
def z7i(a b:Config)(c:Int):Option (Bool):=callC tn 155 [dA .Config a,dA .Config b,dI c] [] o0'
def z6a(a:Config)(b:Int):Option (Bool×Int):=callC tn 181 [dA .Config a,dI b] [] o18'
def z4h(a:Config)(b:Int):Option (Bool):=callC tn 197 [dA .Config a,dI b] [] o0'
def z5y(a:Int):Option (List Int):=callC tn 24 [dI a] [] o4'
def z3h(a b:Int)(c d:List Member):Option (Int):=gp 148 Tryz.f148 0 o1' [1,1,1,1,1,0,1,0] [2] ⟨[(2,fP 0),(3,fP 1),(39,fI a),(40,fI b)],[[dL .Member c],[dL .Member d]]⟩
def z42(a:List Member)(b c:Int)(d:List Member):Option (Int):=gp 60 Tryz.f60 0 o1' [1,1,0,1,0] [1] ⟨[(1,fP 0),(11,fL .Member a),(12,fI b),(13,fI c)],[[dL .Member d]]⟩
def z3s(a b:Trust):Option (Bool):=callC tn 83 [dA .Trust a,dA .Trust b] [] o0'
def z6y(a:Trust):Option (Int):=callC tn 110 [dA .Trust a] [] o1'
def z6z(a b:List Int):Option (Bool):=callC tn 123 [.d (.lf (.l (c:=.i64) a)),.d (.lf (.l (c:=.i64) b))] [] o0'
def z2m(a:Int)(b:List Member)(c d:Int)(e f g:List Member):Option (Config):=gp 151 Tryz.f151 0 o9' [1,1,1,0,1,0] [3] ⟨[(1,fI a),(4,fP 1),(5,fP 2),(13,fL .Member b),(14,fI c),(15,fI d)],[[dL .Member e],[.own .Member f false],[.own .Member g false]]⟩
def z43(a b:Int):Option (Bool):=callC tn 21 [dI a,dI b] [] o0'
def z77(a:Trust)(b c:Int):Option (Trust):=callC tn 179 [dA .Trust a,dI b,dI c] [] o6'
def z70(a:Trust)(b:Int):Option (Trust):=callC tn 198 [dA .Trust a,dI b] [] o6'
def z36(a:Int)(b:List Int)(c:Int):Option (List Int):=gp 153 Tryz.f153 0 o4' [1,1,0,1,0] [0] ⟨[(0,fI a),(3,.fl (.own .i64 b false)),(4,fI c)],[]⟩
def z71(a:Int):Option (Int):=callC tn 180 [dI a] [] o1'
def z2g(a:Int)(b:List Member)(c d:Int)(e:List Member):Option (Int):=gp 176 Tryz.f176 0 o1' [1,1,0,1,0] [1] ⟨[(3,fI a),(7,fL .Member b),(8,fI c),(9,fI d)],[[dL .Member e]]⟩
def z44(a:List Int)(b c:Int)(d:List Member):Option (Int×Int):=gp 178 Tryz.f178 0 o3' [1,0,1,0] [1] ⟨[(1,fP 0),(9,fL .i64 a),(10,fI b),(11,fI c)],[[dL .Member d]]⟩
def z6g(a:Config)(b:Int):Option (Int):=callC tn 161 [dA .Config a,dI b] [] o1'
def z5t(a:Config)(b:Int):Option (List Int):=callC tn 184 [dA .Config a,dI b] [] o4'
def z22(a b c e:Int)(f:List Nominator)(g h:Int)(i:List Int)(j:Int)(k:List Member)(l m n o p:Int)(q:List Int)(r:List Trust)(t:List UInt8)(u v w:List (List UInt8))(x:List Nomination):Option (Bool):=gp 4 Tryz.f4 0 o0' [1,1,1,1,1,1,1,1,0,1,0,0,1,0,0,1,1,0,1,0] [2,2,2,3] ⟨[(3,fP 0),(4,fP 1),(5,fI a),(6,fI b),(7,fI c),(9,fI e),(10,.fl (.own .Nominator f false)),(11,fI g),(12,fP 2),(14,fI h)],[[dL .i64 i,dI j],[dL .Member k],[dI l,dI m,dI n,dI o,dI p,dL .i64 q,dL .Trust r,.d (.lf (.s t)),dL .s u,dL .s v,dL .s w,dL .Nomination x]]⟩
def z5m(a:Nominator):Option (Nominator×Int):=callC tn 19 [dA .Nominator a] [] o19'
def z53(a:Nominator):Option (Bool):=callC tn 30 [dA .Nominator a] [] o0'
def z2h(a b:Nominator):Option (Nominator):=callC tn 63 [dA .Nominator a,dA .Nominator b] [] o10'
def z5g(a:Nominator):Option (Bool):=callC tn 78 [dA .Nominator a] [] o0'
def z31(a:List (List UInt8)):Option (Bool):=callC tn 79 [.d (.lf (.l (c:=.s) a))] [] o0'
def z19(a:List (List UInt8))(b e f g h:Int)(i:List Int)(j:List Trust)(k:List UInt8)(m n o:List (List UInt8))(p:List Nomination):Option (Bool×Int×Int×Int×Int×Int×List Int×List Trust×List UInt8×List (List UInt8)×List (List UInt8)×List (List UInt8)×List Nomination):=callC tn 80 [.d (.lf (.l (c:=.s) a)),.fn 81 [(0,0)]] [[dI b,dI e,dI f,dI g,dI h,.d (.lf (.l (c:=.i64) i)),.d (.lf (.l (c:=.Trust) j)),.d (.lf (.s k)),.d (.lf (.l (c:=.s) m)),.d (.lf (.l (c:=.s) n)),.d (.lf (.l (c:=.s) o)),.d (.lf (.l (c:=.Nomination) p))]] o24'
def z54(a b:Trust):Option (Bool):=callC tn 92 [dA .Trust a,dA .Trust b] [] o0'
def z21(a b:List (List UInt8)):Option (Bool):=callC tn 89 [.d (.lf (.l (c:=.s) a)),.d (.lf (.l (c:=.s) b))] [] o0'
def z1d(a:List (List UInt8))(b e f g h:Int)(i:List Int)(j:List Trust)(k:List UInt8)(m n o:List (List UInt8))(p:List Nomination):Option (Int×Int×Int×Int×Int×Int×List Int×List Trust×List UInt8×List (List UInt8)×List (List UInt8)×List (List UInt8)×List Nomination):=callC tn 121 [.d (.lf (.l (c:=.s) a)),.fn 81 [(0,0)]] [[dI b,dI e,dI f,dI g,dI h,.d (.lf (.l (c:=.i64) i)),.d (.lf (.l (c:=.Trust) j)),.d (.lf (.s k)),.d (.lf (.l (c:=.s) m)),.d (.lf (.l (c:=.s) n)),.d (.lf (.l (c:=.s) o)),.d (.lf (.l (c:=.Nomination) p))]] o25'
def z3k(a b:List Int):Option (Bool):=callC tn 131 [.d (.lf (.l (c:=.i64) a)),.d (.lf (.l (c:=.i64) b))] [] o0'
def z1a(a b:List Trust):Option (Bool):=callC tn 132 [.d (.lf (.l (c:=.Trust) a)),.d (.lf (.l (c:=.Trust) b)),.fn 92 []] [] o0'
def z0j(a b c:Int)(d:List Nominator)(e:Int)(f:List Int)(g:Int)(h:List Member):Option (Bool):=gp 4 Tryz.f4 0 o0' [1,1,1,1,1,1,1,1,1,0,1,0] [2] ⟨[(3,fP 0),(5,fI a),(6,fI b),(7,fI c),(10,.fl (.own .Nominator d false)),(15,fI e)],[[dL .i64 f,dI g],[dL .Member h]]⟩
def z45(a:Nominator):Option (Nomination):=callC tn 20 [dA .Nominator a] [] o20'
def z6n(a:Int)(b:List Int)(e:Int):Option (Nomination×List Int×Int):=callC tn 22 [.ptr 0 0,dI a] [[.d (.lf (.l (c:=.i64) b)),dI e]] o32'
def z3r(a:Nominator)(b:Nomination):Option (Nominator×Int):=callC tn 23 [dA .Nominator a,dA .Nomination b] [] o19'
def law22_calm(a:List Nominator)(b:Int):Option (List Nominator×Bool):=callC tn 13 [.d (.lf (.l (c:=.Nominator) a)),dI b] [] o15'
def z2a(a:Nomination):Option (Nomination):=callC tn 64 [dA .Nomination a] [] o20'
def z79(a:Int)(b:List Int)(e:Int):Option (List (List UInt8)×List Int×Int):=callC tn 67 [.ptr 0 0,dI a] [[.d (.lf (.l (c:=.i64) b)),dI e]] o26'
def z55(a:Nomination):Option (Bool):=callC tn 43 [dA .Nomination a] [] o0'
def z15(a:List Nomination)(b:Int):Option (Int×Bool):=callC tn 68 [.d (.lf (.l (c:=.Nomination) a)),dI b,.fn 69 []] [] o11'
def z4i(a:Int)(b e:List Nomination):Option (List Nomination×Unit):=callC tn 72 [.ref 0,dI a,.d (.lf (.l (c:=.Nomination) b))] [[.own .Nomination e false]] ⟨[.lf (.l .Nomination)],[[.undef]]⟩
def z2k(a:List UInt8)(b:Bool)(c e f g h:Int)(i:List Int)(j:List Trust)(k:List UInt8)(l m n:List (List UInt8))(o:List Nomination)(p q r t u:Int)(v:List Int)(w:List Trust)(x:List UInt8)(y z A:List (List UInt8))(B:List Nomination)(C:List Member):Option (Nominator):=gp 58 Tryz.f58 0 o10' [1,1,1,0,1,0] [3] ⟨[(1,fP 0),(2,fP 1),(3,fP 2),(4,.fl (.d (.lf (.s a)))),(5,fB b)],[[dI c,dI e,dI f,dI g,dI h,dL .i64 i,dL .Trust j,.d (.lf (.s k)),dL .s l,dL .s m,dL .s n,dL .Nomination o],[dI p,dI q,dI r,dI t,dI u,.own .i64 v false,.own .Trust w false,.d (.lf (.s x)),.own .s y false,.own .s z false,.own .s A false,.own .Nomination B false],[dL .Member C]]⟩
def z46(a:List (List UInt8))(b:List UInt8):Option (List (List UInt8)):=callC tn 105 [.d (.lf (.l (c:=.s) a)),.d (.lf (.s b))] [] o8'
def z0x(a:List (List UInt8))(b:List UInt8):Option (Int×Bool):=callC tn 144 [.d (.lf (.l (c:=.s) a)),.d (.lf (.s b)),.fn 50 []] [] o11'
def z6b(a:Int)(b e:List (List UInt8)):Option (List (List UInt8)×Unit):=callC tn 145 [.ref 0,dI a,.d (.lf (.l (c:=.s) b))] [[.own .s e false]] ⟨[.lf (.l .s)],[[.undef]]⟩
def z2w(a:List Nomination)(b c e f g h i:Int)(j:List Int)(k:List Trust)(l:List UInt8)(m n o:List (List UInt8))(p:List Nomination)(q r t u v:Int)(w:List Int)(x:List Trust)(y:List UInt8)(z A B:List (List UInt8))(C:List Nomination):Option (Nominator):=gp 57 Tryz.f57 0 o10' [1,1,1,1,0,1,0] [2] ⟨[(1,fP 0),(2,fP 1),(25,fL .Nomination a),(26,fI b),(27,fI c)],[[dI e,dI f,dI g,dI h,dI i,dL .i64 j,dL .Trust k,.d (.lf (.s l)),.own .s m false,.own .s n false,.own .s o false,.own .Nomination p false],[dI q,dI r,dI t,dI u,dI v,.own .i64 w false,.own .Trust x false,.d (.lf (.s y)),.own .s z false,.own .s A false,.own .s B false,.own .Nomination C false]]⟩
def z37(a:Int)(b:List Trust)(c d e:Int)(f:List Int)(g:List Trust):Option (Int):=gp 97 Tryz.f97 0 o1' [1,1,0,1,0] [1] ⟨[(3,fI a),(7,fL .Trust b),(8,fI c),(9,fI d)],[[dI e,dL .i64 f,dL .Trust g]]⟩
def z3n(a:Int)(b:List Trust)(c d e:Int)(f:List Int)(g:List Trust):Option (Int):=gp 98 Tryz.f98 0 o1' [1,1,0,1,0] [1] ⟨[(3,fI a),(14,fL .Trust b),(15,fI c),(16,fI d)],[[dI e,dL .i64 f,dL .Trust g]]⟩
def z38(a:List Trust)(b c d:Int)(e:List Int)(f:List Trust):Option (Int):=gp 99 Tryz.f99 0 o1' [1,1,1,1,0,1,0] [1] ⟨[(36,fL .Trust a),(37,fI b),(38,fI c)],[[dI d,dL .i64 e,dL .Trust f]]⟩
def z1y(a:List (List UInt8))(b:List Int)(c e f g h i j:Int)(k:List Int)(l:List Trust)(m:List UInt8)(n o p:List (List UInt8))(q:List Nomination):Option (List (List UInt8)):=gp 102 Tryz.f102 0 o8' [1,1,1,0,1,0] [1] ⟨[(1,fP 0),(3,fL .s a),(27,fL .i64 b),(28,fI c),(29,fI e)],[[dI f,dI g,dI h,dI i,dI j,dL .i64 k,dL .Trust l,.d (.lf (.s m)),dL .s n,dL .s o,dL .s p,dL .Nomination q]]⟩
def z39(a:List Message)(b:List Nomination)(c e f g h i j:Int)(k:List Int)(l:List Trust)(m:List UInt8)(n o p:List (List UInt8))(q:List Nomination)(r:List Member):Option (Config):=gp 103 Tryz.f103 0 o9' [1,1,0,1,0] [2] ⟨[(1,fP 0),(2,fP 1),(3,.fl (.own .Message a false)),(7,fL .Nomination b),(8,fI c),(9,fI e)],[[dI f,dI g,dI h,dI i,dI j,dL .i64 k,dL .Trust l,.d (.lf (.s m)),dL .s n,dL .s o,dL .s p,dL .Nomination q],[.own .Member r false]]⟩
def z6h(a:Int)(b:Trust)(e:List Message):Option (Config):=callC tn 142 [dI a,dA .Trust b,.d (.lf (.l (c:=.Message) e))] [] o9'
def z2b(a:List Nomination)(b:List (List UInt8))(c e f g h i j:Int)(k:List Int)(l:List Trust)(m:List UInt8)(n o p:List (List UInt8))(q:List Nomination)(r:List Member):Option (List UInt8×Bool):=gp 104 Tryz.f104 0 o14' [1,1,0,1,0] [2] ⟨[(2,fP 0),(3,fP 1),(6,fL .Nomination a),(19,fL .s b),(20,fI c),(21,fI e)],[[dI f,dI g,dI h,dI i,dI j,dL .i64 k,dL .Trust l,.d (.lf (.s m)),dL .s n,dL .s o,dL .s p,dL .Nomination q],[dL .Member r]]⟩
def z4m(a:List Nomination)(b:List UInt8):Option (Int×Int):=callC tn 106 [.d (.lf (.l (c:=.Nomination) a)),.d (.lf (.s b))] [] o3'
def z3i(a:List (List UInt8))(b:List UInt8):Option (Bool):=callC tn 82 [.d (.lf (.l (c:=.s) a)),.d (.lf (.s b))] [] o0'
def z4n(a:Config)(b c d:Int):Option (Bool):=callC tn 143 [dA .Config a,dI b,dI c,dI d] [] o0'
def z27(a:List (List UInt8))(b:List UInt8):Option (Bool):=callC tn 122 [.d (.lf (.l (c:=.s) a)),.d (.lf (.s b))] [] o0'
def z2j(a:Int):Option (Bool):=callC tn 171 [dI a] [] o0'
def z5n(a:Config)(b c:Int):Option (Bool):=callC tn 172 [dA .Config a,dI b,dI c] [] o0'
def z56(a:Config)(b:Int):Option (Int):=callC tn 147 [dA .Config a,dI b] [] o1'
def z4e(a b:Int):Option (Bool):=callC tn 146 [dI a,dI b] [] o0'
def z2f(a:List (List UInt8))(b:List UInt8):Option (Int):=callC tn 158 [.d (.lf (.l (c:=.s) a)),.d (.lf (.s b))] [] o1'
def z5p(a b:Int):Option (Bool):=callC tn 191 [dI a,dI b] [] o0'
def z2u(a:Config):Option (Int):=callC tn 192 [dA .Config a] [] o1'
def z2x(a:Trust)(b:Int):Option (Bool):=callC tn 193 [dA .Trust a,dI b] [] o0'
def z5u(a:Config)(b:Int):Option (Int×List Int):=callC tn 175 [dA .Config a,dI b] [] o27'
def z2y(a:List Trust)(b c d:Int)(e:List Int)(f:List Trust)(g:Int)(h:List Int)(i:List Trust)(j:Int)(k:List Int)(l:List Trust):Option (Trust):=gp 100 Tryz.f100 0 o6' [1,1,0,1,0] [3] ⟨[(2,fP 1),(3,fP 2),(13,fL .Trust a),(14,fI b),(15,fI c)],[[dI d,dL .i64 e,dL .Trust f],[dI g,.own .i64 h false,.own .Trust i false],[dI j,.own .i64 k false,.own .Trust l false]]⟩
def z3t(a:Int)(b:List Int)(c d:Int):Option (Int×Int):=gp 137 Tryz.f137 0 o3' [1,1,0,1,0] [0] ⟨[(4,fI a),(7,fL .i64 b),(8,fI c),(9,fI d)],[]⟩
def z3a(a b c d e f:Int)(g:List Int)(h:List Trust):Option (Int×Int):=gp 139 Tryz.f139 0 o3' [1,1,1,0,1,0] [1] ⟨[(1,fI a),(2,fI b),(4,fP 0),(11,fI c),(21,fI d),(22,fI e)],[[dI f,dL .i64 g,dL .Trust h]]⟩
def z57(a:Trust)(b c d:Int):Option (Int):=callC tn 165 [dA .Trust a,dI b,dI c,dI d] [] o1'
def z3b(a:Int)(b:List Int)(c:Int):Option (List Int):=gp 140 Tryz.f140 0 o4' [1,1,0,1,0] [0] ⟨[(0,fI a),(3,.fl (.own .i64 b false)),(5,fI c)],[]⟩
def z3o(a:List (List UInt8))(b:List Nomination)(c d:Int):Option (List (List UInt8)):=gp 141 Tryz.f141 0 o8' [1,1,0,1,0] [0] ⟨[(3,.fl (.own .s a false)),(6,fL .Nomination b),(7,fI c),(8,fI d)],[]⟩
def z1b(a:List (List UInt8)):Option (List (List UInt8)):=callC tn 166 [.ref 0,.fn 50 []] [[.own .s a false]] o2'
def z65(a:List (List UInt8)):Option (List (List UInt8)×Unit):=callC tn 167 [.ref 0] [[.own .s a false]] ⟨[.lf (.l .s)],[[.undef]]⟩
def z7e(a:Int):Option (Int):=callC tn 189 [.d (.lf (.i .u64 a))] [] o1'
def z01(a b c:Int)(d:List (List UInt8)):Option (List (List UInt8)):=callC tn 188 [.ref 0,dI a,dI b,dI c,.fn 50 []] [[.own .s d false]] o2'
def z7b(a:Int):Option (Int):=callC tn 210 [.d (.lf (.i .u64 a))] [] o1'
def z0q(a:List Int)(b c:Int):Option (Int):=gp 163 Tryz.f163 0 o1' [1,0,1,0] [0] ⟨[(0,fL .i64 a),(1,.fl (.fn 135 [])),(7,fI b),(8,fI c)],[]⟩
def z5v(a:Int):Option (Bool):=callC tn 135 [dI a] [] o0'
def z6i(a:Int):Option (Bool):=callC tn 136 [dI a] [] o0'
def z5b(a b:Int)(c:List Int)(d:Int)(e f:List Member):Option (Config×List Int×Int):=gp 15 Tryz.f15 1 o16' [1,1,1,0,1,0] [3] ⟨[(4,fP 1),(5,fP 2),(22,fI a),(23,fI b)],[[dL .i64 c,dI d],[.own .Member e false],[.own .Member f false]]⟩
def z5c(a b:Int)(c:List Int)(d e:Int)(f:List Int)(g:List Trust)(h:Int)(i:List Int)(j:List Trust):Option (Trust×List Int×Int):=gp 108 Tryz.f108 1 o5' [1,1,0,1,0] [3] ⟨[(0,fP 0),(1,fI a),(4,fP 1),(5,fP 2),(6,fI b)],[[dL .i64 c,dI d],[dI e,.own .i64 f false,.own .Trust g false],[dI h,.own .i64 i false,.own .Trust j false]]⟩
def z2v(a b:Int)(c:List Trust)(d:Int)(e:List Int)(f g:Int)(h:List Int)(i:List Trust):Option (Trust×List Int×Int):=gp 109 Tryz.f109 1 o5' [1,1,0,1,0] [2] ⟨[(0,fP 0),(1,fI a),(2,fI b),(6,fP 1),(7,.fl (.own .Trust c false)),(8,fI d)],[[dL .i64 e,dI f],[dI g,.own .i64 h false,.own .Trust i false]]⟩
def z5d(a b:Int)(c:List Int)(d e:Int)(f:List Int)(g h:Int)(i:List Int)(j:List Trust)(k:Int)(l:List Int)(m:List Trust):Option (Trust×List Int×Int):=gp 74 Tryz.f74 1 o5' [1,1,1,0,1,0] [3] ⟨[(0,fP 0),(1,fI a),(2,fI b),(6,fP 1),(7,fP 2),(20,fL .i64 c),(21,fI d),(22,fI e)],[[dL .i64 f,dI g],[dI h,.own .i64 i false,.own .Trust j false],[dI k,.own .i64 l false,.own .Trust m false]]⟩
def z3z(a:Int)(b:List Int)(c:Int)(d:List Int)(e:Int):Option (List Int×List Int×Int):=gp 117 Tryz.f117 1 o21' [1,1,0,1,0] [1] ⟨[(0,fP 0),(1,fI a),(5,.fl (.own .i64 b false)),(6,fI c)],[[dL .i64 d,dI e]]⟩
def z58(a:Int)(b:List Trust)(c d e:Int)(f:List Int)(g:List Trust):Option (Int):=gp 118 Tryz.f118 0 o1' [1,1,0,1,0] [1] ⟨[(3,fI a),(7,fL .Trust b),(8,fI c),(9,fI d)],[[dI e,dL .i64 f,dL .Trust g]]⟩
def z5q(a:Int)(b:List Trust)(c d e:Int)(f:List Int)(g:List Trust):Option (Int):=gp 119 Tryz.f119 0 o1' [1,1,0,1,0] [1] ⟨[(3,fI a),(14,fL .Trust b),(15,fI c),(16,fI d)],[[dI e,dL .i64 f,dL .Trust g]]⟩
def z25(a:List Int)(b c d:Int)(e:List Int)(f:List Trust):Option (Int):=gp 120 Tryz.f120 0 o1' [1,1,0,1,0] [1] ⟨[(1,fP 0),(26,fL .i64 a),(27,fI b),(28,fI c)],[[dI d,dL .i64 e,dL .Trust f]]⟩
def z78(a:List Int):Option (Int×Int):=callC tn 157 [.d (.lf (.l (c:=.i64) a))] [] o3'
def z32(a:Int)(b:List Int)(c d:Int)(e:List Member):Option (Bool):=gp 197 Tryz.f197 0 o0' [1,1,0,1,0] [1] ⟨[(1,fI a),(2,fP 0),(23,fL .i64 b),(24,fI c),(25,fI d)],[[dL .Member e]]⟩
def z33(a:Trust)(b:Int):Option (Bool):=callC tn 177 [dA .Trust a,dI b] [] o0'
def z47(a:Int)(b:List Int)(c:Int):Option (List Int):=gp 24 Tryz.f24 0 o4' [1,1,0,1,0] [0] ⟨[(0,fI a),(3,.fl (.own .i64 b false)),(4,fI c)],[]⟩
def z48(a b c d:Int)(e f:List Member):Option (Int):=gp 148 Tryz.f148 0 o1' [1,1,1,1,1,0,1,0,0,1,1,0,0,1,1,1,0] [2,2,2,2] ⟨[(2,fP 0),(3,fP 1),(7,fI a),(8,fI b),(39,fI c),(40,fI d)],[[dL .Member e],[dL .Member f]]⟩
def z3u(a b c:Int)(d:List Int)(e:List Trust)(f:Int)(g:List Int)(h:List Trust):Option (Bool):=gp 83 Tryz.f83 0 o0' [1,1,0,1,0] [2] ⟨[(2,fP 0),(3,fP 1),(30,fI a),(31,fI b)],[[dI c,dL .i64 d,dL .Trust e],[dI f,dL .i64 g,dL .Trust h]]⟩
def z3f(a:Int)(b:List Int)(c d e:Int)(f:List Int)(g:List Trust):Option (Int):=gp 110 Tryz.f110 0 o1' [1,1,0,1,0] [1] ⟨[(1,fP 0),(3,fI a),(9,fL .i64 b),(10,fI c),(11,fI d)],[[dI e,dL .i64 f,dL .Trust g]]⟩
def z4t(a b:List Int)(c d:Int):Option (Bool):=gp 123 Tryz.f123 0 o0' [1,1,0,1,0] [0] ⟨[(0,fL .i64 a),(1,fL .i64 b),(12,fI c),(13,fI d)],[]⟩
def z4u(a:Int)(b:List Int)(c d e:Int)(f:List Int)(g:List Trust)(h:Int)(i:List Int)(j:List Trust)(k:Int)(l:List Int)(m:List Trust):Option (Trust):=gp 198 Tryz.f198 0 o6' [1,1,0,1,0] [3] ⟨[(1,fI a),(2,fP 0),(4,fP 1),(5,fP 2),(15,fL .i64 b),(16,fI c),(17,fI d)],[[dI e,dL .i64 f,dL .Trust g],[dI h,.own .i64 i false,.own .Trust j false],[dI k,.own .i64 l false,.own .Trust m false]]⟩
def z6q(a:Int):Option (Int):=callC tn 215 [dI a] [] o1'
def z2q(a:Int)(b:List Int)(c d:Int):Option (List Int):=gp 153 Tryz.f153 0 o4' [1,1,0,1,0,0,1,0,0,1,0] [0,0,0,0] ⟨[(0,fI a),(3,.fl (.own .i64 b false)),(4,fI c),(5,fI d)],[]⟩
def z5r(a b c:Int):Option (Int):=gp 180 Tryz.f180 0 o1' [1,1,0,1,0] [0] ⟨[(0,fI a),(3,fI b),(4,fI c)],[]⟩
def z4o(a:Int)(b:List Int)(c d:Int)(e:List Member):Option (Int):=gp 161 Tryz.f161 0 o1' [1,1,1,0,1,0] [1] ⟨[(5,fI a),(17,fL .i64 b),(18,fI c),(19,fI d)],[[dL .Member e]]⟩
def z2r(a:Int)(b:List Int)(c:Bool)(d:List Member):Option (List Int):=gp 184 Tryz.f184 0 o4' [1,1,1,1,0,1,0] [1] ⟨[(2,fP 0),(5,fI a),(6,.fl (.own .i64 b false)),(7,fB c)],[[dL .Member d]]⟩
def z1r(a:List Nomination)(b c e f g h i:Int)(j:List Int)(k:List Trust)(l:List UInt8)(m n o:List (List UInt8))(p:List Nomination):Option (Bool):=gp 30 Tryz.f30 0 o0' [1,1,1,1,0,1,0] [1] ⟨[(1,fP 0),(41,fL .Nomination a),(42,fI b),(43,fI c)],[[dI e,dI f,dI g,dI h,dI i,dL .i64 j,dL .Trust k,.d (.lf (.s l)),dL .s m,dL .s n,dL .s o,dL .Nomination p]]⟩
def z23(a b:List (List UInt8))(c d:Int):Option (Bool):=gp 79 Tryz.f79 0 o0' [1,0,1,0] [0] ⟨[(0,fL .s a),(5,fL .s b),(6,fI c),(7,fI d)],[]⟩
def z59(a:List UInt8):Option (Bool):=callC tn 73 [.d (.lf (.s a))] [] o0'
def z06(a b:List UInt8):Option (Int):=callC tn 50 [.d (.lf (.s a)),.d (.lf (.s b))] [] o1'
def z3c(a b:Int):Option (Int):=callC tn 70 [dI a,dI b] [] o1'
def z4z(a b:List UInt8):Option (Int):=callC tn 95 [.d (.lf (.s a)),.d (.lf (.s b))] [] o1'
def z6r(a:List Int):Option (Int):=callC tn 94 [.d (.lf (.l (c:=.i64) a))] [] o1'
def z61(a:Int):Option (Bool):=callC tn 114 [dI a] [] o0'
def z4p(a:List UInt8):Option (Bool):=callC tn 133 [.d (.lf (.s a))] [] o0'
def z1j(a b:List (List UInt8))(c d:Int):Option (Bool):=gp 89 Tryz.f89 0 o0' [1,1,0,1,0] [0] ⟨[(0,fL .s a),(1,fL .s b),(12,fI c),(13,fI d)],[]⟩
def z0g(a:List (List UInt8))(b c e f g h i:Int)(j:List Int)(k:List Trust)(l:List UInt8)(m n o:List (List UInt8))(p:List Nomination):Option (Int×Int×Int×Int×Int×Int×List Int×List Trust×List UInt8×List (List UInt8)×List (List UInt8)×List (List UInt8)×List Nomination):=gp 121 Tryz.f121 1 o25' [1,0,1,0] [1] ⟨[(0,fL .s a),(1,.fl (.fn 81 [(0,0)])),(7,fI b),(8,fI c)],[[dI e,dI f,dI g,dI h,dI i,dL .i64 j,dL .Trust k,.d (.lf (.s l)),dL .s m,dL .s n,dL .s o,dL .Nomination p]]⟩
def z5h(a:List UInt8)(b e f g h:Int)(i:List Int)(j:List Trust)(k:List UInt8)(m n o:List (List UInt8))(p:List Nomination):Option (Bool×Int×Int×Int×Int×Int×List Int×List Trust×List UInt8×List (List UInt8)×List (List UInt8)×List (List UInt8)×List Nomination):=callC tn 81 [.d (.lf (.s a)),.ptr 0 0] [[dI b,dI e,dI f,dI g,dI h,.d (.lf (.l (c:=.i64) i)),.d (.lf (.l (c:=.Trust) j)),.d (.lf (.s k)),.d (.lf (.l (c:=.s) m)),.d (.lf (.l (c:=.s) n)),.d (.lf (.l (c:=.s) o)),.d (.lf (.l (c:=.Nomination) p))]] o24'
def z20(a b:List Int)(c d:Int):Option (Bool):=gp 131 Tryz.f131 0 o0' [1,1,0,1,0] [0] ⟨[(0,fL .i64 a),(1,fL .i64 b),(12,fI c),(13,fI d)],[]⟩
def z0l(a b:List Trust)(c d:Int):Option (Bool):=gp 132 Tryz.f132 0 o0' [1,1,0,1,0] [0] ⟨[(1,fL .Trust a),(2,.fl (.fn 92 [])),(15,fL .Trust b),(16,fI c),(17,fI d)],[]⟩
def z1k(a:List Nominator)(b:Int)(c:List Int)(d e:Int)(f:List Int)(g:Int)(h:List Member):Option (Bool):=gp 4 Tryz.f4 0 o0' [1,1,1,1,1,1,1,1,1,1,1,1,1,1,0,1,0] [2] ⟨[(10,fL .Nominator a),(23,fI b),(159,fL .i64 c),(160,fI d),(161,fI e)],[[dL .i64 f,dI g],[dL .Member h]]⟩
def z1i(a:List (List UInt8)):Option (List UInt8×Bool):=callC tn 25 [.d (.lf (.l (c:=.s) a))] [] o14'
def law22_kept(a b:List (List UInt8)):Option (Bool):=callC tn 26 [.d (.lf (.l (c:=.s) a)),.d (.lf (.l (c:=.s) b))] [] o0'
def law22_awake:Option (Bool):=callC tn 14 [] [] o0'
def z3v(a:Int)(b:List Nominator)(c:Int):Option (List Nominator×Bool):=gp 13 Tryz.f13 0 o15' [1,1,0,1,0] [0] ⟨[(1,fI a),(6,.fl (.own .Nominator b false)),(7,fI c)],[]⟩
def z3d(a:Int)(b c:List (List UInt8))(d e:Int)(f:List Int)(g:Int):Option (List (List UInt8)×List Int×Int):=gp 67 Tryz.f67 1 o26' [1,1,0,1,0] [1] ⟨[(0,fP 0),(1,fI a),(5,.fl (.own .s b false)),(8,fL .s c),(9,fI d),(10,fI e)],[[dL .i64 f,dI g]]⟩
def z0f(a:List Nomination)(b c d e:Int):Option (Int×Bool):=gp 68 Tryz.f68 0 o11' [1,1,1,0,0] [0] ⟨[(0,fL .Nomination a),(1,fI b),(2,.fl (.fn 69 [])),(8,fI c),(9,fI d),(10,fI e)],[]⟩
def z4q(a:Nomination)(b:Int):Option (Int):=callC tn 69 [dA .Nomination a,dI b] [] o1'
def z29(a:List Nomination)(b:List (List UInt8))(c e f g h i j:Int)(k:List Int)(l:List Trust)(m:List UInt8)(n o p:List (List UInt8))(q:List Nomination)(r t u v w:Int)(x:List Int)(y:List Trust)(z:List UInt8)(A B C:List (List UInt8))(D:List Nomination)(E:List Member):Option (Nominator):=gp 58 Tryz.f58 0 o10' [1,1,1,1,1,0,1,0] [3] ⟨[(1,fP 0),(2,fP 1),(3,fP 2),(6,fL .Nomination a),(46,fL .s b),(47,fI c),(48,fI e)],[[dI f,dI g,dI h,dI i,dI j,dL .i64 k,dL .Trust l,.d (.lf (.s m)),dL .s n,dL .s o,dL .s p,dL .Nomination q],[dI r,dI t,dI u,dI v,dI w,.own .i64 x false,.own .Trust y false,.d (.lf (.s z)),.own .s A false,.own .s B false,.own .s C false,.own .Nomination D false],[dL .Member E]]⟩
def z49(a:Config)(b c:Int):Option (Bool):=callC tn 107 [dA .Config a,dI b,dI c] [] o0'
def z0c(a:List (List UInt8))(b:List UInt8)(c e f:Int):Option (Int×Bool):=gp 144 Tryz.f144 0 o11' [1,1,1,0,0] [0] ⟨[(0,fL .s a),(1,.fl (.d (.lf (.s b)))),(2,.fl (.fn 50 [])),(8,fI c),(9,fI e),(10,fI f)],[]⟩
def z28(a:List (List UInt8))(b:Int)(c:List Int)(e f:Int)(g:List Nomination)(h i j k l m n:Int)(o:List Int)(p:List Trust)(q:List UInt8)(r t u:List (List UInt8))(v:List Nomination):Option (List (List UInt8)):=gp 102 Tryz.f102 0 o8' [1,1,1,0,1,0,0,1,1,0,0,1,1,1,0] [1,1,1,1] ⟨[(1,fP 0),(3,fL .s a),(7,fI b),(27,fL .i64 c),(28,fI e),(29,fI f),(45,fL .Nomination g),(46,fI h),(47,fI i)],[[dI j,dI k,dI l,dI m,dI n,dL .i64 o,dL .Trust p,.d (.lf (.s q)),dL .s r,dL .s t,dL .s u,dL .Nomination v]]⟩
def z2i(a:Int)(b:List Message)(c d e:Int)(f:List Int)(g:List Trust)(h i:List Member):Option (Config):=gp 142 Tryz.f142 0 o9' [1,1,0,1,0] [3] ⟨[(0,fI a),(4,fP 0),(6,fP 1),(7,fP 2),(12,fL .Message b),(13,fI c),(14,fI d)],[[dI e,dL .i64 f,dL .Trust g],[.own .Member h false],[.own .Member i false]]⟩
def z6c(a:Message):Option (Bool):=callC tn 168 [dA .Message a] [] o0'
def z40(a:Trust):Option (Trust):=callC tn 169 [dA .Trust a] [] o6'
def z62(a:Int):Option (Bool):=callC tn 170 [dI a] [] o0'
def z6j(a:List Claim):Option (Bool):=callC tn 190 [.d (.lf (.l (c:=.Claim) a))] [] o0'
def z1v(a:List UInt8)(b c:Int)(e:List Nomination)(f g:Int):Option (Int×Int):=gp 106 Tryz.f106 0 o3' [1,0,1,0] [0] ⟨[(1,.fl (.d (.lf (.s a)))),(4,fI b),(5,fI c),(8,fL .Nomination e),(9,fI f),(10,fI g)],[]⟩
def z1g(a:List (List UInt8))(b:List UInt8)(c e:Int):Option (Int):=gp 158 Tryz.f158 0 o1' [1,0,1,0] [0] ⟨[(0,fL .s a),(1,.fl (.d (.lf (.s b)))),(7,fI c),(8,fI e)],[]⟩
def z1l(a:Int)(b:List Member)(c d:Int)(e:List Member):Option (Int):=gp 192 Tryz.f192 0 o1' [1,1,0,1,0] [1] ⟨[(3,fI a),(7,fL .Member b),(8,fI c),(9,fI d)],[[dL .Member e]]⟩
def z24(a b:Int)(c:List Int)(d e f:Int)(g:List Int)(h:List Trust):Option (Bool):=gp 193 Tryz.f193 0 o0' [1,1,1,0,1,0] [1] ⟨[(1,fI a),(2,fP 0),(5,fI b),(14,fL .i64 c),(15,fI d),(16,fI e)],[[dI f,dL .i64 g,dL .Trust h]]⟩
def z2s(a:Int)(b:List Int)(c:List Member):Option (Int×List Int):=gp 175 Tryz.f175 0 o27' [1,1,1,1,0] [1] ⟨[(1,fI a),(2,fP 0),(6,.fl (.own .i64 b false))],[[dL .Member c]]⟩
def z6d(a:Config)(b:Int):Option (Int×Bool):=callC tn 195 [dA .Config a,dI b] [] o11'
def z1u(a b c e f g h:Int)(j:List Int)(k:List Trust):Option (Int):=gp 165 Tryz.f165 0 o1' [1,1,0,1,0] [1] ⟨[(1,fI a),(2,fI b),(3,fI c),(4,fP 0),(9,fI e),(10,.fl (.d (.lf (.i .u32 f)))),(14,fI g)],[[dI h,dL .i64 j,dL .Trust k]]⟩
def z5w(a:Trust)(b c d e:Int):Option (Bool):=callC tn 186 [dA .Trust a,dI b,dI c,dI d,dI e] [] o0'
def z5i(a b c d:Int):Option (Int):=callC tn 187 [dI a,dI b,dI c,dI d] [] ⟨[.lf (.i .u32)],[]⟩
def z63(a:Trust)(b:Int):Option (Frac×Bool):=callC tn 200 [dA .Trust a,dI b] [] o28'
def z2t(a:List Int)(b:Int):Option (Bool):=callC tn 218 [.d (.lf (.l (c:=.i64) a)),dI b] [] o0'
def z3l(a:List Int)(b:Int):Option (Int):=callC tn 224 [.d (.lf (.l (c:=.i64) a)),dI b] [] o1'
def z00(a b c:Int)(d e:Bool)(f:List (List UInt8)):Option (List (List UInt8)):=gp 188 Tryz.f188 1 o2' [1,1,0] [1] ⟨[(0,.fl (.ref 0)),(1,fI a),(2,fI b),(3,fI c),(4,.fl (.fn 50 [])),(10,fB d),(11,fB e)],[[.own .s f false]]⟩
def z17(a b:Int)(c:List (List UInt8)):Option (List (List UInt8)):=callC tn 201 [.ref 0,dI a,dI b,.fn 50 []] [[.own .s c false]] o2'
def z1e(a b:Int)(c:List (List UInt8)):Option (List (List UInt8)):=callC tn 202 [.ref 0,dI a,dI b,.fn 50 []] [[.own .s c false]] o2'
def z18(a b:Int)(c:List (List UInt8)):Option (List (List UInt8)):=callC tn 203 [.ref 0,dI a,dI b,.fn 50 []] [[.own .s c false]] o2'
def z0r(a b:Int)(c:List (List UInt8)):Option (Int×Int×List (List UInt8)):=callC tn 204 [.ref 0,dI a,dI b,.fn 50 []] [[.own .s c false]] o33'
def z0n(a b:Int)(c:List (List UInt8)):Option (List (List UInt8)):=callC tn 205 [.ref 0,dI a,dI b,.fn 50 []] [[.own .s c false]] o2'
def z09(a b:Int)(c:List (List UInt8)):Option (Bool×List (List UInt8)):=callC tn 206 [.ref 0,dI a,dI b,.fn 50 []] [[.own .s c false]] o12'
def z04(a b c:Int)(d:List (List UInt8)):Option (Int×List (List UInt8)):=callC tn 207 [.ref 0,dI a,dI b,dI c,.fn 50 []] [[.own .s d false]] o13'
def z02(a b c:Int)(d:List (List UInt8)):Option (Int×Bool×List (List UInt8)):=callC tn 208 [.ref 0,dI a,dI b,dI c,.fn 50 []] [[.own .s d false]] o7'
def z4a(a:Int):Option (Int):=callC tn 220 [dI a] [] ⟨[.lf (.i .u64)],[]⟩
def z0m(a:Int)(b:List (List UInt8))(c:Int):Option (Int×List (List UInt8)×Int):=callC tn 222 [.ref 0,dI a,.ptr 1 0,.fn 50 []] [[.own .s b false],[dI c]] o29'
def z0z(a b c:Int)(d:List (List UInt8))(e:Int):Option (Int×List (List UInt8)×Int):=callC tn 223 [.ref 0,dI a,dI b,dI c,.ptr 1 0,.fn 50 []] [[.own .s d false],[dI e]] o29'
def z10(a b:Int)(c:List (List UInt8))(d:Int):Option (Int×Int×List (List UInt8)×Int):=callC tn 225 [.ref 0,dI a,dI b,.ptr 1 0,.fn 50 []] [[.own .s c false],[dI d]] o34'
def z5z(a b:Int)(c:List Trust)(d e:Int)(f:List Int)(g h:Int)(i:List Int)(j:List Trust)(k:Int)(l:List Int)(m:List Trust):Option (Trust×List Int×Int):=gp 109 Tryz.f109 1 o5' [1,1,0,1,0,0,1,0,0,1,0,1,0] [2,2,2,3] ⟨[(0,fP 0),(1,fI a),(2,fI b),(6,fP 1),(7,.fl (.own .Trust c false)),(8,fI d),(9,fP 2),(10,fI e)],[[dL .i64 f,dI g],[dI h,.own .i64 i false,.own .Trust j false],[dI k,.own .i64 l false,.own .Trust m false]]⟩
def z5e(a b c:Int)(d:List Int)(e f:Int)(g:List Int)(h:List Trust)(i:Int)(j:List Int)(k:List Trust):Option (Trust×List Int×Int):=gp 74 Tryz.f74 1 o5' [1,1,1,1,0,1,0,0,1,0] [3] ⟨[(0,fP 0),(1,fI a),(2,fI b),(6,fP 1),(7,fP 2),(11,fI c)],[[dL .i64 d,dI e],[dI f,.own .i64 g false,.own .Trust h false],[dI i,.own .i64 j false,.own .Trust k false]]⟩
def z41(a:List Int)(b:Int)(c:List Int)(d:Int):Option (List Int×List Int×Int):=gp 117 Tryz.f117 1 o21' [1,1,1,0,1,0] [1] ⟨[(0,fP 0),(5,.fl (.own .i64 a false)),(7,fI b)],[[dL .i64 c,dI d]]⟩
def z26(a:List Trust)(b c d:Int)(e:List Int)(f:List Trust):Option (Int):=gp 120 Tryz.f120 0 o1' [1,1,1,1,0,1,0] [1] ⟨[(49,fL .Trust a),(50,fI b),(51,fI c)],[[dI d,dL .i64 e,dL .Trust f]]⟩
def z2n(a:Int)(b:List Int)(c d:Int):Option (Int×Int):=gp 157 Tryz.f157 0 o3' [1,1,0,1,0] [0] ⟨[(4,fI a),(7,fL .i64 b),(8,fI c),(9,fI d)],[]⟩
def z2p(a b:Int)(c:List Int)(d e f:Int)(g:List Int)(h:List Trust):Option (Bool):=gp 177 Tryz.f177 0 o0' [1,1,1,0,1,0] [1] ⟨[(1,fI a),(2,fP 0),(5,fI b),(14,fL .i64 c),(15,fI d),(16,fI e)],[[dI f,dL .i64 g,dL .Trust h]]⟩
def z4v(a:Int)(b:List Trust)(c d e:Int)(f:List Int)(g:List Trust):Option (Int):=gp 110 Tryz.f110 0 o1' [1,1,1,0,1,0] [1] ⟨[(3,fI a),(27,fL .Trust b),(28,fI c),(29,fI d)],[[dI e,dL .i64 f,dL .Trust g]]⟩
def z3w(a:Int)(b:List Trust)(c d e:Int)(f:List Int)(g:List Trust)(h:Int)(i:List Int)(j:List Trust)(k:Int)(l:List Int)(m:List Trust):Option (Trust):=gp 198 Tryz.f198 0 o6' [1,1,1,0,1,0] [3] ⟨[(1,fI a),(4,fP 1),(5,fP 2),(36,fL .Trust b),(37,fI c),(38,fI d)],[[dI e,dL .i64 f,dL .Trust g],[dI h,.own .i64 i false,.own .Trust j false],[dI k,.own .i64 l false,.own .Trust m false]]⟩
def z2c(a:Int)(b:List Int)(c:Bool)(d:List Int)(e f:Int)(g:List Member):Option (List Int):=gp 184 Tryz.f184 0 o4' [1,1,1,1,0,1,0,0,1,0,1,1,0] [1,1,1,1] ⟨[(2,fP 0),(5,fI a),(6,.fl (.own .i64 b false)),(7,fB c),(19,fL .i64 d),(20,fI e),(21,fI f)],[[dL .Member g]]⟩
def z5a(a:Int)(b:List Int)(c d:Int):Option (Int):=gp 94 Tryz.f94 0 o1' [1,1,0,1,0] [0] ⟨[(3,fI a),(6,fL .i64 b),(7,fI c),(8,fI d)],[]⟩
def z1q(a:List UInt8)(b:List (List UInt8))(c e:Int):Option (List UInt8×Bool):=gp 25 Tryz.f25 0 o14' [1,1,0,1,0] [0] ⟨[(4,.fl (.d (.lf (.s a)))),(7,fL .s b),(8,fI c),(9,fI e)],[]⟩
def z4w(a b:List (List UInt8))(c d:Int):Option (Bool):=gp 26 Tryz.f26 0 o0' [1,0,1,0] [0] ⟨[(1,fL .s a),(10,fL .s b),(11,fI c),(12,fI d)],[]⟩
def z3x(a:Int)(b:List Nominator)(c:Int)(d:Bool)(e f:Int):Option (List Nominator×Bool):=gp 13 Tryz.f13 0 o15' [1,1,0,1,0,0,1,0,0,1,0,1,0] [0,0,0,0] ⟨[(1,fI a),(6,.fl (.own .Nominator b false)),(7,fI c),(8,fB d),(21,fI e),(22,fI f)],[]⟩
def z2z(a:List (List UInt8))(b:Int)(c:List Int)(e f:Int)(g:List Nomination)(h i:Int)(j:List (List UInt8))(k l m n o p q:Int)(r:List Int)(t:List Trust)(u:List UInt8)(v w x:List (List UInt8))(y:List Nomination)(z A B:Int)(C:List Int)(D:List Trust)(E F:List (List UInt8)):Option (List (List UInt8)):=gp 102 Tryz.f102 0 o8' [1,1,1,0,1,0,0,1,1,0,0,1,1,1,0,0,1,1,0,0,1,1,1,0] [1,1,1,1,1,1,2] ⟨[(1,fP 0),(3,fL .s a),(7,fI b),(27,fL .i64 c),(28,fI e),(29,fI f),(45,fL .Nomination g),(46,fI h),(47,fI i),(57,fL .s j),(58,fI k),(59,fI l)],[[dI m,dI n,dI o,dI p,dI q,dL .i64 r,dL .Trust t,.d (.lf (.s u)),dL .s v,dL .s w,dL .s x,dL .Nomination y],[dI z,dI A,dI B,dL .i64 C,dL .Trust D,dL .s E,dL .s F]]⟩
def z30(a:List Trust)(b c d:Int)(e:List Int)(f:List Trust)(g:Int)(h:List Int)(i:List Trust)(j:Int)(k:List Int)(l:List Trust):Option (Trust):=gp 169 Tryz.f169 0 o6' [1,1,0,1,0] [3] ⟨[(2,fP 1),(3,fP 2),(13,fL .Trust a),(14,fI b),(15,fI c)],[[dI d,dL .i64 e,dL .Trust f],[dI g,.own .i64 h false,.own .Trust i false],[dI j,.own .i64 k false,.own .Trust l false]]⟩
def z2o(a b:List Claim)(c d:Int):Option (Bool):=gp 190 Tryz.f190 0 o0' [1,0,1,0] [0] ⟨[(0,fL .Claim a),(5,fL .Claim b),(6,fI c),(7,fI d)],[]⟩
def z6w(a:Claim):Option (Bool):=callC tn 211 [dA .Claim a] [] o0'
def z6k(a b:Claim):Option (Int):=callC tn 212 [dA .Claim a,dA .Claim b] [] o1'
def z1w(a b:Int)(c:List Trust)(d e f:Int)(g:List Int)(h:List Trust):Option (Bool):=gp 193 Tryz.f193 0 o0' [1,1,1,1,0,1,0] [1] ⟨[(1,fI a),(2,fP 0),(5,fI b),(27,fL .Trust c),(28,fI d),(29,fI e)],[[dI f,dL .i64 g,dL .Trust h]]⟩
def z3e(a:Int)(b:List Int)(c d:Int)(e:List Member):Option (Int×Bool):=gp 195 Tryz.f195 0 o11' [1,0,1,0] [1] ⟨[(1,fI a),(2,fP 0),(9,fL .i64 b),(10,fI c),(11,fI d)],[[dL .Member e]]⟩
def z6e(a:Config)(b c:Int):Option (Bool):=callC tn 214 [dA .Config a,dI b,dI c] [] o0'
def z3p(a:Int)(b:List Trust)(c d e:Int)(f:List Int)(g:List Trust)(h i j k:Int):Option (Frac×Bool):=gp 200 Tryz.f200 0 o28' [1,1,1,0,1,0] [3] ⟨[(1,fI a),(4,fP 1),(6,fP 2),(27,fL .Trust b),(28,fI c),(29,fI d)],[[dI e,dL .i64 f,dL .Trust g],[dI h,dI i],[dI j,dI k]]⟩
def z1o(a:List Int)(b c d:Int):Option (Int):=gp 224 Tryz.f224 0 o1' [1,0,1,0] [0] ⟨[(0,fL .i64 a),(1,fI b),(7,fI c),(8,fI d)],[]⟩
def z0e(a b c:Int)(d:List (List UInt8)):Option (List (List UInt8)):=gp 201 Tryz.f201 1 o2' [1,0] [1] ⟨[(0,.fl (.ref 0)),(1,fI a),(2,fI b),(3,.fl (.fn 50 [])),(8,fI c)],[[.own .s d false]]⟩
def z0s(a b c d:Int)(e:List (List UInt8)):Option (List (List UInt8)):=gp 202 Tryz.f202 1 o2' [1,1,1,0,1,0] [1] ⟨[(0,.fl (.ref 0)),(3,.fl (.fn 50 [])),(8,fI a),(9,fI b),(10,fI c),(11,fI d)],[[.own .s e false]]⟩
def z16(a b c:Int)(d:List (List UInt8)):Option (List (List UInt8)):=callC tn 219 [.ref 0,dI a,dI b,dI c,.fn 50 []] [[.own .s d false]] o2'
def z0b(a b c e:Int)(f:List (List UInt8))(g:Int):Option (List (List UInt8)):=gp 203 Tryz.f203 1 o2' [1,1,0,1,1,1,0] [2] ⟨[(0,.fl (.ref 0)),(1,fI a),(8,fI b),(9,fP 1),(10,.fl (.d (.lf (.i .u64 c)))),(11,fI e)],[[.own .s f false],[.d (.lf (.i .u64 g))]]⟩
def z4j(a:Int):Option (Int×Int):=callC tn 221 [.ptr 0 0] [[.d (.lf (.i .u64 a))]] o35'
def z0w(a b:Int)(c:List (List UInt8)):Option (List (List UInt8)):=gp 205 Tryz.f205 1 o2' [1,1,0] [1] ⟨[(0,.fl (.ref 0)),(8,fI a),(9,fI b)],[[.own .s c false]]⟩
def z03(a b c d:Int)(e:List (List UInt8)):Option (Bool×List (List UInt8)):=gp 206 Tryz.f206 1 o12' [1,1,0,1,0] [1] ⟨[(0,.fl (.ref 0)),(1,fI a),(2,fI b),(3,.fl (.fn 50 [])),(9,fI c),(10,fI d)],[[.own .s e false]]⟩
def z0a(a b c:Int)(d:List (List UInt8)):Option (Int×List (List UInt8)):=gp 207 Tryz.f207 1 o13' [1,1,1,0,0] [1] ⟨[(0,.fl (.ref 0)),(1,fI a),(4,.fl (.fn 50 [])),(11,fI b),(12,fI c)],[[.own .s d false]]⟩
def z11(a b c:Int)(d:List (List UInt8)):Option (Int×Bool×List (List UInt8)):=gp 208 Tryz.f208 1 o7' [1,1,1,0,0] [1] ⟨[(0,.fl (.ref 0)),(1,fI a),(4,.fl (.fn 50 [])),(12,fI b),(13,fI c)],[[.own .s d false]]⟩
def z2d(a b:Int)(c:List Trust)(d e f:Int)(g:List Int)(h:List Trust):Option (Bool):=gp 177 Tryz.f177 0 o0' [1,1,1,1,0,1,0] [1] ⟨[(1,fI a),(2,fP 0),(5,fI b),(27,fL .Trust c),(28,fI d),(29,fI e)],[[dI f,dL .i64 g,dL .Trust h]]⟩
def z4k(a:Int)(b:List Int)(c:Bool)(d:List Int)(e f:Int)(g:Bool)(h:List Member):Option (List Int):=gp 184 Tryz.f184 0 o4' [1,1,1,1,0,1,0] [1] ⟨[(2,fP 0),(5,fI a),(6,.fl (.own .i64 b false)),(7,fB c),(19,fL .i64 d),(20,fI e),(21,fI f),(22,fB g)],[[dL .Member h]]⟩
def z4x(a:List (List UInt8))(b:List UInt8)(c:Bool)(e:List (List UInt8))(f g:Int)(h:List (List UInt8))(i j:Int):Option (Bool):=gp 26 Tryz.f26 0 o0' [1,0,1,0,0,1,1,0,0,1,1,0,1,0] [0,0,0,0] ⟨[(1,fL .s a),(6,.fl (.d (.lf (.s b)))),(7,fB c),(10,fL .s e),(11,fI f),(12,fI g),(16,fL .s h),(17,fI i),(18,fI j)],[]⟩
def z1m(a:Int)(b:List Nominator)(c:Int)(d:Bool)(e f g h i:Int):Option (List Nominator×Bool):=gp 13 Tryz.f13 0 o15' [1,1,0,1,0,0,1,0,0,1,0,1,0,0,1,1,0,0,1,1,0] [0,0,0,0,0,0,0] ⟨[(1,fI a),(6,.fl (.own .Nominator b false)),(7,fI c),(8,fB d),(9,fI e),(21,fI f),(22,fI g),(26,fI h),(27,fI i)],[]⟩
def z72(a b:Nominator):Option (Bool):=callC tn 31 [dA .Nominator a,dA .Nominator b] [] o0'
def z5x(a b:List (List UInt8)):Option (Bool):=callC tn 84 [.d (.lf (.l (c:=.s) a)),.d (.lf (.l (c:=.s) b))] [] o0'
def z0i(a b c d:Int)(e:List (List UInt8)):Option (List (List UInt8)):=gp 201 Tryz.f201 1 o2' [1,0,0,1,0,0,1,0] [1,1,1,1] ⟨[(0,.fl (.ref 0)),(1,fI a),(2,fI b),(3,.fl (.fn 50 [])),(8,fI c),(9,fI d)],[[.own .s e false]]⟩
def z0t(a b c:Int)(d:List (List UInt8)):Option (List (List UInt8)):=gp 202 Tryz.f202 1 o2' [1,1,1,1,1,0] [1] ⟨[(0,.fl (.ref 0)),(3,.fl (.fn 50 [])),(8,fI a),(9,fI b),(12,fI c)],[[.own .s d false]]⟩
def z0d(a b c:Int)(d:List (List UInt8)):Option (List (List UInt8)):=gp 219 Tryz.f219 1 o2' [1,0] [1] ⟨[(0,.fl (.ref 0)),(2,fI a),(3,fI b),(4,.fl (.fn 50 [])),(10,fI c)],[[.own .s d false]]⟩
def z0y(a b c d:Int)(e:Bool)(f:List (List UInt8)):Option (Bool×List (List UInt8)):=gp 206 Tryz.f206 1 o12' [1,1,0,1,0,0,1,0,0,0,0] [1,1,1,1] ⟨[(0,.fl (.ref 0)),(1,fI a),(2,fI b),(3,.fl (.fn 50 [])),(9,fI c),(10,fI d),(16,fB e)],[[.own .s f false]]⟩
def z0u(a b c:Int)(d:List (List UInt8)):Option (Int×List (List UInt8)):=gp 207 Tryz.f207 1 o13' [1,1,1,0,0,0,0,0,0] [1,1,1,1] ⟨[(0,.fl (.ref 0)),(1,fI a),(4,.fl (.fn 50 [])),(11,fI b),(12,fI c)],[[.own .s d false]]⟩
def z0o(a b c:Int)(d:Bool)(e:List (List UInt8)):Option (Int×Bool×List (List UInt8)):=gp 208 Tryz.f208 1 o7' [1,1,1,1,0,0] [1] ⟨[(0,.fl (.ref 0)),(1,fI a),(4,.fl (.fn 50 [])),(12,fI b),(13,fI c),(47,fB d)],[[.own .s e false]]⟩
def z4y(a b c e f g h:Int)(i:List Int)(j:List Trust)(k:List UInt8)(l m n:List (List UInt8))(o:List Nomination)(p q r t u:Int)(v:List Int)(w:List Trust)(x:List UInt8)(y z A:List (List UInt8))(B:List Nomination):Option (Bool):=gp 31 Tryz.f31 0 o0' [1,1,0,1,0] [2] ⟨[(2,fP 0),(3,fP 1),(82,fI a),(83,fI b)],[[dI c,dI e,dI f,dI g,dI h,dL .i64 i,dL .Trust j,.d (.lf (.s k)),dL .s l,dL .s m,dL .s n,dL .Nomination o],[dI p,dI q,dI r,dI t,dI u,dL .i64 v,dL .Trust w,.d (.lf (.s x)),dL .s y,dL .s z,dL .s A,dL .Nomination B]]⟩
def z4l(a b:Nomination):Option (Bool):=callC tn 39 [dA .Nomination a,dA .Nomination b] [] o0'
def z5s(a b:List (List UInt8))(c d:Int):Option (Bool):=gp 84 Tryz.f84 0 o0' [1,1,0,1,0] [0] ⟨[(0,fL .s a),(1,fL .s b),(12,fI c),(13,fI d)],[]⟩
def z0k(a b c d:Int)(e:List (List UInt8)):Option (Bool×List (List UInt8)):=gp 206 Tryz.f206 1 o12' [1,1,0,1,0,0,1,0,0,0,0] [1,1,1,1] ⟨[(0,.fl (.ref 0)),(1,fI a),(2,fI b),(3,.fl (.fn 50 [])),(9,fI c),(10,fI d)],[[.own .s e false]]⟩
def z08(a b c d e:Int)(f:List (List UInt8)):Option (Bool×List (List UInt8)):=gp 206 Tryz.f206 1 o12' [1,1,0,1,0,0,1,0,0,1,1,1,1,0,1,0,1,0] [1,1,1,1] ⟨[(0,.fl (.ref 0)),(1,fI a),(2,fI b),(3,.fl (.fn 50 [])),(9,fI c),(10,fI d),(11,fI e)],[[.own .s f false]]⟩
def z05(a b c d e:Int)(f:List (List UInt8)):Option (Bool×List (List UInt8)):=gp 206 Tryz.f206 1 o12' [1,1,0,1,0,0,1,0,0,1,1,1,1,1,1,0,1,0] [1,1,1,1] ⟨[(0,.fl (.ref 0)),(1,fI a),(2,fI b),(3,.fl (.fn 50 [])),(9,fI c),(10,fI d),(12,fI e)],[[.own .s f false]]⟩
def z0h(a b c:Int)(d:Bool)(e:List (List UInt8)):Option (Int×List (List UInt8)):=gp 207 Tryz.f207 1 o13' [1,1,1,0,0,0,0,1,0,0] [1,1,1,1] ⟨[(0,.fl (.ref 0)),(1,fI a),(4,.fl (.fn 50 [])),(11,fI b),(12,fI c),(47,fB d)],[[.own .s e false]]⟩
def z12(a b c:Int)(d:List (List UInt8)):Option (Int×Bool×List (List UInt8)):=gp 208 Tryz.f208 1 o7' [1,1,1,1,0,0] [1] ⟨[(0,.fl (.ref 0)),(1,fI a),(4,.fl (.fn 50 [])),(12,fI b),(13,fI c)],[[.own .s d false]]⟩
def z07(a b c:Int)(d:List (List UInt8)):Option (Int×Bool×List (List UInt8)):=gp 208 Tryz.f208 1 o7' [1,1,1,1,1,1,1,1,1,0,0] [1] ⟨[(0,.fl (.ref 0)),(1,fI a),(4,.fl (.fn 50 [])),(12,fI b),(13,fI c)],[[.own .s d false]]⟩
def z0v(a b c:Int)(d:List (List UInt8)):Option (Int×List (List UInt8)):=gp 207 Tryz.f207 1 o13' [1,1,1,0,0,0,0,1,0,0] [1,1,1,1] ⟨[(0,.fl (.ref 0)),(1,fI a),(4,.fl (.fn 50 [])),(11,fI b),(12,fI c)],[[.own .s d false]]⟩
def z13(a b c:Int)(d:List (List UInt8)):Option (Int×Bool×List (List UInt8)):=gp 208 Tryz.f208 1 o7' [1,1,1,1,1,1,1,1,1,0,0,0,0,0,0] [1,1,1,1] ⟨[(0,.fl (.ref 0)),(1,fI a),(4,.fl (.fn 50 [])),(12,fI b),(13,fI c)],[[.own .s d false]]⟩
def z0p(a b c:Int)(d:Bool)(e:List (List UInt8)):Option (Int×Bool×List (List UInt8)):=gp 208 Tryz.f208 1 o7' [1,1,1,1,1,1,1,1,1,0,0,0,0,1,0,0] [1,1,1,1] ⟨[(0,.fl (.ref 0)),(1,fI a),(4,.fl (.fn 50 [])),(12,fI b),(13,fI c),(120,fB d)],[[.own .s e false]]⟩
def z14(a b c:Int)(d:List (List UInt8)):Option (Int×Bool×List (List UInt8)):=gp 208 Tryz.f208 1 o7' [1,1,1,1,1,1,1,1,1,0,0,0,0,1,0,0] [1,1,1,1] ⟨[(0,.fl (.ref 0)),(1,fI a),(4,.fl (.fn 50 [])),(12,fI b),(13,fI c)],[[.own .s d false]]⟩
end
end Go.Proofs.YtglokalgdbegeaaGreat
