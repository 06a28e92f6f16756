/- The seat's program for the machines. -/
import Derived.Test.YtglokalgdbegeaaGreatN22An
import Derived.Test.YtglokalgdbegeaaGreatMachT
import Derived.Test.YtglokalgdbegeaaGreatChecked
namespace Go.Proofs.YtglokalgdbegeaaGreat
open Go Go.Ab
def look1{α:Type}(d:α):List (Nat×α)->Nat->α|[],_=>d|(k,v)::r,t=>if k=t then v else look1 d r t
def an:An:={flag:=fun f t=>if(look1 [] ybk f).contains t then .keep else .view,clear:=fun f=>look1 [] (look1 [] y9h f),mode:=fun f=>look1 0 (look1 [] ydu f),order:=fun f=>look1 [] (look1 [] ya8 f),own:=fun f=>anOwn.contains f}
def lastF:Nat:=225
def badF:List Nat:=[2,3,4,5,6,13,15,17,18,26,28,59,60,61,62,108,109,110,111,112,113,115,116,148,149,150,151,152,153,154,155,156,173,174,178,179,180,181,182,194,196,197,198,209,213,215]
def okF(h:Nat):Bool:=decide (2<=h/\h<=lastF)&&!badF.contains h
noncomputable def qzm:List (Nat×Option (List AV->Heap->Option (AV×Heap))):=[(72,some (q35 7)),(145,some (q35 1)),(167,some q4t)]
noncomputable def env:Env0:={P:=Tryz.prog,glob:=fun _=>none,an:=an,ok:=okF,lib:=look1 none qzm}
structure Tape where l:List (Int)at_:Int
structure Claim where
 Topic:Int
 Value:Int
structure Arr2_i64 where
 e0:Int
 e1:Int
structure Frac where
 Num:Int
 Den:Int
structure Trust where
 Threshold:Int
 Nodes:List (Int)Inner:List (Trust)
structure Nomination where
 Node:Int
 Seq:Int
 Trust:Trust
 Votes:List (List UInt8)Accepts:List (List UInt8)
structure Member where
 Declared:Bool
 Trust:Trust
structure Message where
 Node:Int
 Seq:Int
 Trust:Trust
 Votes:List (Claim)Accepts:List (Claim)
structure Nominator where
 Node:Int
 Slot:Int
 Round:Int
 Seq:Int
 Trust:Trust
 Own:List UInt8
 Votes:List (List UInt8)Accepts:List (List UInt8)Candidates:List (List UInt8)Heard:List (Nomination)
structure Config where Members:List (Member)
abbrev LI:=List Int
abbrev LT:=List Trust
abbrev LC:=List Claim
abbrev LM:=List Message
abbrev LB:=List Member
abbrev LN:=List Nomination
abbrev LU:=List UInt8
inductive TC where|i64|l_i64|s|l_s|Tape|u8|b|Claim|l_Claim|Arr2_i64|Frac|Trust|l_Trust|Nomination|l_Nomination|Member|l_Member|Message|Nominator|Config deriving DecidableEq
def Ty:TC->Type|.i64=>Int|.l_i64=>List (Int)|.s=>LU|.l_s=>List (LU)|.Tape=>Tape|.u8=>Int|.b=>Bool|.Claim=>Claim|.l_Claim=>List (Claim)|.Arr2_i64=>Arr2_i64|.Frac=>Frac|.Trust=>Trust|.l_Trust=>List (Trust)|.Nomination=>Nomination|.l_Nomination=>List (Nomination)|.Member=>Member|.l_Member=>List (Member)|.Message=>Message|.Nominator=>Nominator|.Config=>Config
abbrev Lv:=Leaf TC Ty
def asL(c:TC):Lv->Option (List (Ty c))|.l c' xs=>if h:c'=c then some (h▸xs)else none|_=>none
theorem q2z{c:TC}{x:Lv}{xs:List (Ty c)}(h:asL c x=some xs):x=.l c xs:=by cases x with
 |l c' ys=>
  simp only[asL]at h;split at h;·rename_i hc;subst hc;cases h;rfl
  .cases h|_=>cases h
def q4c(x:Int):D:=.v (.int .i64 x)
theorem qan(x y:Int)(h:q4c x=q4c y):x=y:=q2c h
def qqk(x:Int):List Lv:=[.i .i64 x]
def qci:List Lv->Option (Int)|[.i .i64 x]=>some x|_=>none
theorem ydj(cs:List Lv)(x:Int)(h:qci cs=some x):qqk x=cs:=by
 unfold qci at h;split at h;·cases h;rfl
 .cases h
def qko(x:List (Int)):D:=.list (x.map q4c)
theorem y00(x y:List (Int))(h:qko x=qko y):x=y:=q1a qan h
def qit(x:List (Int)):List Lv:=[.l .i64 x]
def qe7:List Lv->Option (List (Int))|[x]=>asL .i64 x|_=>none
theorem y5c:∀(cs:List Lv)(x:List (Int)),qe7 cs=some x->qit x=cs|[y],x,h=>by rw[q2z (c:=.i64) (x:=y) (xs:=x) h];rfl|[],x,h=>by have h':(none:Option (List (Int)))=some x:=h;cases h'|_::_::_,x,h=>by have h':(none:Option (List (Int)))=some x:=h;cases h'
def enc_s(x:LU):D:=.v (.string ⟨⟨x⟩⟩)
theorem inj_s(x y:LU)(h:enc_s x=enc_s y):x=y:=y3d h
def y2m(x:LU):List Lv:=[.s x]
def qj4:List Lv->Option (LU)|[.s x]=>some x|_=>none
theorem of_s(cs:List Lv)(x:LU)(h:qj4 cs=some x):y2m x=cs:=by
 unfold qj4 at h;split at h;·cases h;rfl
 .cases h
def qso(x:List (LU)):D:=.list (x.map enc_s)
theorem y8z(x y:List (LU))(h:qso x=qso y):x=y:=q1a inj_s h
def qqd(x:List (LU)):List Lv:=[.l .s x]
def qjy:List Lv->Option (List (LU))|[x]=>asL .s x|_=>none
theorem ydt:∀(cs:List Lv)(x:List (LU)),qjy cs=some x->qqd x=cs|[y],x,h=>by rw[q2z (c:=.s) (x:=y) (xs:=x) h];rfl|[],x,h=>by have h':(none:Option (List (LU)))=some x:=h;cases h'|_::_::_,x,h=>by have h':(none:Option (List (LU)))=some x:=h;cases h'
def qi2(x:Tape):D:=.agg [.list (((x.l)).map q4c),.v (.int .i64 (x.at_))]
theorem y4z:∀x y:Tape,qi2 x=qi2 y->x=y|⟨a0,a1⟩,⟨b0,b1⟩,h=>by simp only[qi2,D.agg.injEq,List.cons.injEq,and_true]at h;obtain⟨h0,h1⟩:=h;have e0:a0=b0:=q1a qan h0;have e1:a1=b1:=q2c h1;rw[e0,e1]
def qmf(x:Tape):List Lv:=[.l .i64 x.l,.i .i64 x.at_]
def qb1:List Lv->Option Tape
 |[l0,.i .i64 a1]=>match asL .i64 l0 with|some m0=>some (Tape.mk m0 a1)|_=>none
 |_=>none
theorem y95(cs:List Lv)(x:Tape)(h:qb1 cs=some x):qmf x=cs:=by
 unfold qb1 at h;split at h
 .split at h;·rename_i m0 h0;cases q2z h0;cases h;rfl
  .cases h
 .cases h
def qzt(x:Int):D:=.v (.int .u8 x)
theorem yfa(x y:Int)(h:qzt x=qzt y):x=y:=q2c h
def qwc(x:Int):List Lv:=[.i .u8 x]
def qfm:List Lv->Option (Int)|[.i .u8 x]=>some x|_=>none
theorem of_u8(cs:List Lv)(x:Int)(h:qfm cs=some x):qwc x=cs:=by
 unfold qfm at h;split at h;·cases h;rfl
 .cases h
def enc_b(x:Bool):D:=.v (.bool x)
theorem inj_b(x y:Bool)(h:enc_b x=enc_b y):x=y:=qwg h
def y2k(x:Bool):List Lv:=[.b x]
def qj7:List Lv->Option (Bool)|[.b x]=>some x|_=>none
theorem of_b(cs:List Lv)(x:Bool)(h:qj7 cs=some x):y2k x=cs:=by
 unfold qj7 at h;split at h;·cases h;rfl
 .cases h
def q6h(x:Claim):D:=.agg [.v (.int .i64 (x.Topic)),.v (.int .i64 (x.Value))]
theorem qef:∀x y:Claim,q6h x=q6h y->x=y|⟨a0,a1⟩,⟨b0,b1⟩,h=>by simp only[q6h,D.agg.injEq,List.cons.injEq,and_true]at h;obtain⟨h0,h1⟩:=h;have e0:a0=b0:=q2c h0;have e1:a1=b1:=q2c h1;rw[e0,e1]
def qku(x:Claim):List Lv:=[.i .i64 x.Topic,.i .i64 x.Value]
def q8n:List Lv->Option Claim|[.i .i64 a0,.i .i64 a1]=>some (Claim.mk a0 a1)|_=>none
theorem y4m(cs:List Lv)(x:Claim)(h:q8n cs=some x):qku x=cs:=by
 unfold q8n at h;split at h;·cases h;rfl
 .cases h
def qcp(x:List (Claim)):D:=.list (x.map q6h)
theorem qts(x y:List (Claim))(h:qcp x=qcp y):x=y:=q1a qef h
def qdy(x:List (Claim)):List Lv:=[.l .Claim x]
def qah:List Lv->Option (List (Claim))|[x]=>asL .Claim x|_=>none
theorem qxz:∀(cs:List Lv)(x:List (Claim)),qah cs=some x->qdy x=cs|[y],x,h=>by rw[q2z (c:=.Claim) (x:=y) (xs:=x) h];rfl|[],x,h=>by have h':(none:Option (List (Claim)))=some x:=h;cases h'|_::_::_,x,h=>by have h':(none:Option (List (Claim)))=some x:=h;cases h'
def q7f(x:Arr2_i64):D:=.agg [.v (.int .i64 (x.e0)),.v (.int .i64 (x.e1))]
theorem qs3:∀x y:Arr2_i64,q7f x=q7f y->x=y|⟨a0,a1⟩,⟨b0,b1⟩,h=>by simp only[q7f,D.agg.injEq,List.cons.injEq,and_true]at h;obtain⟨h0,h1⟩:=h;have e0:a0=b0:=q2c h0;have e1:a1=b1:=q2c h1;rw[e0,e1]
def qcc(x:Arr2_i64):List Lv:=[.i .i64 x.e0,.i .i64 x.e1]
def q5j:List Lv->Option Arr2_i64|[.i .i64 a0,.i .i64 a1]=>some (Arr2_i64.mk a0 a1)|_=>none
theorem qtf(cs:List Lv)(x:Arr2_i64)(h:q5j cs=some x):qcc x=cs:=by
 unfold q5j at h;split at h;·cases h;rfl
 .cases h
def qhz(x:Frac):D:=.agg [.v (.int .i64 (x.Num)),.v (.int .i64 (x.Den))]
theorem y3u:∀x y:Frac,qhz x=qhz y->x=y|⟨a0,a1⟩,⟨b0,b1⟩,h=>by simp only[qhz,D.agg.injEq,List.cons.injEq,and_true]at h;obtain⟨h0,h1⟩:=h;have e0:a0=b0:=q2c h0;have e1:a1=b1:=q2c h1;rw[e0,e1]
def qmh(x:Frac):List Lv:=[.i .i64 x.Num,.i .i64 x.Den]
def qas:List Lv->Option Frac|[.i .i64 a0,.i .i64 a1]=>some (Frac.mk a0 a1)|_=>none
theorem y9f(cs:List Lv)(x:Frac)(h:qas cs=some x):qmh x=cs:=by
 unfold qas at h;split at h;·cases h;rfl
 .cases h
mutual
def q0y : Trust -> D
 | ⟨a0, a1, a2⟩ => .agg [.v (.int .i64 a0), .list ((a1).map q4c), .list (q38 a2)]
def q38 : LT -> List D
 | [] => []
 | x :: r => q0y x :: q38 r
end
theorem q4h:∀l:LT,q38 l=l.map q0y|[]=>rfl|x::r=>by simp only[q38,q4h r,List.map_cons]
mutual
theorem q6p : ∀ x y : Trust, q0y x = q0y y -> x = y
 | ⟨a0, a1, a2⟩, ⟨b0, b1, b2⟩, h => by
  simp only [q0y, D.agg.injEq, List.cons.injEq, and_true] at h;obtain ⟨h0, h1, h2⟩ := h;have e0 : a0 = b0 := q2c h0;have e1 : a1 = b1 := q1a qan h1;have e2 : a2 = b2 := qlz _ _ (D.list.inj h2);rw [e0, e1, e2]
theorem qlz : ∀ x y : LT, q38 x = q38 y -> x = y
 | [], [], _ => rfl
 | [], _ :: _, h => by simp [q38] at h
 | _ :: _, [], h => by simp [q38] at h
 | x :: r, y :: r', h => by
  simp only [q38, List.cons.injEq] at h;rw [q6p x y h.1, qlz r r' h.2]
end
def q8w(x:Trust):List Lv:=[.i .i64 x.Threshold,.l .i64 x.Nodes,.l .Trust x.Inner]
def q8q:List Lv->Option Trust
 |[.i .i64 a0,l1,l2]=>match asL .i64 l1,asL .Trust l2 with|some m1,some m2=>some (Trust.mk a0 m1 m2)|_,_=>none
 |_=>none
theorem y4c(cs:List Lv)(x:Trust)(h:q8q cs=some x):q8w x=cs:=by
 unfold q8q at h;split at h
 .split at h;·rename_i m1 m2 h1 h2;cases q2z h1;cases q2z h2;cases h;rfl
  .cases h
 .cases h
def qcy(x:List (Trust)):D:=.list (x.map q0y)
theorem qtl(x y:List (Trust))(h:qcy x=qcy y):x=y:=q1a q6p h
def qdf(x:List (Trust)):List Lv:=[.l .Trust x]
def qa9:List Lv->Option (List (Trust))|[x]=>asL .Trust x|_=>none
theorem qwy:∀(cs:List Lv)(x:List (Trust)),qa9 cs=some x->qdf x=cs|[y],x,h=>by rw[q2z (c:=.Trust) (x:=y) (xs:=x) h];rfl|[],x,h=>by have h':(none:Option (List (Trust)))=some x:=h;cases h'|_::_::_,x,h=>by have h':(none:Option (List (Trust)))=some x:=h;cases h'
def q0i(x:Nomination):D:=.agg [.v (.int .i64 (x.Node)),.v (.int .i64 (x.Seq)),.v (.int .i64 (x.Trust.Threshold)),.list (((x.Trust.Nodes)).map q4c),.list (((x.Trust.Inner)).map q0y),.list (((x.Votes)).map enc_s),.list (((x.Accepts)).map enc_s)]
theorem q7k:∀x y:Nomination,q0i x=q0i y->x=y|⟨a0,a1,⟨a2,a3,a4⟩,a5,a6⟩,⟨b0,b1,⟨b2,b3,b4⟩,b5,b6⟩,h=>by simp only[q0i,D.agg.injEq,List.cons.injEq,and_true]at h;obtain⟨h0,h1,h2,h3,h4,h5,h6⟩:=h;have e0:a0=b0:=q2c h0;have e1:a1=b1:=q2c h1;have e2:a2=b2:=q2c h2;have e3:a3=b3:=q1a qan h3;have e4:a4=b4:=q1a q6p h4;have e5:a5=b5:=q1a inj_s h5;have e6:a6=b6:=q1a inj_s h6;rw[e0,e1,e2,e3,e4,e5,e6]
def q5e(x:Nomination):List Lv:=[.i .i64 x.Node,.i .i64 x.Seq,.i .i64 x.Trust.Threshold,.l .i64 x.Trust.Nodes,.l .Trust x.Trust.Inner,.l .s x.Votes,.l .s x.Accepts]
def q4f:List Lv->Option Nomination
 |[.i .i64 a0,.i .i64 a1,.i .i64 a2,l3,l4,l5,l6]=>match asL .i64 l3,asL .Trust l4,asL .s l5,asL .s l6 with|some m3,some m4,some m5,some m6=>some (Nomination.mk a0 a1 (Trust.mk a2 m3 m4) m5 m6)|_,_,_,_=>none
 |_=>none
theorem qof(cs:List Lv)(x:Nomination)(h:q4f cs=some x):q5e x=cs:=by
 unfold q4f at h;split at h
 .split at h;·rename_i m3 m4 m5 m6 h3 h4 h5 h6;cases q2z h3;cases q2z h4;cases q2z h5;cases q2z h6;cases h;rfl
  .cases h
 .cases h
def q5l(x:List (Nomination)):D:=.list (x.map q0i)
theorem qhr(x y:List (Nomination))(h:q5l x=q5l y):x=y:=q1a q7k h
def q71(x:List (Nomination)):List Lv:=[.l .Nomination x]
def q5o:List Lv->Option (List (Nomination))|[x]=>asL .Nomination x|_=>none
theorem qkm:∀(cs:List Lv)(x:List (Nomination)),q5o cs=some x->q71 x=cs|[y],x,h=>by rw[q2z (c:=.Nomination) (x:=y) (xs:=x) h];rfl|[],x,h=>by have h':(none:Option (List (Nomination)))=some x:=h;cases h'|_::_::_,x,h=>by have h':(none:Option (List (Nomination)))=some x:=h;cases h'
def q5z(x:Member):D:=.agg [.v (.bool (x.Declared)),.v (.int .i64 (x.Trust.Threshold)),.list (((x.Trust.Nodes)).map q4c),.list (((x.Trust.Inner)).map q0y)]
theorem qfs:∀x y:Member,q5z x=q5z y->x=y|⟨a0,⟨a1,a2,a3⟩⟩,⟨b0,⟨b1,b2,b3⟩⟩,h=>by simp only[q5z,D.agg.injEq,List.cons.injEq,and_true]at h;obtain⟨h0,h1,h2,h3⟩:=h;have e0:a0=b0:=qwg h0;have e1:a1=b1:=q2c h1;have e2:a2=b2:=q1a qan h2;have e3:a3=b3:=q1a q6p h3;rw[e0,e1,e2,e3]
def qgq(x:Member):List Lv:=[.b x.Declared,.i .i64 x.Trust.Threshold,.l .i64 x.Trust.Nodes,.l .Trust x.Trust.Inner]
def q7p:List Lv->Option Member
 |[.b a0,.i .i64 a1,l2,l3]=>match asL .i64 l2,asL .Trust l3 with|some m2,some m3=>some (Member.mk a0 (Trust.mk a1 m2 m3))|_,_=>none
 |_=>none
theorem y0a(cs:List Lv)(x:Member)(h:q7p cs=some x):qgq x=cs:=by
 unfold q7p at h;split at h
 .split at h;·rename_i m2 m3 h2 h3;cases q2z h2;cases q2z h3;cases h;rfl
  .cases h
 .cases h
def qac(x:List (Member)):D:=.list (x.map q5z)
theorem qop(x y:List (Member))(h:qac x=qac y):x=y:=q1a qfs h
def qce(x:List (Member)):List Lv:=[.l .Member x]
def q9m:List Lv->Option (List (Member))|[x]=>asL .Member x|_=>none
theorem qud:∀(cs:List Lv)(x:List (Member)),q9m cs=some x->qce x=cs|[y],x,h=>by rw[q2z (c:=.Member) (x:=y) (xs:=x) h];rfl|[],x,h=>by have h':(none:Option (List (Member)))=some x:=h;cases h'|_::_::_,x,h=>by have h':(none:Option (List (Member)))=some x:=h;cases h'
def q91(x:Message):D:=.agg [.v (.int .i64 (x.Node)),.v (.int .i64 (x.Seq)),.v (.int .i64 (x.Trust.Threshold)),.list (((x.Trust.Nodes)).map q4c),.list (((x.Trust.Inner)).map q0y),.list (((x.Votes)).map q6h),.list (((x.Accepts)).map q6h)]
theorem qu3:∀x y:Message,q91 x=q91 y->x=y|⟨a0,a1,⟨a2,a3,a4⟩,a5,a6⟩,⟨b0,b1,⟨b2,b3,b4⟩,b5,b6⟩,h=>by simp only[q91,D.agg.injEq,List.cons.injEq,and_true]at h;obtain⟨h0,h1,h2,h3,h4,h5,h6⟩:=h;have e0:a0=b0:=q2c h0;have e1:a1=b1:=q2c h1;have e2:a2=b2:=q2c h2;have e3:a3=b3:=q1a qan h3;have e4:a4=b4:=q1a q6p h4;have e5:a5=b5:=q1a qef h5;have e6:a6=b6:=q1a qef h6;rw[e0,e1,e2,e3,e4,e5,e6]
def qeq(x:Message):List Lv:=[.i .i64 x.Node,.i .i64 x.Seq,.i .i64 x.Trust.Threshold,.l .i64 x.Trust.Nodes,.l .Trust x.Trust.Inner,.l .Claim x.Votes,.l .Claim x.Accepts]
def q6n:List Lv->Option Message
 |[.i .i64 a0,.i .i64 a1,.i .i64 a2,l3,l4,l5,l6]=>match asL .i64 l3,asL .Trust l4,asL .Claim l5,asL .Claim l6 with|some m3,some m4,some m5,some m6=>some (Message.mk a0 a1 (Trust.mk a2 m3 m4) m5 m6)|_,_,_,_=>none
 |_=>none
theorem qx7(cs:List Lv)(x:Message)(h:q6n cs=some x):qeq x=cs:=by
 unfold q6n at h;split at h
 .split at h;·rename_i m3 m4 m5 m6 h3 h4 h5 h6;cases q2z h3;cases q2z h4;cases q2z h5;cases q2z h6;cases h;rfl
  .cases h
 .cases h
def q1l(x:Nominator):D:=.agg [.v (.int .i64 (x.Node)),.v (.int .i64 (x.Slot)),.v (.int .i64 (x.Round)),.v (.int .i64 (x.Seq)),.v (.int .i64 (x.Trust.Threshold)),.list (((x.Trust.Nodes)).map q4c),.list (((x.Trust.Inner)).map q0y),.v (.string ⟨⟨(x.Own)⟩⟩),.list (((x.Votes)).map enc_s),.list (((x.Accepts)).map enc_s),.list (((x.Candidates)).map enc_s),.list (((x.Heard)).map q0i)]
theorem qog:∀x y:Nominator,q1l x=q1l y->x=y|⟨a0,a1,a2,a3,⟨a4,a5,a6⟩,a7,a8,a9,a10,a11⟩,⟨b0,b1,b2,b3,⟨b4,b5,b6⟩,b7,b8,b9,b10,b11⟩,h=>by simp only[q1l,D.agg.injEq,List.cons.injEq,and_true]at h;obtain⟨h0,h1,h2,h3,h4,h5,h6,h7,h8,h9,h10,h11⟩:=h;have e0:a0=b0:=q2c h0;have e1:a1=b1:=q2c h1;have e2:a2=b2:=q2c h2;have e3:a3=b3:=q2c h3;have e4:a4=b4:=q2c h4;have e5:a5=b5:=q1a qan h5;have e6:a6=b6:=q1a q6p h6;have e7:a7=b7:=y3d h7;have e8:a8=b8:=q1a inj_s h8;have e9:a9=b9:=q1a inj_s h9;have e10:a10=b10:=q1a inj_s h10;have e11:a11=b11:=q1a q7k h11;rw[e0,e1,e2,e3,e4,e5,e6,e7,e8,e9,e10,e11]
def q6s(x:Nominator):List Lv:=[.i .i64 x.Node,.i .i64 x.Slot,.i .i64 x.Round,.i .i64 x.Seq,.i .i64 x.Trust.Threshold,.l .i64 x.Trust.Nodes,.l .Trust x.Trust.Inner,.s x.Own,.l .s x.Votes,.l .s x.Accepts,.l .s x.Candidates,.l .Nomination x.Heard]
def q51:List Lv->Option Nominator
 |[.i .i64 a0,.i .i64 a1,.i .i64 a2,.i .i64 a3,.i .i64 a4,l5,l6,.s a7,l8,l9,l10,l11]=>match asL .i64 l5,asL .Trust l6,asL .s l8,asL .s l9,asL .s l10,asL .Nomination l11 with|some m5,some m6,some m8,some m9,some m10,some m11=>some (Nominator.mk a0 a1 a2 a3 (Trust.mk a4 m5 m6) a7 m8 m9 m10 m11)|_,_,_,_,_,_=>none
 |_=>none
theorem qrx(cs:List Lv)(x:Nominator)(h:q51 cs=some x):q6s x=cs:=by
 unfold q51 at h;split at h
 .split at h;·rename_i m5 m6 m8 m9 m10 m11 h5 h6 h8 h9 h10 h11;cases q2z h5;cases q2z h6;cases q2z h8;cases q2z h9;cases q2z h10;cases q2z h11;cases h;rfl
  .cases h
 .cases h
def qbw(x:Config):D:=.agg [.list (((x.Members)).map q5z)]
theorem qxm:∀x y:Config,qbw x=qbw y->x=y|⟨a0⟩,⟨b0⟩,h=>by simp only[qbw,D.agg.injEq,List.cons.injEq,and_true]at h;have h0:=h;have e0:a0=b0:=q1a qfs h0;rw[e0]
def qgn(x:Config):List Lv:=[.l .Member x.Members]
def q7i:List Lv->Option Config
 |[l0]=>match asL .Member l0 with|some m0=>some (Config.mk m0)|_=>none
 |_=>none
theorem qyw(cs:List Lv)(x:Config)(h:q7i cs=some x):qgn x=cs:=by
 unfold q7i at h;split at h
 .split at h;·rename_i m0 h0;cases q2z h0;cases h;rfl
  .cases h
 .cases h
def encT:(c:TC)->Ty c->D|.i64=>q4c|.l_i64=>qko|.s=>enc_s|.l_s=>qso|.Tape=>qi2|.u8=>qzt|.b=>enc_b|.Claim=>q6h|.l_Claim=>qcp|.Arr2_i64=>q7f|.Frac=>qhz|.Trust=>q0y|.l_Trust=>qcy|.Nomination=>q0i|.l_Nomination=>q5l|.Member=>q5z|.l_Member=>qac|.Message=>q91|.Nominator=>q1l|.Config=>qbw
def ybe:(c:TC)->Ty c->List Lv|.i64=>qqk|.l_i64=>qit|.s=>y2m|.l_s=>qqd|.Tape=>qmf|.u8=>qwc|.b=>y2k|.Claim=>qku|.l_Claim=>qdy|.Arr2_i64=>qcc|.Frac=>qmh|.Trust=>q8w|.l_Trust=>qdf|.Nomination=>q5e|.l_Nomination=>q71|.Member=>qgq|.l_Member=>qce|.Message=>qeq|.Nominator=>q6s|.Config=>qgn
def y5o:(c:TC)->List Lv->Option (Ty c)|.i64=>qci|.l_i64=>qe7|.s=>qj4|.l_s=>qjy|.Tape=>qb1|.u8=>qfm|.b=>qj7|.Claim=>q8n|.l_Claim=>qah|.Arr2_i64=>q5j|.Frac=>qas|.Trust=>q8q|.l_Trust=>qa9|.Nomination=>q4f|.l_Nomination=>q5o|.Member=>q7p|.l_Member=>q9m|.Message=>q6n|.Nominator=>q51|.Config=>q7i
def aggF:TC->Bool|.i64=>false|.l_i64=>false|.s=>false|.l_s=>false|.Tape=>true|.u8=>false|.b=>false|.Claim=>true|.l_Claim=>false|.Arr2_i64=>true|.Frac=>true|.Trust=>true|.l_Trust=>false|.Nomination=>true|.l_Nomination=>false|.Member=>true|.l_Member=>false|.Message=>true|.Nominator=>true|.Config=>true
def sizeF:TC->Nat|.i64=>1|.l_i64=>1|.s=>1|.l_s=>1|.Tape=>2|.u8=>1|.b=>1|.Claim=>2|.l_Claim=>1|.Arr2_i64=>2|.Frac=>2|.Trust=>3|.l_Trust=>1|.Nomination=>7|.l_Nomination=>1|.Member=>4|.l_Member=>1|.Message=>7|.Nominator=>12|.Config=>1
def qz0:List (TypeId×TC×TypeId):=[(22,.i64,3),(26,.Trust,28),(33,.Nominator,37),(34,.s,9),(35,.Nomination,55),(44,.Member,51),(76,.Arr2_i64,75),(105,.u8,5),(140,.Message,143),(141,.Claim,184)]
def y51:List (TypeId×List (Option TC)):=[(22,[some .i64]),(26,[some .Trust]),(27,[none,some .i64,some .Trust]),(28,[none,some .i64,some .Trust]),(33,[some .Nominator]),(34,[some .s]),(35,[some .Nomination]),(36,[none,none,none,none,none,some .i64,some .Trust,none,some .s,some .s,some .s,some .Nomination]),(37,[none,none,none,none,none,some .i64,some .Trust,none,some .s,some .s,some .s,some .Nomination]),(44,[some .Member]),(45,[some .Member]),(46,[some .Member]),(50,[none,none,some .i64,some .Trust]),(51,[none,none,some .i64,some .Trust]),(54,[none,none,none,some .i64,some .Trust,some .s,some .s]),(55,[none,none,none,some .i64,some .Trust,some .s,some .s]),(76,[some .Arr2_i64]),(79,[some .i64,none]),(80,[some .i64,none]),(105,[some .u8]),(140,[some .Message]),(141,[some .Claim]),(142,[none,none,none,some .i64,some .Trust,some .Claim,some .Claim]),(143,[none,none,none,some .i64,some .Trust,some .Claim,some .Claim])]
def elemF:List (TypeId×TC×TypeId)->TypeId->Option TC|[],_=>none|(u,c,_)::r,t=>if u=t then some c else elemF r t
def sig:Sig:={TC:=TC,Ty:=Ty,enc:=encT,cells:=ybe,ofCells:=y5o,agg:=aggF,size:=sizeF,elem:=elemF qz0,lists:=look1 [] y51}
theorem qvg(P:Program):∀(tab:List (TypeId×TC×TypeId)),(tab.all fun p=>q1v P p.1==some p.2.2&&tyAgg P p.2.2==some (aggF p.2.1)&&q0k P p.2.2==some (sizeF p.2.1))=true->∀t c,elemF tab t=some c->∃e,q1v P t=some e/\tyAgg P e=some (aggF c)/\q0k P e=some (sizeF c)
 |[],_,_,_,h=>by cases h|(u,d,e)::r,ha,t,c,h=>by
  simp only[List.all_cons,aT,beq_iff_eq]at ha;simp only[elemF]at h;split at h;·rename_i hu;cases h;subst hu;exact⟨e,ha.1.1.1,ha.1.1.2,ha.1.2⟩
  .exact qvg P r ha.2 t c h
theorem qu8(x:Trust):sig.enc .Trust x=(packT (S:=sig) true (q8w x)).toD:=by cases x;show q0y _=_;simp only[q0y,q4h];rfl
theorem sigOk:sig.Ok Tryz.prog where
 enc_eq:=fun c x=>by cases c<;>first|rfl|exact qu8 x
 of_eq:=fun c cs x h=>by
  have:sig.cells c x=cs:=by
   cases c;·exact ydj cs x h
   .exact y5c cs x h
   .exact of_s cs x h
   .exact ydt cs x h
   .exact y95 cs x h
   .exact of_u8 cs x h
   .exact of_b cs x h
   .exact y4m cs x h
   .exact qxz cs x h
   .exact qtf cs x h
   .exact y9f cs x h
   .exact y4c cs x h
   .exact qwy cs x h
   .exact qof cs x h
   .exact qkm cs x h
   .exact y0a cs x h
   .exact qud cs x h
   .exact qx7 cs x h
   .exact qrx cs x h
   .exact qyw cs x h
  rw[this]
 inj:=fun c x y h=>by
  cases c;·exact qan x y h
  .exact y00 x y h
  .exact inj_s x y h
  .exact y8z x y h
  .exact y4z x y h
  .exact yfa x y h
  .exact inj_b x y h
  .exact qef x y h
  .exact qts x y h
  .exact qs3 x y h
  .exact y3u x y h
  .exact q6p x y h
  .exact qtl x y h
  .exact q7k x y h
  .exact qhr x y h
  .exact qfs x y h
  .exact qop x y h
  .exact qu3 x y h
  .exact qog x y h
  .exact qxm x y h
 len:=fun c x=>by cases c<;>rfl
 pos:=fun c=>by cases c<;>decide
 one:=fun c h=>by cases c<;>first|rfl|cases h
 elem:=qvg Tryz.prog qz0 (by kernel_rfl)
def yc8:List (Nat×List (OT sig)):=[(7,[.lf .b]),(33,[.lf .b]),(14,[.lf .b]),(34,[.lf .b]),(35,[.lf .b]),(8,[.ptr 0 0]),(36,[.ag .Nominator]),(22,[.ag .Nomination]),(37,[.ag .Nominator]),(85,[.lf .b]),(25,[.lf .s,.lf .b]),(12,[.ag .Nominator,.lf (.i .i64)]),(86,[.lf (.i .i64)]),(10,[.lf (.i .i64)]),(27,[.ag .Trust]),(48,[.ag .Nominator,.lf (.i .i64)]),(9,[.lf (.i .i64)]),(67,[.lf (.l .s)]),(16,[.lf (.i .i64)]),(87,[.ag .Trust]),(41,[.ag .Nomination]),(55,[.lf .b]),(56,[.lf (.i .i64)]),(58,[.ag .Nominator]),(57,[.ag .Nominator]),(74,[.ag .Trust]),(75,[.lf (.i .i64)]),(91,[.ag .Nominator]),(97,[.lf (.i .i64)]),(98,[.lf (.i .i64)]),(99,[.lf (.i .i64)]),(102,[.lf (.l .s)]),(103,[.ag .Config]),(104,[.lf .s,.lf .b]),(100,[.ag .Trust]),(101,[.ref 0]),(117,[.lf (.l .i64)]),(118,[.lf (.i .i64)]),(119,[.lf (.i .i64)]),(120,[.lf (.i .i64)]),(124,[.ag .Nominator]),(134,[.lf .b]),(137,[.lf (.i .i64),.lf (.i .i64)]),(139,[.lf (.i .i64),.lf (.i .i64)]),(140,[.lf (.l .i64)]),(71,[.ref 0]),(65,[.ag .Nomination]),(141,[.lf (.l .s)]),(138,[.ref 0]),(32,[.lf (.i .i64),.lf (.i .i64)]),(24,[.lf (.l .i64)]),(163,[.lf (.i .i64)]),(164,[.lf (.i .i64)]),(11,[.lf (.i .i64),.lf (.i .i64)]),(52,[.lf (.i .i64)]),(30,[.lf .b]),(29,[.lf .b]),(38,[.lf .b]),(31,[.lf .b]),(20,[.ag .Nomination]),(40,[.ag .Nomination]),(39,[.lf .b]),(78,[.lf .b]),(79,[.lf .b]),(80,[.lf .b]),(76,[.lf .b]),(88,[.lf .b]),(89,[.lf .b]),(90,[.lf .b]),(83,[.lf .b]),(84,[.lf .b]),(64,[.ag .Nomination]),(121,[.lf (.i .i64)]),(92,[.lf .b]),(123,[.lf .b]),(131,[.lf .b]),(132,[.lf .b]),(45,[.ag .Nominator,.lf (.i .i64)]),(47,[.ag .Nominator,.lf (.i .i64)]),(42,[.ag .Nominator,.lf (.i .i64)]),(44,[.lf .b]),(73,[.lf .b]),(50,[.lf (.i .i64)]),(70,[.lf (.i .i64)]),(95,[.lf (.i .i64)]),(94,[.lf (.i .i64)]),(114,[.lf .b]),(133,[.lf .b]),(105,[.lf (.l .s)]),(144,[.lf (.i .i64),.lf .b]),(145,[.lf (.l .s)]),(125,[.lf (.l .s)]),(159,[.lf (.l .s)]),(142,[.ag .Config]),(106,[.lf (.i .i64),.lf (.i .i64)]),(82,[.lf .b]),(143,[.lf .b]),(122,[.lf .b]),(171,[.lf .b]),(172,[.lf .b]),(147,[.lf (.i .i64)]),(146,[.lf .b]),(158,[.lf (.i .i64)]),(191,[.lf .b]),(192,[.lf (.i .i64)]),(193,[.lf .b]),(175,[.lf (.i .i64),.lf (.l .i64)]),(157,[.lf (.i .i64),.lf (.i .i64)]),(127,[.lf (.l .s)]),(77,[.lf .b]),(165,[.lf (.i .i64)]),(166,[]),(167,[.lf (.l .s)]),(189,[.lf (.i .i64)]),(188,[]),(210,[.lf (.i .i64)]),(21,[.lf .b]),(66,[.lf .b]),(135,[.lf .b]),(136,[.lf .b]),(53,[.lf .b]),(54,[.lf (.i .u32)]),(96,[.ag .Frac,.lf .b]),(23,[.ag .Nominator,.lf (.i .i64)]),(43,[.lf .b]),(19,[.ag .Nominator,.lf (.i .i64)]),(68,[.lf (.i .i64),.lf .b]),(63,[.ag .Nominator]),(72,[.lf (.l .Nomination)]),(49,[.lf .s,.lf .b]),(51,[.lf (.i .i64)]),(93,[.lf .b]),(81,[.lf .b]),(107,[.lf .b]),(126,[.lf .b]),(128,[.lf (.i .i64),.lf (.i .i64)]),(130,[.ag .Config]),(160,[.lf .b]),(183,[.lf .b]),(161,[.lf (.i .i64)]),(176,[.lf (.i .i64)]),(177,[.lf .b]),(184,[.lf (.l .i64)]),(129,[.lf .b]),(168,[.lf .b]),(169,[.ag .Trust]),(170,[.lf .b]),(190,[.lf .b]),(195,[.lf (.i .i64),.lf .b]),(186,[.lf .b]),(187,[.lf (.i .u32)]),(200,[.ag .Frac,.lf .b]),(218,[.lf .b]),(224,[.lf (.i .i64)]),(201,[]),(202,[]),(203,[]),(204,[.lf (.i .i64),.lf (.i .i64)]),(205,[]),(206,[.lf .b]),(207,[.lf (.i .i64)]),(208,[.lf (.i .i64),.lf .b]),(220,[.lf (.i .u64)]),(222,[.lf (.i .i64)]),(223,[.lf (.i .i64)]),(225,[.lf (.i .i64),.lf (.i .i64)]),(46,[.ag .Nominator,.lf (.i .i64)]),(69,[.lf (.i .i64)]),(162,[.ag .Config]),(211,[.lf .b]),(212,[.lf (.i .i64)]),(214,[.lf .b]),(219,[]),(221,[.lf (.i .u64)]),(185,[.lf .b]),(199,[.lf .b]),(216,[.lf .b]),(217,[.lf (.i .i64)])]
def y9b:List (Nat×List (List (OT sig))):=[(8,[[.lf (.l .i64),.lf (.i .i64)]]),(101,[[.own .s false]]),(71,[[.own .Nomination false]]),(138,[[.own .i64 false]])]
noncomputable def tn:TEn:={E:=env,S:=sig,res:=look1 [] yc8,news:=look1 [] y9b,outs:=fun f=>if List.contains [72,145,167] f then some [[.undef]]else none,cut:=fun _ _=>false}
def qhj(fn:Func):Code:=match fn.body with|some c=>c|none=>.skip
def q08(fn:Func)(p:List Nat):Code:=qk1 p (qhj fn)
def ydw(fn:Func)(p ms:List Nat):List Fr:=qji p (qhj fn) ms []
abbrev o0':OSpec sig:=⟨[.lf .b],[]⟩
abbrev o1':OSpec sig:=⟨[.lf (.i .i64)],[]⟩
abbrev o2':OSpec sig:=⟨[.ag .Nominator],[]⟩
abbrev o3':OSpec sig:=⟨[],[[.own .s false]]⟩
abbrev o4':OSpec sig:=⟨[.lf (.i .i64),.lf (.i .i64)],[]⟩
abbrev o5':OSpec sig:=⟨[.lf (.l .s)],[]⟩
abbrev o6':OSpec sig:=⟨[.ag .Nominator,.lf (.i .i64)],[]⟩
abbrev o7':OSpec sig:=⟨[.ag .Trust],[[.lf (.l .i64),.lf (.i .i64)]]⟩
abbrev o8':OSpec sig:=⟨[.ag .Config],[]⟩
abbrev o9':OSpec sig:=⟨[.lf (.l .i64)],[]⟩
abbrev o10':OSpec sig:=⟨[.lf (.i .i64),.lf .b],[[.own .s false]]⟩
abbrev o11':OSpec sig:=⟨[.lf .s,.lf .b],[]⟩
abbrev o12':OSpec sig:=⟨[.lf (.i .i64),.lf .b],[]⟩
abbrev o13':OSpec sig:=⟨[.lf .b],[[.own .s false]]⟩
abbrev o14':OSpec sig:=⟨[.ag .Frac,.lf .b],[]⟩
abbrev o15':OSpec sig:=⟨[.lf (.i .i64)],[[.own .s false]]⟩
abbrev o16':OSpec sig:=⟨[.ag .Trust],[]⟩
abbrev o17':OSpec sig:=⟨[.ag .Nomination],[]⟩
abbrev o18':OSpec sig:=⟨[.ag .Nominator],[[.lf (.l .i64),.lf (.i .i64)]]⟩
abbrev o19':OSpec sig:=⟨[.lf (.i .i64)],[[.lf (.l .i64),.lf (.i .i64)]]⟩
abbrev o20':OSpec sig:=⟨[.lf (.l .i64)],[[.lf (.l .i64),.lf (.i .i64)]]⟩
abbrev o21':OSpec sig:=⟨[.ag .Nomination],[[.lf (.l .i64),.lf (.i .i64)]]⟩
abbrev o22':OSpec sig:=⟨[.lf (.l .s)],[[.lf (.l .i64),.lf (.i .i64)]]⟩
abbrev o23':OSpec sig:=⟨[.lf .b],[[.lf (.i .i64),.lf (.i .i64),.lf (.i .i64),.lf (.i .i64),.lf (.i .i64),.lf (.l .i64),.lf (.l .Trust),.lf .s,.lf (.l .s),.lf (.l .s),.lf (.l .s),.lf (.l .Nomination)]]⟩
abbrev o24':OSpec sig:=⟨[.lf (.i .i64)],[[.lf (.i .i64),.lf (.i .i64),.lf (.i .i64),.lf (.i .i64),.lf (.i .i64),.lf (.l .i64),.lf (.l .Trust),.lf .s,.lf (.l .s),.lf (.l .s),.lf (.l .s),.lf (.l .Nomination)]]⟩
abbrev o25':OSpec sig:=⟨[.lf (.i .i64),.lf (.l .i64)],[]⟩
abbrev o26':OSpec sig:=⟨[.lf (.i .u32)],[]⟩
abbrev o27':OSpec sig:=⟨[.lf (.i .i64)],[[.own .s false],[.lf (.i .i64)]]⟩
abbrev o28':OSpec sig:=⟨[.ptr 0 0],[[.lf (.l .i64),.lf (.i .i64)]]⟩
abbrev o29':OSpec sig:=⟨[.lf (.i .i64),.lf (.i .i64)],[[.own .s false]]⟩
abbrev o30':OSpec sig:=⟨[.lf (.i .i64),.lf (.i .i64)],[[.own .s false],[.lf (.i .i64)]]⟩
abbrev o31':OSpec sig:=⟨[.lf (.i .u64)],[[.lf (.i .u64)]]⟩
def eL{α:Type}(b a:Option α):Prop:=∀r,a=some r->b=some r
theorem cL{f:FuncId}{fn:Func}{vs:List (TL sig)}{hs:THeap sig}(o:OSpec sig)(hf:Tryz.prog.funcs[f]?=some fn){p:Option o.Out}(hok:env.ok f=true:=by kernel_rfl)(hb:fn.body=some (qhj fn):=by kernel_rfl)(hn0:(decide (vs.length<=fn.ntmps)&&(q7l Tryz.prog fn (qhj fn)).isNone&&(env.seek f).isNone&&(env.lib f).isNone)=true:=by kernel_rfl)(h:te tn ⟨f,fn,hs.length⟩ o 100000 (qhj fn) [] ⟨bindT 0 vs,hs⟩=p:=by kernel_rfl):eL (callC tn f vs hs o) p:=y4d (T:=tn) sigOk 100000 hok hf hb hn0 h
theorem gL{F:Fx}(o:OSpec sig)(b:Code){c:Code}{K:List Fr}{s:TSt sig}{p:Option o.Out}(hc:c=.loop b:=by kernel_rfl)(h:te tn F o 100000 b (.loop b s.heap.length::K) s=p:=by kernel_rfl):eL (goC tn F o c K s) p:=qxa (T:=tn) sigOk 100000 hc h
end Go.Proofs.YtglokalgdbegeaaGreat
