/- The seat's program for the machines. -/
import Derived.Test.YtdmfjabikomgiaaGreatP20An
import Derived.Test.YtdmfjabikomgiaaGreatMachT
import Derived.Test.YtdmfjabikomgiaaGreatChecked
namespace Go.Proofs.YtdmfjabikomgiaaGreat
open Go Go.Ab
def look1{α:Type}(d:α):List (Nat×α)->Nat->α|[],_=>d|(k,v)::r,t=>if k=t then v else look1 d r t
def an:An:={flag:=fun f t=>if(look1 [] yi0 f).contains t then .keep else .view,clear:=fun f=>look1 [] (look1 [] yce f),mode:=fun f=>look1 0 (look1 [] yew f),order:=fun f=>look1 [] (look1 [] yc0 f),own:=fun f=>anOwn.contains f}
def lastF:Nat:=285
def badF:List Nat:=[2,3,4,5,7,8,9,10,12,15,17,21,22,23,30,31,32,36,37,38,39,40,42,43,44,45,46,47,48,49,50,52,53,54,55,60,61,66,74,76,77,78,83,84,85,86,89,90,95,97,98,99,100,101,102,104,109,110,111,112,118,131,132,134,140,141,142,144,145,154,157,158,159,160,161,167,175,182,183,184,185,186,187,195,196,197,198,209,217,218,223,224,226,227,231,232,233,235,236,237,240,247,248,255,262,263,264,278]
def okF(h:Nat):Bool:=decide (2<=h/\h<=lastF)&&!badF.contains h
noncomputable def y39:List (Nat×Option (List AV->Heap->Option (AV×Heap))):=[(148,some q3z),(207,some (q81 7)),(242,some (q88 2)),(254,some (q6b 2))]
noncomputable def env:Env0:={P:=Tryz.prog,glob:=fun _=>none,an:=an,ok:=okF,lib:=look1 none y39}
structure Trust where
 Threshold:Int
 Nodes:List (Int)Inner:List (Trust)
structure Claim where
 Topic:Int
 Value:Int
structure Tape where l:List (Int)at_:Int
structure Member where
 Declared:Bool
 Trust:Trust
structure Message where
 Node:Int
 Seq:Int
 Trust:Trust
 Votes:List (Claim)Accepts:List (Claim)
structure Config where Members:List (Member)
structure Play where
 Kind:Int
 From:Int
 To:Int
 Claim:Claim
 Trust:Trust
 Message:Message
structure Voter where
 Node:Int
 Seq:Int
 Trust:Trust
 Votes:List (Claim)Accepts:List (Claim)Confirms:List (Claim)Heard:List (Message)
structure Meeting where
 Voters:List (Voter)Stopped:Int
 Ill:Int
inductive TC where|i64|l_i64|b|Trust|l_Trust|Claim|l_Claim|Tape|Member|l_Member|Message|l_Message|Config|Play|Voter|l_Voter|Meeting deriving DecidableEq
def Ty:TC->Type|.i64=>Int|.l_i64=>List (Int)|.b=>Bool|.Trust=>Trust|.l_Trust=>List (Trust)|.Claim=>Claim|.l_Claim=>List (Claim)|.Tape=>Tape|.Member=>Member|.l_Member=>List (Member)|.Message=>Message|.l_Message=>List (Message)|.Config=>Config|.Play=>Play|.Voter=>Voter|.l_Voter=>List (Voter)|.Meeting=>Meeting
abbrev Lv:=Leaf TC Ty
def asL(c:TC):Lv->Option (List (Ty c))|.l c' xs=>if h:c'=c then some (h▸xs)else none|_=>none
theorem q2k{c:TC}{x:Lv}{xs:List (Ty c)}(h:asL c x=some xs):x=.l c xs:=by cases x with
 |l c' ys=>
  simp only[asL]at h;split at h;·rename_i hc;subst hc;cases h;rfl
  .cases h|_=>cases h
def q6s(x:Int):D:=.v (.int .i64 x)
theorem q9k(x y:Int)(h:q6s x=q6s y):x=y:=q26 h
def qq1(x:Int):List Lv:=[.i .i64 x]
def qd2:List Lv->Option (Int)|[.i .i64 x]=>some x|_=>none
theorem ydc(cs:List Lv)(x:Int)(h:qd2 cs=some x):qq1 x=cs:=by
 unfold qd2 at h;split at h;·cases h;rfl
 .cases h
def ql6(x:List (Int)):D:=.list (x.map q6s)
theorem y1j(x y:List (Int))(h:ql6 x=ql6 y):x=y:=q14 q9k h
def qiy(x:List (Int)):List Lv:=[.l .i64 x]
def qfj:List Lv->Option (List (Int))|[x]=>asL .i64 x|_=>none
theorem y63:∀(cs:List Lv)(x:List (Int)),qfj cs=some x->qiy x=cs|[y],x,h=>by rw[q2k (c:=.i64) (x:=y) (xs:=x) h];rfl|[],x,h=>by have h':(none:Option (List (Int)))=some x:=h;cases h'|_::_::_,x,h=>by have h':(none:Option (List (Int)))=some x:=h;cases h'
def enc_b(x:Bool):D:=.v (.bool x)
theorem inj_b(x y:Bool)(h:enc_b x=enc_b y):x=y:=qw9 h
def y24(x:Bool):List Lv:=[.b x]
def qkp:List Lv->Option (Bool)|[.b x]=>some x|_=>none
theorem of_b(cs:List Lv)(x:Bool)(h:qkp cs=some x):y24 x=cs:=by
 unfold qkp at h;split at h;·cases h;rfl
 .cases h
mutual
def q2l : Trust -> D
 | ⟨a0, a1, a2⟩ => .agg [.v (.int .i64 a0), .list ((a1).map q6s), .list (q3y a2)]
def q3y : List Trust -> List D
 | [] => []
 | x :: r => q2l x :: q3y r
end
theorem qdv:∀l:List Trust,q3y l=l.map q2l|[]=>rfl|x::r=>by simp only[q3y,qdv r,List.map_cons]
mutual
theorem q5l : ∀ x y : Trust, q2l x = q2l y -> x = y
 | ⟨a0, a1, a2⟩, ⟨b0, b1, b2⟩, h => by
  simp only [q2l, D.agg.injEq, List.cons.injEq, and_true] at h;obtain ⟨h0, h1, h2⟩ := h;have e0 : a0 = b0 := q26 h0;have e1 : a1 = b1 := q14 q9k h1;have e2 : a2 = b2 := qmw _ _ (D.list.inj h2);rw [e0, e1, e2]
theorem qmw : ∀ x y : List Trust, q3y x = q3y y -> x = y
 | [], [], _ => rfl
 | [], _ :: _, h => by simp [q3y] at h
 | _ :: _, [], h => by simp [q3y] at h
 | x :: r, y :: r', h => by
  simp only [q3y, List.cons.injEq] at h;rw [q5l x y h.1, qmw r r' h.2]
end
def qcn(x:Trust):List Lv:=[.i .i64 x.Threshold,.l .i64 x.Nodes,.l .Trust x.Inner]
def q9f:List Lv->Option Trust
 |[.i .i64 a0,l1,l2]=>match asL .i64 l1,asL .Trust l2 with|some m1,some m2=>some (Trust.mk a0 m1 m2)|_,_=>none
 |_=>none
theorem y5j(cs:List Lv)(x:Trust)(h:q9f cs=some x):qcn x=cs:=by
 unfold q9f at h;split at h
 .split at h;·rename_i m1 m2 h1 h2;cases q2k h1;cases q2k h2;cases h;rfl
  .cases h
 .cases h
def qdg(x:List (Trust)):D:=.list (x.map q2l)
theorem qt3(x y:List (Trust))(h:qdg x=qdg y):x=y:=q14 q5l h
def qf3(x:List (Trust)):List Lv:=[.l .Trust x]
def qau:List Lv->Option (List (Trust))|[x]=>asL .Trust x|_=>none
theorem qy1:∀(cs:List Lv)(x:List (Trust)),qau cs=some x->qf3 x=cs|[y],x,h=>by rw[q2k (c:=.Trust) (x:=y) (xs:=x) h];rfl|[],x,h=>by have h':(none:Option (List (Trust)))=some x:=h;cases h'|_::_::_,x,h=>by have h':(none:Option (List (Trust)))=some x:=h;cases h'
def q0p(x:Claim):D:=.agg [.v (.int .i64 (x.Topic)),.v (.int .i64 (x.Value))]
theorem q43:∀x y:Claim,q0p x=q0p y->x=y|⟨a0,a1⟩,⟨b0,b1⟩,h=>by simp only[q0p,D.agg.injEq,List.cons.injEq,and_true]at h;obtain⟨h0,h1⟩:=h;have e0:a0=b0:=q26 h0;have e1:a1=b1:=q26 h1;rw[e0,e1]
def ql8(x:Claim):List Lv:=[.i .i64 x.Topic,.i .i64 x.Value]
def q9o:List Lv->Option Claim|[.i .i64 a0,.i .i64 a1]=>some (Claim.mk a0 a1)|_=>none
theorem y55(cs:List Lv)(x:Claim)(h:q9o cs=some x):ql8 x=cs:=by
 unfold q9o at h;split at h;·cases h;rfl
 .cases h
def qde(x:List (Claim)):D:=.list (x.map q0p)
theorem qsd(x y:List (Claim))(h:qde x=qde y):x=y:=q14 q43 h
def qds(x:List (Claim)):List Lv:=[.l .Claim x]
def qah:List Lv->Option (List (Claim))|[x]=>asL .Claim x|_=>none
theorem qxs:∀(cs:List Lv)(x:List (Claim)),qah cs=some x->qds x=cs|[y],x,h=>by rw[q2k (c:=.Claim) (x:=y) (xs:=x) h];rfl|[],x,h=>by have h':(none:Option (List (Claim)))=some x:=h;cases h'|_::_::_,x,h=>by have h':(none:Option (List (Claim)))=some x:=h;cases h'
def qil(x:Tape):D:=.agg [.list (((x.l)).map q6s),.v (.int .i64 (x.at_))]
theorem y6z:∀x y:Tape,qil x=qil y->x=y|⟨a0,a1⟩,⟨b0,b1⟩,h=>by simp only[qil,D.agg.injEq,List.cons.injEq,and_true]at h;obtain⟨h0,h1⟩:=h;have e0:a0=b0:=q14 q9k h0;have e1:a1=b1:=q26 h1;rw[e0,e1]
def qm4(x:Tape):List Lv:=[.l .i64 x.l,.i .i64 x.at_]
def qbg:List Lv->Option Tape
 |[l0,.i .i64 a1]=>match asL .i64 l0 with|some m0=>some (Tape.mk m0 a1)|_=>none
 |_=>none
theorem ybm(cs:List Lv)(x:Tape)(h:qbg cs=some x):qm4 x=cs:=by
 unfold qbg at h;split at h
 .split at h;·rename_i m0 h0;cases q2k h0;cases h;rfl
  .cases h
 .cases h
def q67(x:Member):D:=.agg [.v (.bool (x.Declared)),.v (.int .i64 (x.Trust.Threshold)),.list (((x.Trust.Nodes)).map q6s),.list (((x.Trust.Inner)).map q2l)]
theorem qgf:∀x y:Member,q67 x=q67 y->x=y|⟨a0,⟨a1,a2,a3⟩⟩,⟨b0,⟨b1,b2,b3⟩⟩,h=>by simp only[q67,D.agg.injEq,List.cons.injEq,and_true]at h;obtain⟨h0,h1,h2,h3⟩:=h;have e0:a0=b0:=qw9 h0;have e1:a1=b1:=q26 h1;have e2:a2=b2:=q14 q9k h2;have e3:a3=b3:=q14 q5l h3;rw[e0,e1,e2,e3]
def qh4(x:Member):List Lv:=[.b x.Declared,.i .i64 x.Trust.Threshold,.l .i64 x.Trust.Nodes,.l .Trust x.Trust.Inner]
def q7j:List Lv->Option Member
 |[.b a0,.i .i64 a1,l2,l3]=>match asL .i64 l2,asL .Trust l3 with|some m2,some m3=>some (Member.mk a0 (Trust.mk a1 m2 m3))|_,_=>none
 |_=>none
theorem y4s(cs:List Lv)(x:Member)(h:q7j cs=some x):qh4 x=cs:=by
 unfold q7j at h;split at h
 .split at h;·rename_i m2 m3 h2 h3;cases q2k h2;cases q2k h3;cases h;rfl
  .cases h
 .cases h
def qaq(x:List (Member)):D:=.list (x.map q67)
theorem qpb(x y:List (Member))(h:qaq x=qaq y):x=y:=q14 qgf h
def qcg(x:List (Member)):List Lv:=[.l .Member x]
def q9u:List Lv->Option (List (Member))|[x]=>asL .Member x|_=>none
theorem qsh:∀(cs:List Lv)(x:List (Member)),q9u cs=some x->qcg x=cs|[y],x,h=>by rw[q2k (c:=.Member) (x:=y) (xs:=x) h];rfl|[],x,h=>by have h':(none:Option (List (Member)))=some x:=h;cases h'|_::_::_,x,h=>by have h':(none:Option (List (Member)))=some x:=h;cases h'
def q1n(x:Message):D:=.agg [.v (.int .i64 (x.Node)),.v (.int .i64 (x.Seq)),.v (.int .i64 (x.Trust.Threshold)),.list (((x.Trust.Nodes)).map q6s),.list (((x.Trust.Inner)).map q2l),.list (((x.Votes)).map q0p),.list (((x.Accepts)).map q0p)]
theorem qct:∀x y:Message,q1n x=q1n y->x=y|⟨a0,a1,⟨a2,a3,a4⟩,a5,a6⟩,⟨b0,b1,⟨b2,b3,b4⟩,b5,b6⟩,h=>by simp only[q1n,D.agg.injEq,List.cons.injEq,and_true]at h;obtain⟨h0,h1,h2,h3,h4,h5,h6⟩:=h;have e0:a0=b0:=q26 h0;have e1:a1=b1:=q26 h1;have e2:a2=b2:=q26 h2;have e3:a3=b3:=q14 q9k h3;have e4:a4=b4:=q14 q5l h4;have e5:a5=b5:=q14 q43 h5;have e6:a6=b6:=q14 q43 h6;rw[e0,e1,e2,e3,e4,e5,e6]
def qfi(x:Message):List Lv:=[.i .i64 x.Node,.i .i64 x.Seq,.i .i64 x.Trust.Threshold,.l .i64 x.Trust.Nodes,.l .Trust x.Trust.Inner,.l .Claim x.Votes,.l .Claim x.Accepts]
def q6r:List Lv->Option Message
 |[.i .i64 a0,.i .i64 a1,.i .i64 a2,l3,l4,l5,l6]=>match asL .i64 l3,asL .Trust l4,asL .Claim l5,asL .Claim l6 with|some m3,some m4,some m5,some m6=>some (Message.mk a0 a1 (Trust.mk a2 m3 m4) m5 m6)|_,_,_,_=>none
 |_=>none
theorem qyb(cs:List Lv)(x:Message)(h:q6r cs=some x):qfi x=cs:=by
 unfold q6r at h;split at h
 .split at h;·rename_i m3 m4 m5 m6 h3 h4 h5 h6;cases q2k h3;cases q2k h4;cases q2k h5;cases q2k h6;cases h;rfl
  .cases h
 .cases h
def q94(x:List (Message)):D:=.list (x.map q1n)
theorem qnt(x y:List (Message))(h:q94 x=q94 y):x=y:=q14 qct h
def qb5(x:List (Message)):List Lv:=[.l .Message x]
def q8i:List Lv->Option (List (Message))|[x]=>asL .Message x|_=>none
theorem qpk:∀(cs:List Lv)(x:List (Message)),q8i cs=some x->qb5 x=cs|[y],x,h=>by rw[q2k (c:=.Message) (x:=y) (xs:=x) h];rfl|[],x,h=>by have h':(none:Option (List (Message)))=some x:=h;cases h'|_::_::_,x,h=>by have h':(none:Option (List (Message)))=some x:=h;cases h'
def qbp(x:Config):D:=.agg [.list (((x.Members)).map q67)]
theorem qyg:∀x y:Config,qbp x=qbp y->x=y|⟨a0⟩,⟨b0⟩,h=>by simp only[qbp,D.agg.injEq,List.cons.injEq,and_true]at h;have h0:=h;have e0:a0=b0:=q14 qgf h0;rw[e0]
def qhe(x:Config):List Lv:=[.l .Member x.Members]
def q7q:List Lv->Option Config
 |[l0]=>match asL .Member l0 with|some m0=>some (Config.mk m0)|_=>none
 |_=>none
theorem y31(cs:List Lv)(x:Config)(h:q7q cs=some x):qhe x=cs:=by
 unfold q7q at h;split at h
 .split at h;·rename_i m0 h0;cases q2k h0;cases h;rfl
  .cases h
 .cases h
def qik(x:Play):D:=.agg [.v (.int .i64 (x.Kind)),.v (.int .i64 (x.From)),.v (.int .i64 (x.To)),.v (.int .i64 (x.Claim.Topic)),.v (.int .i64 (x.Claim.Value)),.v (.int .i64 (x.Trust.Threshold)),.list (((x.Trust.Nodes)).map q6s),.list (((x.Trust.Inner)).map q2l),.v (.int .i64 (x.Message.Node)),.v (.int .i64 (x.Message.Seq)),.v (.int .i64 (x.Message.Trust.Threshold)),.list (((x.Message.Trust.Nodes)).map q6s),.list (((x.Message.Trust.Inner)).map q2l),.list (((x.Message.Votes)).map q0p),.list (((x.Message.Accepts)).map q0p)]
theorem y59:∀x y:Play,qik x=qik y->x=y|⟨a0,a1,a2,⟨a3,a4⟩,⟨a5,a6,a7⟩,⟨a8,a9,⟨a10,a11,a12⟩,a13,a14⟩⟩,⟨b0,b1,b2,⟨b3,b4⟩,⟨b5,b6,b7⟩,⟨b8,b9,⟨b10,b11,b12⟩,b13,b14⟩⟩,h=>by simp only[qik,D.agg.injEq,List.cons.injEq,and_true]at h;obtain⟨h0,h1,h2,h3,h4,h5,h6,h7,h8,h9,h10,h11,h12,h13,h14⟩:=h;have e0:a0=b0:=q26 h0;have e1:a1=b1:=q26 h1;have e2:a2=b2:=q26 h2;have e3:a3=b3:=q26 h3;have e4:a4=b4:=q26 h4;have e5:a5=b5:=q26 h5;have e6:a6=b6:=q14 q9k h6;have e7:a7=b7:=q14 q5l h7;have e8:a8=b8:=q26 h8;have e9:a9=b9:=q26 h9;have e10:a10=b10:=q26 h10;have e11:a11=b11:=q14 q9k h11;have e12:a12=b12:=q14 q5l h12;have e13:a13=b13:=q14 q43 h13;have e14:a14=b14:=q14 q43 h14;rw[e0,e1,e2,e3,e4,e5,e6,e7,e8,e9,e10,e11,e12,e13,e14]
def qm8(x:Play):List Lv:=[.i .i64 x.Kind,.i .i64 x.From,.i .i64 x.To,.i .i64 x.Claim.Topic,.i .i64 x.Claim.Value,.i .i64 x.Trust.Threshold,.l .i64 x.Trust.Nodes,.l .Trust x.Trust.Inner,.i .i64 x.Message.Node,.i .i64 x.Message.Seq,.i .i64 x.Message.Trust.Threshold,.l .i64 x.Message.Trust.Nodes,.l .Trust x.Message.Trust.Inner,.l .Claim x.Message.Votes,.l .Claim x.Message.Accepts]
def qaw:List Lv->Option Play
 |[.i .i64 a0,.i .i64 a1,.i .i64 a2,.i .i64 a3,.i .i64 a4,.i .i64 a5,l6,l7,.i .i64 a8,.i .i64 a9,.i .i64 a10,l11,l12,l13,l14]=>match asL .i64 l6,asL .Trust l7,asL .i64 l11,asL .Trust l12,asL .Claim l13,asL .Claim l14 with|some m6,some m7,some m11,some m12,some m13,some m14=>some (Play.mk a0 a1 a2 (Claim.mk a3 a4) (Trust.mk a5 m6 m7) (Message.mk a8 a9 (Trust.mk a10 m11 m12) m13 m14))|_,_,_,_,_,_=>none
 |_=>none
theorem ybr(cs:List Lv)(x:Play)(h:qaw cs=some x):qm8 x=cs:=by
 unfold qaw at h;split at h
 .split at h;·rename_i m6 m7 m11 m12 m13 m14 h6 h7 h11 h12 h13 h14;cases q2k h6;cases q2k h7;cases q2k h11;cases q2k h12;cases q2k h13;cases q2k h14;cases h;rfl
  .cases h
 .cases h
def q7t(x:Voter):D:=.agg [.v (.int .i64 (x.Node)),.v (.int .i64 (x.Seq)),.v (.int .i64 (x.Trust.Threshold)),.list (((x.Trust.Nodes)).map q6s),.list (((x.Trust.Inner)).map q2l),.list (((x.Votes)).map q0p),.list (((x.Accepts)).map q0p),.list (((x.Confirms)).map q0p),.list (((x.Heard)).map q1n)]
theorem qju:∀x y:Voter,q7t x=q7t y->x=y|⟨a0,a1,⟨a2,a3,a4⟩,a5,a6,a7,a8⟩,⟨b0,b1,⟨b2,b3,b4⟩,b5,b6,b7,b8⟩,h=>by simp only[q7t,D.agg.injEq,List.cons.injEq,and_true]at h;obtain⟨h0,h1,h2,h3,h4,h5,h6,h7,h8⟩:=h;have e0:a0=b0:=q26 h0;have e1:a1=b1:=q26 h1;have e2:a2=b2:=q26 h2;have e3:a3=b3:=q14 q9k h3;have e4:a4=b4:=q14 q5l h4;have e5:a5=b5:=q14 q43 h5;have e6:a6=b6:=q14 q43 h6;have e7:a7=b7:=q14 q43 h7;have e8:a8=b8:=q14 qct h8;rw[e0,e1,e2,e3,e4,e5,e6,e7,e8]
def qj5(x:Voter):List Lv:=[.i .i64 x.Node,.i .i64 x.Seq,.i .i64 x.Trust.Threshold,.l .i64 x.Trust.Nodes,.l .Trust x.Trust.Inner,.l .Claim x.Votes,.l .Claim x.Accepts,.l .Claim x.Confirms,.l .Message x.Heard]
def q8v:List Lv->Option Voter
 |[.i .i64 a0,.i .i64 a1,.i .i64 a2,l3,l4,l5,l6,l7,l8]=>match asL .i64 l3,asL .Trust l4,asL .Claim l5,asL .Claim l6,asL .Claim l7,asL .Message l8 with|some m3,some m4,some m5,some m6,some m7,some m8=>some (Voter.mk a0 a1 (Trust.mk a2 m3 m4) m5 m6 m7 m8)|_,_,_,_,_,_=>none
 |_=>none
theorem y6g(cs:List Lv)(x:Voter)(h:q8v cs=some x):qj5 x=cs:=by
 unfold q8v at h;split at h
 .split at h;·rename_i m3 m4 m5 m6 m7 m8 h3 h4 h5 h6 h7 h8;cases q2k h3;cases q2k h4;cases q2k h5;cases q2k h6;cases q2k h7;cases q2k h8;cases h;rfl
  .cases h
 .cases h
def qdi(x:List (Voter)):D:=.list (x.map q7t)
theorem qtg(x y:List (Voter))(h:qdi x=qdi y):x=y:=q14 qju h
def qfg(x:List (Voter)):List Lv:=[.l .Voter x]
def qan:List Lv->Option (List (Voter))|[x]=>asL .Voter x|_=>none
theorem qyk:∀(cs:List Lv)(x:List (Voter)),qan cs=some x->qfg x=cs|[y],x,h=>by rw[q2k (c:=.Voter) (x:=y) (xs:=x) h];rfl|[],x,h=>by have h':(none:Option (List (Voter)))=some x:=h;cases h'|_::_::_,x,h=>by have h':(none:Option (List (Voter)))=some x:=h;cases h'
def q9d(x:Meeting):D:=.agg [.list (((x.Voters)).map q7t),.v (.int .i64 (x.Stopped)),.v (.int .i64 (x.Ill))]
theorem qu1:∀x y:Meeting,q9d x=q9d y->x=y|⟨a0,a1,a2⟩,⟨b0,b1,b2⟩,h=>by simp only[q9d,D.agg.injEq,List.cons.injEq,and_true]at h;obtain⟨h0,h1,h2⟩:=h;have e0:a0=b0:=q14 qju h0;have e1:a1=b1:=q26 h1;have e2:a2=b2:=q26 h2;rw[e0,e1,e2]
def qeg(x:Meeting):List Lv:=[.l .Voter x.Voters,.i .i64 x.Stopped,.i .i64 x.Ill]
def q6g:List Lv->Option Meeting
 |[l0,.i .i64 a1,.i .i64 a2]=>match asL .Voter l0 with|some m0=>some (Meeting.mk m0 a1 a2)|_=>none
 |_=>none
theorem qxo(cs:List Lv)(x:Meeting)(h:q6g cs=some x):qeg x=cs:=by
 unfold q6g at h;split at h
 .split at h;·rename_i m0 h0;cases q2k h0;cases h;rfl
  .cases h
 .cases h
def encT:(c:TC)->Ty c->D|.i64=>q6s|.l_i64=>ql6|.b=>enc_b|.Trust=>q2l|.l_Trust=>qdg|.Claim=>q0p|.l_Claim=>qde|.Tape=>qil|.Member=>q67|.l_Member=>qaq|.Message=>q1n|.l_Message=>q94|.Config=>qbp|.Play=>qik|.Voter=>q7t|.l_Voter=>qdi|.Meeting=>q9d
def ycm:(c:TC)->Ty c->List Lv|.i64=>qq1|.l_i64=>qiy|.b=>y24|.Trust=>qcn|.l_Trust=>qf3|.Claim=>ql8|.l_Claim=>qds|.Tape=>qm4|.Member=>qh4|.l_Member=>qcg|.Message=>qfi|.l_Message=>qb5|.Config=>qhe|.Play=>qm8|.Voter=>qj5|.l_Voter=>qfg|.Meeting=>qeg
def y6b:(c:TC)->List Lv->Option (Ty c)|.i64=>qd2|.l_i64=>qfj|.b=>qkp|.Trust=>q9f|.l_Trust=>qau|.Claim=>q9o|.l_Claim=>qah|.Tape=>qbg|.Member=>q7j|.l_Member=>q9u|.Message=>q6r|.l_Message=>q8i|.Config=>q7q|.Play=>qaw|.Voter=>q8v|.l_Voter=>qan|.Meeting=>q6g
def aggF:TC->Bool|.i64=>false|.l_i64=>false|.b=>false|.Trust=>true|.l_Trust=>false|.Claim=>true|.l_Claim=>false|.Tape=>true|.Member=>true|.l_Member=>false|.Message=>true|.l_Message=>false|.Config=>true|.Play=>true|.Voter=>true|.l_Voter=>false|.Meeting=>true
def sizeF:TC->Nat|.i64=>1|.l_i64=>1|.b=>1|.Trust=>3|.l_Trust=>1|.Claim=>2|.l_Claim=>1|.Tape=>2|.Member=>4|.l_Member=>1|.Message=>7|.l_Message=>1|.Config=>1|.Play=>15|.Voter=>9|.l_Voter=>1|.Meeting=>3
def y4m:List (TypeId×TC×TypeId):=[(22,.i64,3),(25,.Member,111),(28,.Play,70),(31,.Voter,59),(34,.i64,35),(44,.Meeting,33),(51,.Claim,66),(54,.Trust,56),(57,.Message,68),(83,.Config,27),(86,.l_Trust,54),(212,.l_Claim,51)]
def y7h:List (TypeId×List (Option TC)):=[(22,[some .i64]),(25,[some .Member]),(26,[some .Member]),(27,[some .Member]),(28,[some .Play]),(31,[some .Voter]),(32,[some .Voter,none,none]),(33,[some .Voter,none,none]),(34,[some .i64]),(44,[some .Meeting]),(51,[some .Claim]),(54,[some .Trust]),(55,[none,some .i64,some .Trust]),(56,[none,some .i64,some .Trust]),(57,[some .Message]),(58,[none,none,none,some .i64,some .Trust,some .Claim,some .Claim,some .Claim,some .Message]),(59,[none,none,none,some .i64,some .Trust,some .Claim,some .Claim,some .Claim,some .Message]),(67,[none,none,none,some .i64,some .Trust,some .Claim,some .Claim]),(68,[none,none,none,some .i64,some .Trust,some .Claim,some .Claim]),(69,[none,none,none,none,none,none,some .i64,some .Trust,none,none,none,some .i64,some .Trust,some .Claim,some .Claim]),(70,[none,none,none,none,none,none,some .i64,some .Trust,none,none,none,some .i64,some .Trust,some .Claim,some .Claim]),(83,[some .Config]),(85,[none]),(86,[some .l_Trust]),(95,[some .i64,none]),(96,[some .i64,none]),(110,[none,none,some .i64,some .Trust]),(111,[none,none,some .i64,some .Trust]),(144,[some .Voter,none,none,some .Play]),(145,[some .Voter,none,none,some .Play]),(212,[some .l_Claim])]
def elemF:List (TypeId×TC×TypeId)->TypeId->Option TC|[],_=>none|(u,c,_)::r,t=>if u=t then some c else elemF r t
def sig:Sig:={TC:=TC,Ty:=Ty,enc:=encT,cells:=ycm,ofCells:=y6b,agg:=aggF,size:=sizeF,elem:=elemF y4m,lists:=look1 [] y7h}
theorem qvl(P:Program):∀(tab:List (TypeId×TC×TypeId)),(tab.all fun p=>q2f P p.1==some p.2.2&&tyAgg P p.2.2==some (aggF p.2.1)&&q0o P p.2.2==some (sizeF p.2.1))=true->∀t c,elemF tab t=some c->∃e,q2f P t=some e/\tyAgg P e=some (aggF c)/\q0o P e=some (sizeF c)
 |[],_,_,_,h=>by cases h|(u,d,e)::r,ha,t,c,h=>by
  simp only[List.all_cons,aT,beq_iff_eq]at ha;simp only[elemF]at h;split at h;·rename_i hu;cases h;subst hu;exact⟨e,ha.1.1.1,ha.1.1.2,ha.1.2⟩
  .exact qvl P r ha.2 t c h
theorem qtl(x:Trust):sig.enc .Trust x=(packT (S:=sig) true (qcn x)).toD:=by cases x;show q2l _=_;simp only[q2l,qdv];rfl
theorem sigOk:sig.Ok Tryz.prog where
 enc_eq:=fun c x=>by cases c<;>first|rfl|exact qtl x
 of_eq:=fun c cs x h=>by
  have:sig.cells c x=cs:=by
   cases c;·exact ydc cs x h
   .exact y63 cs x h
   .exact of_b cs x h
   .exact y5j cs x h
   .exact qy1 cs x h
   .exact y55 cs x h
   .exact qxs cs x h
   .exact ybm cs x h
   .exact y4s cs x h
   .exact qsh cs x h
   .exact qyb cs x h
   .exact qpk cs x h
   .exact y31 cs x h
   .exact ybr cs x h
   .exact y6g cs x h
   .exact qyk cs x h
   .exact qxo cs x h
  rw[this]
 inj:=fun c x y h=>by
  cases c;·exact q9k x y h
  .exact y1j x y h
  .exact inj_b x y h
  .exact q5l x y h
  .exact qt3 x y h
  .exact q43 x y h
  .exact qsd x y h
  .exact y6z x y h
  .exact qgf x y h
  .exact qpb x y h
  .exact qct x y h
  .exact qnt x y h
  .exact qyg x y h
  .exact y59 x y h
  .exact qju x y h
  .exact qtg x y h
  .exact qu1 x y h
 len:=fun c x=>by cases c<;>rfl
 pos:=fun c=>by cases c<;>decide
 one:=fun c h=>by cases c<;>first|rfl|cases h
 elem:=qvl Tryz.prog y4m (by kernel_rfl)
def ycx:List (Nat×List (OT sig)):=[(6,[.lf .b]),(11,[.ptr 0 0]),(13,[.ag .Meeting,.lf (.l .i64),.lf (.i .i64)]),(14,[.ag .Meeting,.lf (.i .i64)]),(25,[.ag .Config]),(29,[.lf (.i .i64)]),(20,[.lf (.l .i64)]),(26,[.lf (.i .i64)]),(19,[.lf (.i .i64),.lf (.i .i64)]),(56,[.lf (.i .i64)]),(27,[.lf (.l .Play)]),(41,[.ag .Meeting,.lf (.i .i64)]),(51,[.lf .b]),(70,[.ref 1,.ref 1]),(68,[.lf (.i .i64),.lf (.i .i64)]),(69,[.lf (.i .i64)]),(91,[.lf (.i .i64)]),(87,[.lf (.i .i64)]),(123,[.lf (.i .i64)]),(16,[.lf .b,.lf (.i .i64)]),(124,[.lf (.l .i64),.lf (.i .i64)]),(62,[.lf (.i .i64)]),(35,[.lf (.i .i64)]),(63,[.lf (.i .i64)]),(65,[.ag .Config]),(64,[.lf .b,.lf (.i .i64)]),(172,[.lf (.i .i64)]),(119,[.lf (.i .i64)]),(168,[.lf (.l .i64)]),(71,[.lf (.i .i64)]),(81,[.lf .b]),(121,[.lf (.i .i64),.lf (.i .i64)]),(169,[.lf (.i .i64)]),(33,[.lf .b]),(34,[.lf .b]),(18,[.lf .b]),(24,[.lf (.l .Claim)]),(80,[.lf .b]),(67,[.ag .Config]),(28,[.lf .b]),(75,[.lf (.i .i64)]),(130,[.lf (.l .i64)]),(57,[.ag .Meeting,.lf (.i .i64)]),(58,[.ag .Meeting]),(113,[.lf (.i .i64)]),(114,[.lf (.i .i64),.ag .Voter,.lf (.i .i64)]),(115,[.ref 0]),(162,[.lf .b]),(92,[.lf .b]),(163,[.ag .Voter,.lf (.i .i64)]),(165,[.ag .Message]),(164,[.ag .Voter,.lf (.i .i64)]),(137,[.lf (.i .i64)]),(106,[.lf .b]),(166,[.ag .Voter,.lf (.i .i64)]),(151,[.lf .b]),(136,[.lf .b]),(105,[.lf .b]),(189,[.lf .b]),(143,[.lf .b]),(150,[.lf .b]),(200,[.ag .Voter]),(201,[.lf (.l .Claim)]),(202,[.ag .Voter]),(155,[.ag .Message]),(208,[.ag .Message]),(203,[.lf (.i .i64),.lf .b]),(206,[.ref 0]),(207,[.lf (.l .Message)]),(179,[.lf (.i .i64)]),(180,[.lf (.i .i64)]),(181,[.lf (.i .i64)]),(152,[.lf (.i .i64)]),(194,[.lf .b]),(192,[.lf .b]),(147,[.lf .b]),(178,[.lf .b]),(148,[.lf .b]),(188,[.lf (.i .i64)]),(191,[.lf .b]),(138,[.ag .Trust]),(116,[.ref 0]),(228,[.lf (.l .Claim)]),(229,[.ag .Voter]),(156,[.lf .b]),(214,[.lf .b]),(216,[.lf (.i .i64),.lf (.i .i64)]),(221,[.lf .b]),(222,[.lf .b]),(220,[.lf (.i .i64)]),(139,[.ref 0]),(242,[.ref 0]),(241,[.lf (.l .Claim)]),(243,[.ag .Config]),(244,[.ag .Claim,.lf .b]),(234,[.lf (.i .i64)]),(251,[.ref 0]),(253,[]),(254,[.lf (.l .Claim)]),(257,[.lf (.l .Claim)]),(267,[.lf (.i .i64)]),(266,[]),(279,[.lf (.i .i64)]),(59,[.ag .Meeting,.lf .b]),(103,[.lf (.l .i64)]),(79,[.lf (.i .i64)]),(82,[.lf (.i .i64)]),(129,[.lf (.i .i64)]),(128,[.lf (.i .i64)]),(133,[.lf (.i .i64)]),(72,[.ag .Trust]),(125,[.ag .Trust]),(174,[.ag .Trust]),(213,[.lf (.l .i64)]),(93,[.ag .Trust]),(94,[.ag .Voter,.lf (.i .i64)]),(107,[.lf .b]),(153,[.lf (.i .i64)]),(126,[.ag .Trust]),(127,[.ag .Trust]),(135,[.lf (.i .i64)]),(177,[.lf .b]),(173,[.lf .b]),(212,[.lf .b,.lf (.i .i64)]),(170,[.lf .b]),(122,[.ag .Trust]),(171,[.ag .Trust]),(210,[.lf (.i .i64)]),(96,[.ag .Trust]),(204,[.lf (.i .i64)]),(205,[.lf (.i .i64)]),(230,[.lf .b]),(193,[.lf .b]),(190,[.lf (.i .i64)]),(219,[.lf (.i .i64)]),(199,[.lf .b]),(146,[.lf .b]),(149,[.lf .b]),(256,[.ag .Trust]),(259,[.lf (.i .i64)]),(246,[.lf (.i .i64)]),(258,[.lf .b]),(260,[.lf (.i .i64)]),(268,[.lf .b]),(225,[.lf (.i .i64)]),(249,[.lf (.i .i64)]),(265,[.lf .b]),(239,[.lf (.i .i64),.lf (.l .i64)]),(215,[.lf .b]),(252,[.lf .b]),(270,[]),(271,[]),(272,[]),(273,[.lf (.i .i64),.lf (.i .i64)]),(274,[]),(275,[.lf .b]),(276,[.lf (.i .i64)]),(277,[.lf (.i .i64),.lf .b]),(281,[.lf (.i .u64)]),(283,[.lf (.i .i64)]),(284,[.lf (.i .i64)]),(285,[.lf (.i .i64),.lf (.i .i64)]),(176,[.lf (.i .i64),.lf (.i .i64)]),(73,[.lf (.l .Claim)]),(108,[.lf .b]),(120,[.lf .b]),(211,[.lf (.i .i64)]),(117,[.ag .Message]),(245,[.lf .b]),(269,[.lf (.l .Claim)]),(261,[.lf (.l .Claim)]),(238,[.lf (.i .i64),.lf .b]),(280,[]),(282,[.lf (.i .u64)]),(88,[.ag .Claim]),(250,[.lf .b])]
def yc9:List (Nat×List (List (OT sig))):=[(11,[[.lf (.l .i64),.lf (.i .i64)]]),(70,[[.own .Member false]]),(115,[[.own .Voter false]]),(206,[[.own .Message false]]),(116,[[.own .Claim false]]),(139,[[.own .i64 false]]),(242,[[.own .Claim false]])]
noncomputable def tn:TEn:={E:=env,S:=sig,res:=look1 [] ycx,news:=look1 [] yc9,outs:=fun f=>if List.contains [207,254] f then some [[.undef]]else none,cut:=fun _ _=>false}
def qfm(fn:Func):Code:=match fn.body with|some c=>c|none=>.skip
def q08(fn:Func)(p:List Nat):Code:=qk6 p (qfm fn)
def yhz(fn:Func)(p ms:List Nat):List Fr:=qjo p (qfm fn) ms []
abbrev o0':OSpec sig:=⟨[.lf (.i .i64)],[]⟩
abbrev o1':OSpec sig:=⟨[.lf .b],[]⟩
abbrev o2':OSpec sig:=⟨[],[[.own .Claim false]]⟩
abbrev o3':OSpec sig:=⟨[.lf (.l .i64)],[]⟩
abbrev o4':OSpec sig:=⟨[.ag .Trust],[]⟩
abbrev o5':OSpec sig:=⟨[.lf (.l .Claim)],[]⟩
abbrev o6':OSpec sig:=⟨[.ag .Trust],[[.lf (.l .i64),.lf (.i .i64)]]⟩
abbrev o7':OSpec sig:=⟨[.lf (.i .i64),.lf (.i .i64)],[]⟩
abbrev o8':OSpec sig:=⟨[.lf (.i .i64),.lf .b],[[.own .Claim false]]⟩
abbrev o9':OSpec sig:=⟨[.lf (.i .i64)],[[.own .Claim false]]⟩
abbrev o10':OSpec sig:=⟨[.ag .Voter],[]⟩
abbrev o11':OSpec sig:=⟨[.lf .b],[[.own .Claim false]]⟩
abbrev o12':OSpec sig:=⟨[.ag .Meeting,.lf (.i .i64)],[]⟩
abbrev o13':OSpec sig:=⟨[.lf (.i .i64)],[[.lf (.l .i64),.lf (.i .i64)]]⟩
abbrev o14':OSpec sig:=⟨[.ag .Config],[]⟩
abbrev o15':OSpec sig:=⟨[.ag .Voter,.lf (.i .i64)],[]⟩
abbrev o16':OSpec sig:=⟨[.ag .Message],[]⟩
abbrev o17':OSpec sig:=⟨[.lf (.i .i64),.lf .b],[]⟩
abbrev o18':OSpec sig:=⟨[.ag .Config],[[.lf (.l .i64),.lf (.i .i64)]]⟩
abbrev o19':OSpec sig:=⟨[.lf (.l .Play)],[[.lf (.l .i64),.lf (.i .i64)]]⟩
abbrev o20':OSpec sig:=⟨[.lf .b,.lf (.i .i64)],[]⟩
abbrev o21':OSpec sig:=⟨[.ag .Meeting],[]⟩
abbrev o22':OSpec sig:=⟨[.ag .Meeting,.lf .b],[]⟩
abbrev o23':OSpec sig:=⟨[.lf (.l .i64)],[[.lf (.l .i64),.lf (.i .i64)]]⟩
abbrev o24':OSpec sig:=⟨[.ref 0],[[.own .Claim false]]⟩
abbrev o25':OSpec sig:=⟨[.ag .Meeting,.lf (.l .i64),.lf (.i .i64)],[]⟩
abbrev o26':OSpec sig:=⟨[.ref 1,.ref 1],[[.lf (.l .i64),.lf (.i .i64)],[.own .Member false]]⟩
abbrev o27':OSpec sig:=⟨[.lf (.l .i64),.lf (.i .i64)],[]⟩
abbrev o28':OSpec sig:=⟨[.lf .b],[[.lf (.i .i64),.lf (.i .i64)]]⟩
abbrev o29':OSpec sig:=⟨[.lf .b],[[.lf (.i .i64),.lf (.i .i64),.lf (.i .i64),.lf (.l .i64),.lf (.l .Trust),.lf (.l .Claim),.lf (.l .Claim),.lf (.l .Claim),.lf (.l .Message)]]⟩
abbrev o30':OSpec sig:=⟨[.lf (.i .i64)],[[.lf (.i .i64),.lf (.i .i64)]]⟩
abbrev o31':OSpec sig:=⟨[.lf (.i .i64)],[[.lf (.i .i64),.lf (.i .i64),.lf (.i .i64),.lf (.l .i64),.lf (.l .Trust),.lf (.l .Claim),.lf (.l .Claim),.lf (.l .Claim),.lf (.l .Message)]]⟩
abbrev o32':OSpec sig:=⟨[.ag .Claim,.lf .b],[]⟩
abbrev o33':OSpec sig:=⟨[.lf .b],[[.lf (.i .i64)]]⟩
abbrev o34':OSpec sig:=⟨[.lf (.i .i64)],[[.lf (.i .i64)]]⟩
abbrev o35':OSpec sig:=⟨[.lf (.i .i64),.lf (.l .i64)],[]⟩
abbrev o36':OSpec sig:=⟨[.lf (.i .i64)],[[.own .Claim false],[.lf (.i .i64)]]⟩
abbrev o37':OSpec sig:=⟨[.lf (.l .Claim)],[[.lf (.l .i64),.lf (.i .i64)]]⟩
abbrev o38':OSpec sig:=⟨[.ptr 0 0],[[.lf (.l .i64),.lf (.i .i64)]]⟩
abbrev o39':OSpec sig:=⟨[.lf (.i .i64),.ag .Voter,.lf (.i .i64)],[]⟩
abbrev o40':OSpec sig:=⟨[.lf (.i .i64),.lf (.i .i64)],[[.own .Claim false]]⟩
abbrev o41':OSpec sig:=⟨[.lf (.i .i64),.lf (.i .i64)],[[.own .Claim false],[.lf (.i .i64)]]⟩
abbrev o42':OSpec sig:=⟨[.lf (.i .u64)],[[.lf (.i .u64)]]⟩
abbrev o43':OSpec sig:=⟨[.ag .Claim],[[.lf (.l .i64),.lf (.i .i64)]]⟩
def eL{α:Type}(b a:Option α):Prop:=∀r,a=some r->b=some r
theorem cL{f:FuncId}{fn:Func}{vs:List (TL sig)}{hs:THeap sig}(o:OSpec sig)(hf:Tryz.prog.funcs[f]?=some fn){p:Option o.Out}(hok:env.ok f=true:=by kernel_rfl)(hb:fn.body=some (qfm fn):=by kernel_rfl)(hn0:(decide (vs.length<=fn.ntmps)&&(q7m Tryz.prog fn (qfm fn)).isNone&&(env.seek f).isNone&&(env.lib f).isNone)=true:=by kernel_rfl)(h:te tn ⟨f,fn,hs.length⟩ o 100000 (qfm fn) [] ⟨bindT 0 vs,hs⟩=p:=by kernel_rfl):eL (callC tn f vs hs o) p:=y5p (T:=tn) sigOk 100000 hok hf hb hn0 h
theorem gL{F:Fx}(o:OSpec sig)(b:Code){c:Code}{K:List Fr}{s:TSt sig}{p:Option o.Out}(hc:c=.loop b:=by kernel_rfl)(h:te tn F o 100000 b (.loop b s.heap.length::K) s=p:=by kernel_rfl):eL (goC tn F o c K s) p:=qyp (T:=tn) sigOk 100000 hc h
end Go.Proofs.YtdmfjabikomgiaaGreat
