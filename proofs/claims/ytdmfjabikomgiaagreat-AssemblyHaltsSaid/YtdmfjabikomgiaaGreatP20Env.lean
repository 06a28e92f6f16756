/- The seat's program for the machines. -/
import Derived.Test.YtdmfjabikomgiaaGreatP20An
import Derived.Test.YtdmfjabikomgiaaGreatMachT
import Derived.Test.YtdmfjabikomgiaaGreatChecked
namespace Go.Proofs.YtdmfjabikomgiaaGreat
open Go Go.Ab
def look1{α:Type}(d:α):List (Nat×α)->Nat->α|[],_=>d|(k,v)::r,t=>if k=t then v else look1 d r t
def an:An:={flag:=fun f t=>if(look1 [] ybc f).contains t then .keep else .view,clear:=fun f=>look1 [] (look1 [] ya8 f),mode:=fun f=>look1 0 (look1 [] ybx f),order:=fun f=>look1 [] (look1 [] ya3 f),own:=fun f=>anOwn.contains f}
def lastF:Nat:=285
def badF:List Nat:=[2,3,4,5,6,9,10,15,16,17,19,26,36,37,38,39,40,42,43,44,45,46,47,48,49,50,52,53,54,55,60,61,62,63,64,65,68,69,83,84,85,86,89,90,95,97,98,99,100,102,104,109,110,111,112,118,119,121,122,123,124,134,141,142,144,145,154,157,158,159,160,161,167,168,169,170,171,172,173,182,183,184,185,186,187,195,196,197,198,209,210,211,212,217,218,223,224,226,227,231,232,233,235,236,237,240,247,248,255,262,263,264,278]
def okF(h:Nat):Bool:=decide (2<=h/\h<=lastF)&&!badF.contains h
noncomputable def y09:List (Nat×Option (List AV->Heap->Option (AV×Heap))):=[(148,some q3o),(207,some (q7y 7)),(242,some (q88 2)),(254,some (q6a 2))]
noncomputable def env:Env0:={P:=Tryz.prog,glob:=fun _=>none,an:=an,ok:=okF,lib:=look1 none y09}
structure Trust where
 Threshold:Int
 Nodes:List (Int)Inner:List (Trust)
structure Claim where
 Topic:Int
 Value:Int
structure Tape where l:List (Int)at_:Int
structure Member where
 Declared:Bool
 Trust:Trust
structure Message where
 Node:Int
 Seq:Int
 Trust:Trust
 Votes:List (Claim)Accepts:List (Claim)
structure Config where Members:List (Member)
structure Play where
 Kind:Int
 From:Int
 To:Int
 Claim:Claim
 Trust:Trust
 Message:Message
structure Voter where
 Node:Int
 Seq:Int
 Trust:Trust
 Votes:List (Claim)Accepts:List (Claim)Confirms:List (Claim)Heard:List (Message)
structure Meeting where
 Voters:List (Voter)Stopped:Int
 Ill:Int
inductive TC where|i64|l_i64|b|Trust|l_Trust|Claim|l_Claim|Tape|Member|l_Member|Message|l_Message|Config|Play|Voter|l_Voter|Meeting deriving DecidableEq
def Ty:TC->Type|.i64=>Int|.l_i64=>List (Int)|.b=>Bool|.Trust=>Trust|.l_Trust=>List (Trust)|.Claim=>Claim|.l_Claim=>List (Claim)|.Tape=>Tape|.Member=>Member|.l_Member=>List (Member)|.Message=>Message|.l_Message=>List (Message)|.Config=>Config|.Play=>Play|.Voter=>Voter|.l_Voter=>List (Voter)|.Meeting=>Meeting
abbrev Lv:=Leaf TC Ty
def asL(c:TC):Lv->Option (List (Ty c))|.l c' xs=>if h:c'=c then some (h▸xs)else none|_=>none
theorem q2l{c:TC}{x:Lv}{xs:List (Ty c)}(h:asL c x=some xs):x=.l c xs:=by cases x with
 |l c' ys=>
  simp only[asL]at h;split at h;·rename_i hc;subst hc;cases h;rfl
  .cases h|_=>cases h
def q6t(x:Int):D:=.v (.int .i64 x)
theorem q8i(x y:Int)(h:q6t x=q6t y):x=y:=q24 h
def qr1(x:Int):List Lv:=[.i .i64 x]
def qck:List Lv->Option (Int)|[.i .i64 x]=>some x|_=>none
theorem yd2(cs:List Lv)(x:Int)(h:qck cs=some x):qr1 x=cs:=by
 unfold qck at h;split at h;·cases h;rfl
 .cases h
def qix(x:List (Int)):D:=.list (x.map q6t)
theorem y22(x y:List (Int))(h:qix x=qix y):x=y:=q14 q8i h
def qib(x:List (Int)):List Lv:=[.l .i64 x]
def qdd:List Lv->Option (List (Int))|[x]=>asL .i64 x|_=>none
theorem y4b:∀(cs:List Lv)(x:List (Int)),qdd cs=some x->qib x=cs|[y],x,h=>by rw[q2l (c:=.i64) (x:=y) (xs:=x) h];rfl|[],x,h=>by have h':(none:Option (List (Int)))=some x:=h;cases h'|_::_::_,x,h=>by have h':(none:Option (List (Int)))=some x:=h;cases h'
def enc_b(x:Bool):D:=.v (.bool x)
theorem inj_b(x y:Bool)(h:enc_b x=enc_b y):x=y:=qv4 h
def y1j(x:Bool):List Lv:=[.b x]
def qii:List Lv->Option (Bool)|[.b x]=>some x|_=>none
theorem of_b(cs:List Lv)(x:Bool)(h:qii cs=some x):y1j x=cs:=by
 unfold qii at h;split at h;·cases h;rfl
 .cases h
mutual
def q2i : Trust -> D
 | ⟨a0, a1, a2⟩ => .agg [.v (.int .i64 a0), .list ((a1).map q6t), .list (q3s a2)]
def q3s : List Trust -> List D
 | [] => []
 | x :: r => q2i x :: q3s r
end
theorem qes:∀l:List Trust,q3s l=l.map q2i|[]=>rfl|x::r=>by simp only[q3s,qes r,List.map_cons]
mutual
theorem q5c : ∀ x y : Trust, q2i x = q2i y -> x = y
 | ⟨a0, a1, a2⟩, ⟨b0, b1, b2⟩, h => by
  simp only [q2i, D.agg.injEq, List.cons.injEq, and_true] at h;obtain ⟨h0, h1, h2⟩ := h;have e0 : a0 = b0 := q24 h0;have e1 : a1 = b1 := q14 q8i h1;have e2 : a2 = b2 := qlr _ _ (D.list.inj h2);rw [e0, e1, e2]
theorem qlr : ∀ x y : List Trust, q3s x = q3s y -> x = y
 | [], [], _ => rfl
 | [], _ :: _, h => by simp [q3s] at h
 | _ :: _, [], h => by simp [q3s] at h
 | x :: r, y :: r', h => by
  simp only [q3s, List.cons.injEq] at h;rw [q5c x y h.1, qlr r r' h.2]
end
def qcg(x:Trust):List Lv:=[.i .i64 x.Threshold,.l .i64 x.Nodes,.l .Trust x.Inner]
def q8z:List Lv->Option Trust
 |[.i .i64 a0,l1,l2]=>match asL .i64 l1,asL .Trust l2 with|some m1,some m2=>some (Trust.mk a0 m1 m2)|_,_=>none
 |_=>none
theorem y5x(cs:List Lv)(x:Trust)(h:q8z cs=some x):qcg x=cs:=by
 unfold q8z at h;split at h
 .split at h;·rename_i m1 m2 h1 h2;cases q2l h1;cases q2l h2;cases h;rfl
  .cases h
 .cases h
def qd2(x:List (Trust)):D:=.list (x.map q2i)
theorem qsy(x y:List (Trust))(h:qd2 x=qd2 y):x=y:=q14 q5c h
def qdy(x:List (Trust)):List Lv:=[.l .Trust x]
def qah:List Lv->Option (List (Trust))|[x]=>asL .Trust x|_=>none
theorem qxn:∀(cs:List Lv)(x:List (Trust)),qah cs=some x->qdy x=cs|[y],x,h=>by rw[q2l (c:=.Trust) (x:=y) (xs:=x) h];rfl|[],x,h=>by have h':(none:Option (List (Trust)))=some x:=h;cases h'|_::_::_,x,h=>by have h':(none:Option (List (Trust)))=some x:=h;cases h'
def q0p(x:Claim):D:=.agg [.v (.int .i64 (x.Topic)),.v (.int .i64 (x.Value))]
theorem q3y:∀x y:Claim,q0p x=q0p y->x=y|⟨a0,a1⟩,⟨b0,b1⟩,h=>by simp only[q0p,D.agg.injEq,List.cons.injEq,and_true]at h;obtain⟨h0,h1⟩:=h;have e0:a0=b0:=q24 h0;have e1:a1=b1:=q24 h1;rw[e0,e1]
def qkc(x:Claim):List Lv:=[.i .i64 x.Topic,.i .i64 x.Value]
def q93:List Lv->Option Claim|[.i .i64 a0,.i .i64 a1]=>some (Claim.mk a0 a1)|_=>none
theorem y4a(cs:List Lv)(x:Claim)(h:q93 cs=some x):qkc x=cs:=by
 unfold q93 at h;split at h;·cases h;rfl
 .cases h
def qd1(x:List (Claim)):D:=.list (x.map q0p)
theorem qse(x y:List (Claim))(h:qd1 x=qd1 y):x=y:=q14 q3y h
def qei(x:List (Claim)):List Lv:=[.l .Claim x]
def qaz:List Lv->Option (List (Claim))|[x]=>asL .Claim x|_=>none
theorem qxu:∀(cs:List Lv)(x:List (Claim)),qaz cs=some x->qei x=cs|[y],x,h=>by rw[q2l (c:=.Claim) (x:=y) (xs:=x) h];rfl|[],x,h=>by have h':(none:Option (List (Claim)))=some x:=h;cases h'|_::_::_,x,h=>by have h':(none:Option (List (Claim)))=some x:=h;cases h'
def qhs(x:Tape):D:=.agg [.list (((x.l)).map q6t),.v (.int .i64 (x.at_))]
theorem y4m:∀x y:Tape,qhs x=qhs y->x=y|⟨a0,a1⟩,⟨b0,b1⟩,h=>by simp only[qhs,D.agg.injEq,List.cons.injEq,and_true]at h;obtain⟨h0,h1⟩:=h;have e0:a0=b0:=q14 q8i h0;have e1:a1=b1:=q24 h1;rw[e0,e1]
def qlv(x:Tape):List Lv:=[.l .i64 x.l,.i .i64 x.at_]
def q9z:List Lv->Option Tape
 |[l0,.i .i64 a1]=>match asL .i64 l0 with|some m0=>some (Tape.mk m0 a1)|_=>none
 |_=>none
theorem y9t(cs:List Lv)(x:Tape)(h:q9z cs=some x):qlv x=cs:=by
 unfold q9z at h;split at h
 .split at h;·rename_i m0 h0;cases q2l h0;cases h;rfl
  .cases h
 .cases h
def q67(x:Member):D:=.agg [.v (.bool (x.Declared)),.v (.int .i64 (x.Trust.Threshold)),.list (((x.Trust.Nodes)).map q6t),.list (((x.Trust.Inner)).map q2i)]
theorem qfr:∀x y:Member,q67 x=q67 y->x=y|⟨a0,⟨a1,a2,a3⟩⟩,⟨b0,⟨b1,b2,b3⟩⟩,h=>by simp only[q67,D.agg.injEq,List.cons.injEq,and_true]at h;obtain⟨h0,h1,h2,h3⟩:=h;have e0:a0=b0:=qv4 h0;have e1:a1=b1:=q24 h1;have e2:a2=b2:=q14 q8i h2;have e3:a3=b3:=q14 q5c h3;rw[e0,e1,e2,e3]
def qhg(x:Member):List Lv:=[.b x.Declared,.i .i64 x.Trust.Threshold,.l .i64 x.Trust.Nodes,.l .Trust x.Trust.Inner]
def q7i:List Lv->Option Member
 |[.b a0,.i .i64 a1,l2,l3]=>match asL .i64 l2,asL .Trust l3 with|some m2,some m3=>some (Member.mk a0 (Trust.mk a1 m2 m3))|_,_=>none
 |_=>none
theorem y1x(cs:List Lv)(x:Member)(h:q7i cs=some x):qhg x=cs:=by
 unfold q7i at h;split at h
 .split at h;·rename_i m2 m3 h2 h3;cases q2l h2;cases q2l h3;cases h;rfl
  .cases h
 .cases h
def qaf(x:List (Member)):D:=.list (x.map q67)
theorem qoy(x y:List (Member))(h:qaf x=qaf y):x=y:=q14 qfr h
def qc4(x:List (Member)):List Lv:=[.l .Member x]
def q9l:List Lv->Option (List (Member))|[x]=>asL .Member x|_=>none
theorem qtw:∀(cs:List Lv)(x:List (Member)),q9l cs=some x->qc4 x=cs|[y],x,h=>by rw[q2l (c:=.Member) (x:=y) (xs:=x) h];rfl|[],x,h=>by have h':(none:Option (List (Member)))=some x:=h;cases h'|_::_::_,x,h=>by have h':(none:Option (List (Member)))=some x:=h;cases h'
def q1l(x:Message):D:=.agg [.v (.int .i64 (x.Node)),.v (.int .i64 (x.Seq)),.v (.int .i64 (x.Trust.Threshold)),.list (((x.Trust.Nodes)).map q6t),.list (((x.Trust.Inner)).map q2i),.list (((x.Votes)).map q0p),.list (((x.Accepts)).map q0p)]
theorem qcw:∀x y:Message,q1l x=q1l y->x=y|⟨a0,a1,⟨a2,a3,a4⟩,a5,a6⟩,⟨b0,b1,⟨b2,b3,b4⟩,b5,b6⟩,h=>by simp only[q1l,D.agg.injEq,List.cons.injEq,and_true]at h;obtain⟨h0,h1,h2,h3,h4,h5,h6⟩:=h;have e0:a0=b0:=q24 h0;have e1:a1=b1:=q24 h1;have e2:a2=b2:=q24 h2;have e3:a3=b3:=q14 q8i h3;have e4:a4=b4:=q14 q5c h4;have e5:a5=b5:=q14 q3y h5;have e6:a6=b6:=q14 q3y h6;rw[e0,e1,e2,e3,e4,e5,e6]
def qdq(x:Message):List Lv:=[.i .i64 x.Node,.i .i64 x.Seq,.i .i64 x.Trust.Threshold,.l .i64 x.Trust.Nodes,.l .Trust x.Trust.Inner,.l .Claim x.Votes,.l .Claim x.Accepts]
def q6k:List Lv->Option Message
 |[.i .i64 a0,.i .i64 a1,.i .i64 a2,l3,l4,l5,l6]=>match asL .i64 l3,asL .Trust l4,asL .Claim l5,asL .Claim l6 with|some m3,some m4,some m5,some m6=>some (Message.mk a0 a1 (Trust.mk a2 m3 m4) m5 m6)|_,_,_,_=>none
 |_=>none
theorem qyb(cs:List Lv)(x:Message)(h:q6k cs=some x):qdq x=cs:=by
 unfold q6k at h;split at h
 .split at h;·rename_i m3 m4 m5 m6 h3 h4 h5 h6;cases q2l h3;cases q2l h4;cases q2l h5;cases q2l h6;cases h;rfl
  .cases h
 .cases h
def q8k(x:List (Message)):D:=.list (x.map q1l)
theorem qml(x y:List (Message))(h:q8k x=q8k y):x=y:=q14 qcw h
def q9s(x:List (Message)):List Lv:=[.l .Message x]
def q84:List Lv->Option (List (Message))|[x]=>asL .Message x|_=>none
theorem qqp:∀(cs:List Lv)(x:List (Message)),q84 cs=some x->q9s x=cs|[y],x,h=>by rw[q2l (c:=.Message) (x:=y) (xs:=x) h];rfl|[],x,h=>by have h':(none:Option (List (Message)))=some x:=h;cases h'|_::_::_,x,h=>by have h':(none:Option (List (Message)))=some x:=h;cases h'
def qbk(x:Config):D:=.agg [.list (((x.Members)).map q67)]
theorem qy1:∀x y:Config,qbk x=qbk y->x=y|⟨a0⟩,⟨b0⟩,h=>by simp only[qbk,D.agg.injEq,List.cons.injEq,and_true]at h;have h0:=h;have e0:a0=b0:=q14 qfr h0;rw[e0]
def qh0(x:Config):List Lv:=[.l .Member x.Members]
def q7d:List Lv->Option Config
 |[l0]=>match asL .Member l0 with|some m0=>some (Config.mk m0)|_=>none
 |_=>none
theorem y0d(cs:List Lv)(x:Config)(h:q7d cs=some x):qh0 x=cs:=by
 unfold q7d at h;split at h
 .split at h;·rename_i m0 h0;cases q2l h0;cases h;rfl
  .cases h
 .cases h
def qhv(x:Play):D:=.agg [.v (.int .i64 (x.Kind)),.v (.int .i64 (x.From)),.v (.int .i64 (x.To)),.v (.int .i64 (x.Claim.Topic)),.v (.int .i64 (x.Claim.Value)),.v (.int .i64 (x.Trust.Threshold)),.list (((x.Trust.Nodes)).map q6t),.list (((x.Trust.Inner)).map q2i),.v (.int .i64 (x.Message.Node)),.v (.int .i64 (x.Message.Seq)),.v (.int .i64 (x.Message.Trust.Threshold)),.list (((x.Message.Trust.Nodes)).map q6t),.list (((x.Message.Trust.Inner)).map q2i),.list (((x.Message.Votes)).map q0p),.list (((x.Message.Accepts)).map q0p)]
theorem y63:∀x y:Play,qhv x=qhv y->x=y|⟨a0,a1,a2,⟨a3,a4⟩,⟨a5,a6,a7⟩,⟨a8,a9,⟨a10,a11,a12⟩,a13,a14⟩⟩,⟨b0,b1,b2,⟨b3,b4⟩,⟨b5,b6,b7⟩,⟨b8,b9,⟨b10,b11,b12⟩,b13,b14⟩⟩,h=>by simp only[qhv,D.agg.injEq,List.cons.injEq,and_true]at h;obtain⟨h0,h1,h2,h3,h4,h5,h6,h7,h8,h9,h10,h11,h12,h13,h14⟩:=h;have e0:a0=b0:=q24 h0;have e1:a1=b1:=q24 h1;have e2:a2=b2:=q24 h2;have e3:a3=b3:=q24 h3;have e4:a4=b4:=q24 h4;have e5:a5=b5:=q24 h5;have e6:a6=b6:=q14 q8i h6;have e7:a7=b7:=q14 q5c h7;have e8:a8=b8:=q24 h8;have e9:a9=b9:=q24 h9;have e10:a10=b10:=q24 h10;have e11:a11=b11:=q14 q8i h11;have e12:a12=b12:=q14 q5c h12;have e13:a13=b13:=q14 q3y h13;have e14:a14=b14:=q14 q3y h14;rw[e0,e1,e2,e3,e4,e5,e6,e7,e8,e9,e10,e11,e12,e13,e14]
def qm5(x:Play):List Lv:=[.i .i64 x.Kind,.i .i64 x.From,.i .i64 x.To,.i .i64 x.Claim.Topic,.i .i64 x.Claim.Value,.i .i64 x.Trust.Threshold,.l .i64 x.Trust.Nodes,.l .Trust x.Trust.Inner,.i .i64 x.Message.Node,.i .i64 x.Message.Seq,.i .i64 x.Message.Trust.Threshold,.l .i64 x.Message.Trust.Nodes,.l .Trust x.Message.Trust.Inner,.l .Claim x.Message.Votes,.l .Claim x.Message.Accepts]
def qa4:List Lv->Option Play
 |[.i .i64 a0,.i .i64 a1,.i .i64 a2,.i .i64 a3,.i .i64 a4,.i .i64 a5,l6,l7,.i .i64 a8,.i .i64 a9,.i .i64 a10,l11,l12,l13,l14]=>match asL .i64 l6,asL .Trust l7,asL .i64 l11,asL .Trust l12,asL .Claim l13,asL .Claim l14 with|some m6,some m7,some m11,some m12,some m13,some m14=>some (Play.mk a0 a1 a2 (Claim.mk a3 a4) (Trust.mk a5 m6 m7) (Message.mk a8 a9 (Trust.mk a10 m11 m12) m13 m14))|_,_,_,_,_,_=>none
 |_=>none
theorem ya6(cs:List Lv)(x:Play)(h:qa4 cs=some x):qm5 x=cs:=by
 unfold qa4 at h;split at h
 .split at h;·rename_i m6 m7 m11 m12 m13 m14 h6 h7 h11 h12 h13 h14;cases q2l h6;cases q2l h7;cases q2l h11;cases q2l h12;cases q2l h13;cases q2l h14;cases h;rfl
  .cases h
 .cases h
def q82(x:Voter):D:=.agg [.v (.int .i64 (x.Node)),.v (.int .i64 (x.Seq)),.v (.int .i64 (x.Trust.Threshold)),.list (((x.Trust.Nodes)).map q6t),.list (((x.Trust.Inner)).map q2i),.list (((x.Votes)).map q0p),.list (((x.Accepts)).map q0p),.list (((x.Confirms)).map q0p),.list (((x.Heard)).map q1l)]
theorem qjg:∀x y:Voter,q82 x=q82 y->x=y|⟨a0,a1,⟨a2,a3,a4⟩,a5,a6,a7,a8⟩,⟨b0,b1,⟨b2,b3,b4⟩,b5,b6,b7,b8⟩,h=>by simp only[q82,D.agg.injEq,List.cons.injEq,and_true]at h;obtain⟨h0,h1,h2,h3,h4,h5,h6,h7,h8⟩:=h;have e0:a0=b0:=q24 h0;have e1:a1=b1:=q24 h1;have e2:a2=b2:=q24 h2;have e3:a3=b3:=q14 q8i h3;have e4:a4=b4:=q14 q5c h4;have e5:a5=b5:=q14 q3y h5;have e6:a6=b6:=q14 q3y h6;have e7:a7=b7:=q14 q3y h7;have e8:a8=b8:=q14 qcw h8;rw[e0,e1,e2,e3,e4,e5,e6,e7,e8]
def qki(x:Voter):List Lv:=[.i .i64 x.Node,.i .i64 x.Seq,.i .i64 x.Trust.Threshold,.l .i64 x.Trust.Nodes,.l .Trust x.Trust.Inner,.l .Claim x.Votes,.l .Claim x.Accepts,.l .Claim x.Confirms,.l .Message x.Heard]
def q8t:List Lv->Option Voter
 |[.i .i64 a0,.i .i64 a1,.i .i64 a2,l3,l4,l5,l6,l7,l8]=>match asL .i64 l3,asL .Trust l4,asL .Claim l5,asL .Claim l6,asL .Claim l7,asL .Message l8 with|some m3,some m4,some m5,some m6,some m7,some m8=>some (Voter.mk a0 a1 (Trust.mk a2 m3 m4) m5 m6 m7 m8)|_,_,_,_,_,_=>none
 |_=>none
theorem y4z(cs:List Lv)(x:Voter)(h:q8t cs=some x):qki x=cs:=by
 unfold q8t at h;split at h
 .split at h;·rename_i m3 m4 m5 m6 m7 m8 h3 h4 h5 h6 h7 h8;cases q2l h3;cases q2l h4;cases q2l h5;cases q2l h6;cases q2l h7;cases q2l h8;cases h;rfl
  .cases h
 .cases h
def qcn(x:List (Voter)):D:=.list (x.map q82)
theorem qsc(x y:List (Voter))(h:qcn x=qcn y):x=y:=q14 qjg h
def qe3(x:List (Voter)):List Lv:=[.l .Voter x]
def qav:List Lv->Option (List (Voter))|[x]=>asL .Voter x|_=>none
theorem qy4:∀(cs:List Lv)(x:List (Voter)),qav cs=some x->qe3 x=cs|[y],x,h=>by rw[q2l (c:=.Voter) (x:=y) (xs:=x) h];rfl|[],x,h=>by have h':(none:Option (List (Voter)))=some x:=h;cases h'|_::_::_,x,h=>by have h':(none:Option (List (Voter)))=some x:=h;cases h'
def q9e(x:Meeting):D:=.agg [.list (((x.Voters)).map q82),.v (.int .i64 (x.Stopped)),.v (.int .i64 (x.Ill))]
theorem qst:∀x y:Meeting,q9e x=q9e y->x=y|⟨a0,a1,a2⟩,⟨b0,b1,b2⟩,h=>by simp only[q9e,D.agg.injEq,List.cons.injEq,and_true]at h;obtain⟨h0,h1,h2⟩:=h;have e0:a0=b0:=q14 qjg h0;have e1:a1=b1:=q24 h1;have e2:a2=b2:=q24 h2;rw[e0,e1,e2]
def qe6(x:Meeting):List Lv:=[.l .Voter x.Voters,.i .i64 x.Stopped,.i .i64 x.Ill]
def q6g:List Lv->Option Meeting
 |[l0,.i .i64 a1,.i .i64 a2]=>match asL .Voter l0 with|some m0=>some (Meeting.mk m0 a1 a2)|_=>none
 |_=>none
theorem qy9(cs:List Lv)(x:Meeting)(h:q6g cs=some x):qe6 x=cs:=by
 unfold q6g at h;split at h
 .split at h;·rename_i m0 h0;cases q2l h0;cases h;rfl
  .cases h
 .cases h
def encT:(c:TC)->Ty c->D|.i64=>q6t|.l_i64=>qix|.b=>enc_b|.Trust=>q2i|.l_Trust=>qd2|.Claim=>q0p|.l_Claim=>qd1|.Tape=>qhs|.Member=>q67|.l_Member=>qaf|.Message=>q1l|.l_Message=>q8k|.Config=>qbk|.Play=>qhv|.Voter=>q82|.l_Voter=>qcn|.Meeting=>q9e
def yeo:(c:TC)->Ty c->List Lv|.i64=>qr1|.l_i64=>qib|.b=>y1j|.Trust=>qcg|.l_Trust=>qdy|.Claim=>qkc|.l_Claim=>qei|.Tape=>qlv|.Member=>qhg|.l_Member=>qc4|.Message=>qdq|.l_Message=>q9s|.Config=>qh0|.Play=>qm5|.Voter=>qki|.l_Voter=>qe3|.Meeting=>qe6
def y4w:(c:TC)->List Lv->Option (Ty c)|.i64=>qck|.l_i64=>qdd|.b=>qii|.Trust=>q8z|.l_Trust=>qah|.Claim=>q93|.l_Claim=>qaz|.Tape=>q9z|.Member=>q7i|.l_Member=>q9l|.Message=>q6k|.l_Message=>q84|.Config=>q7d|.Play=>qa4|.Voter=>q8t|.l_Voter=>qav|.Meeting=>q6g
def aggF:TC->Bool|.i64=>false|.l_i64=>false|.b=>false|.Trust=>true|.l_Trust=>false|.Claim=>true|.l_Claim=>false|.Tape=>true|.Member=>true|.l_Member=>false|.Message=>true|.l_Message=>false|.Config=>true|.Play=>true|.Voter=>true|.l_Voter=>false|.Meeting=>true
def sizeF:TC->Nat|.i64=>1|.l_i64=>1|.b=>1|.Trust=>3|.l_Trust=>1|.Claim=>2|.l_Claim=>1|.Tape=>2|.Member=>4|.l_Member=>1|.Message=>7|.l_Message=>1|.Config=>1|.Play=>15|.Voter=>9|.l_Voter=>1|.Meeting=>3
def y44:List (TypeId×TC×TypeId):=[(22,.i64,3),(25,.Member,111),(28,.Play,70),(31,.Voter,59),(34,.i64,35),(44,.Meeting,33),(51,.Claim,66),(54,.Trust,56),(57,.Message,68),(83,.Config,27),(86,.l_Trust,54),(212,.l_Claim,51)]
def y4g:List (TypeId×List (Option TC)):=[(22,[some .i64]),(25,[some .Member]),(26,[some .Member]),(27,[some .Member]),(28,[some .Play]),(31,[some .Voter]),(32,[some .Voter,none,none]),(33,[some .Voter,none,none]),(34,[some .i64]),(44,[some .Meeting]),(51,[some .Claim]),(54,[some .Trust]),(55,[none,some .i64,some .Trust]),(56,[none,some .i64,some .Trust]),(57,[some .Message]),(58,[none,none,none,some .i64,some .Trust,some .Claim,some .Claim,some .Claim,some .Message]),(59,[none,none,none,some .i64,some .Trust,some .Claim,some .Claim,some .Claim,some .Message]),(67,[none,none,none,some .i64,some .Trust,some .Claim,some .Claim]),(68,[none,none,none,some .i64,some .Trust,some .Claim,some .Claim]),(69,[none,none,none,none,none,none,some .i64,some .Trust,none,none,none,some .i64,some .Trust,some .Claim,some .Claim]),(70,[none,none,none,none,none,none,some .i64,some .Trust,none,none,none,some .i64,some .Trust,some .Claim,some .Claim]),(83,[some .Config]),(85,[none]),(86,[some .l_Trust]),(95,[some .i64,none]),(96,[some .i64,none]),(110,[none,none,some .i64,some .Trust]),(111,[none,none,some .i64,some .Trust]),(144,[some .Voter,none,none,some .Play]),(145,[some .Voter,none,none,some .Play]),(212,[some .l_Claim])]
def elemF:List (TypeId×TC×TypeId)->TypeId->Option TC|[],_=>none|(u,c,_)::r,t=>if u=t then some c else elemF r t
def sig:Sig:={TC:=TC,Ty:=Ty,enc:=encT,cells:=yeo,ofCells:=y4w,agg:=aggF,size:=sizeF,elem:=elemF y44,lists:=look1 [] y4g}
theorem qwj(P:Program):∀(tab:List (TypeId×TC×TypeId)),(tab.all fun p=>q2e P p.1==some p.2.2&&tyAgg P p.2.2==some (aggF p.2.1)&&q0n P p.2.2==some (sizeF p.2.1))=true->∀t c,elemF tab t=some c->∃e,q2e P t=some e/\tyAgg P e=some (aggF c)/\q0n P e=some (sizeF c)
 |[],_,_,_,h=>by cases h|(u,d,e)::r,ha,t,c,h=>by
  simp only[List.all_cons,aT,beq_iff_eq]at ha;simp only[elemF]at h;split at h;·rename_i hu;cases h;subst hu;exact⟨e,ha.1.1.1,ha.1.1.2,ha.1.2⟩
  .exact qwj P r ha.2 t c h
theorem qtq(x:Trust):sig.enc .Trust x=(packT (S:=sig) true (qcg x)).toD:=by cases x;show q2i _=_;simp only[q2i,qes];rfl
theorem sigOk:sig.Ok Tryz.prog where
 enc_eq:=fun c x=>by cases c<;>first|rfl|exact qtq x
 of_eq:=fun c cs x h=>by
  have:sig.cells c x=cs:=by
   cases c;·exact yd2 cs x h
   .exact y4b cs x h
   .exact of_b cs x h
   .exact y5x cs x h
   .exact qxn cs x h
   .exact y4a cs x h
   .exact qxu cs x h
   .exact y9t cs x h
   .exact y1x cs x h
   .exact qtw cs x h
   .exact qyb cs x h
   .exact qqp cs x h
   .exact y0d cs x h
   .exact ya6 cs x h
   .exact y4z cs x h
   .exact qy4 cs x h
   .exact qy9 cs x h
  rw[this]
 inj:=fun c x y h=>by
  cases c;·exact q8i x y h
  .exact y22 x y h
  .exact inj_b x y h
  .exact q5c x y h
  .exact qsy x y h
  .exact q3y x y h
  .exact qse x y h
  .exact y4m x y h
  .exact qfr x y h
  .exact qoy x y h
  .exact qcw x y h
  .exact qml x y h
  .exact qy1 x y h
  .exact y63 x y h
  .exact qjg x y h
  .exact qsc x y h
  .exact qst x y h
 len:=fun c x=>by cases c<;>rfl
 pos:=fun c=>by cases c<;>decide
 one:=fun c h=>by cases c<;>first|rfl|cases h
 elem:=qwj Tryz.prog y44 (by kernel_rfl)
def ycl:List (Nat×List (OT sig)):=[(8,[.lf .b]),(7,[.lf .b]),(11,[.ptr 0 0]),(12,[.ag .Config,.lf (.i .i64),.lf (.l .Play)]),(13,[.ag .Meeting,.lf (.l .i64),.lf (.i .i64)]),(14,[.ag .Meeting,.lf (.i .i64)]),(31,[.lf .b]),(32,[.lf .b]),(25,[.ag .Config]),(29,[.lf (.i .i64)]),(20,[.lf (.l .i64)]),(56,[.lf (.i .i64)]),(27,[.lf (.l .Play)]),(41,[.ag .Meeting,.lf (.i .i64)]),(51,[.lf .b]),(70,[.ref 1,.ref 1]),(91,[.lf (.i .i64)]),(87,[.lf (.i .i64)]),(35,[.lf (.i .i64)]),(71,[.lf (.i .i64)]),(81,[.lf .b]),(23,[.lf .b]),(21,[.lf (.l .Claim)]),(33,[.lf .b]),(34,[.lf .b]),(18,[.lf .b]),(24,[.lf (.l .Claim)]),(80,[.lf .b]),(67,[.ag .Config]),(28,[.lf .b]),(30,[.lf .b,.lf (.i .i64)]),(74,[.lf (.i .i64)]),(76,[.lf (.i .i64)]),(75,[.lf (.i .i64)]),(130,[.lf (.l .i64)]),(57,[.ag .Meeting,.lf (.i .i64)]),(58,[.ag .Meeting]),(113,[.lf (.i .i64)]),(114,[.lf (.i .i64),.ag .Voter,.lf (.i .i64)]),(115,[.ref 0]),(162,[.lf .b]),(92,[.lf .b]),(163,[.ag .Voter,.lf (.i .i64)]),(165,[.ag .Message]),(164,[.ag .Voter,.lf (.i .i64)]),(137,[.lf (.i .i64)]),(106,[.lf .b]),(166,[.ag .Voter,.lf (.i .i64)]),(151,[.lf .b]),(136,[.lf .b]),(105,[.lf .b]),(189,[.lf .b]),(143,[.lf .b]),(150,[.lf .b]),(200,[.ag .Voter]),(201,[.lf (.l .Claim)]),(202,[.ag .Voter]),(155,[.ag .Message]),(208,[.ag .Message]),(203,[.lf (.i .i64),.lf .b]),(206,[.ref 0]),(207,[.lf (.l .Message)]),(179,[.lf (.i .i64)]),(180,[.lf (.i .i64)]),(181,[.lf (.i .i64)]),(152,[.lf (.i .i64)]),(194,[.lf .b]),(192,[.lf .b]),(147,[.lf .b]),(178,[.lf .b]),(148,[.lf .b]),(188,[.lf (.i .i64)]),(191,[.lf .b]),(138,[.ag .Trust]),(116,[.ref 0]),(228,[.lf (.l .Claim)]),(229,[.ag .Voter]),(156,[.lf .b]),(214,[.lf .b]),(216,[.lf (.i .i64),.lf (.i .i64)]),(221,[.lf .b]),(222,[.lf .b]),(220,[.lf (.i .i64)]),(139,[.ref 0]),(242,[.ref 0]),(241,[.lf (.l .Claim)]),(243,[.ag .Config]),(244,[.ag .Claim,.lf .b]),(234,[.lf (.i .i64)]),(251,[.ref 0]),(253,[]),(254,[.lf (.l .Claim)]),(257,[.lf (.l .Claim)]),(267,[.lf (.i .i64)]),(266,[]),(279,[.lf (.i .i64)]),(59,[.ag .Meeting,.lf .b]),(103,[.lf (.l .i64)]),(77,[.lf .b]),(78,[.lf .b]),(79,[.lf (.i .i64)]),(82,[.lf (.i .i64)]),(132,[.lf .b]),(22,[.lf .b]),(129,[.lf (.i .i64)]),(128,[.lf (.i .i64)]),(133,[.lf (.i .i64)]),(72,[.ag .Trust]),(125,[.ag .Trust]),(174,[.ag .Trust]),(213,[.lf (.l .i64)]),(93,[.ag .Trust]),(94,[.ag .Voter,.lf (.i .i64)]),(107,[.lf .b]),(153,[.lf (.i .i64)]),(126,[.ag .Trust]),(127,[.ag .Trust]),(135,[.lf (.i .i64)]),(177,[.lf .b]),(96,[.ag .Trust]),(204,[.lf (.i .i64)]),(205,[.lf (.i .i64)]),(230,[.lf .b]),(193,[.lf .b]),(190,[.lf (.i .i64)]),(219,[.lf (.i .i64)]),(199,[.lf .b]),(146,[.lf .b]),(149,[.lf .b]),(256,[.ag .Trust]),(259,[.lf (.i .i64)]),(246,[.lf (.i .i64)]),(258,[.lf .b]),(260,[.lf (.i .i64)]),(268,[.lf .b]),(225,[.lf (.i .i64)]),(249,[.lf (.i .i64)]),(265,[.lf .b]),(239,[.lf (.i .i64),.lf (.l .i64)]),(215,[.lf .b]),(252,[.lf .b]),(270,[]),(271,[]),(272,[]),(273,[.lf (.i .i64),.lf (.i .i64)]),(274,[]),(275,[.lf .b]),(276,[.lf (.i .i64)]),(277,[.lf (.i .i64),.lf .b]),(281,[.lf (.i .u64)]),(283,[.lf (.i .i64)]),(284,[.lf (.i .i64)]),(285,[.lf (.i .i64),.lf (.i .i64)]),(131,[.lf .b]),(140,[.lf .b]),(175,[.lf (.i .i64)]),(176,[.lf (.i .i64),.lf (.i .i64)]),(73,[.lf (.l .Claim)]),(108,[.lf .b]),(120,[.lf .b]),(117,[.ag .Message]),(245,[.lf .b]),(269,[.lf (.l .Claim)]),(261,[.lf (.l .Claim)]),(238,[.lf (.i .i64),.lf .b]),(280,[]),(282,[.lf (.i .u64)]),(101,[.lf .b]),(66,[.lf .b]),(88,[.ag .Claim]),(250,[.lf .b])]
def yaq:List (Nat×List (List (OT sig))):=[(11,[[.lf (.l .i64),.lf (.i .i64)]]),(70,[[.own .Member false]]),(115,[[.own .Voter false]]),(206,[[.own .Message false]]),(116,[[.own .Claim false]]),(139,[[.own .i64 false]]),(242,[[.own .Claim false]])]
noncomputable def tn:TEn:={E:=env,S:=sig,res:=look1 [] ycl,news:=look1 [] yaq,outs:=fun f=>if List.contains [207,254] f then some [[.undef]]else none,cut:=fun _ _=>false}
def qe1(fn:Func):Code:=match fn.body with|some c=>c|none=>.skip
def q09(fn:Func)(p:List Nat):Code:=qjq p (qe1 fn)
def yfl(fn:Func)(p ms:List Nat):List Fr:=qj6 p (qe1 fn) ms []
abbrev o0':OSpec sig:=⟨[.lf .b],[]⟩
abbrev o1':OSpec sig:=⟨[.lf (.i .i64)],[]⟩
abbrev o2':OSpec sig:=⟨[],[[.own .Claim false]]⟩
abbrev o3':OSpec sig:=⟨[.lf (.l .Claim)],[]⟩
abbrev o4':OSpec sig:=⟨[.ag .Trust],[[.lf (.l .i64),.lf (.i .i64)]]⟩
abbrev o5':OSpec sig:=⟨[.lf (.l .i64)],[]⟩
abbrev o6':OSpec sig:=⟨[.lf (.i .i64),.lf .b],[[.own .Claim false]]⟩
abbrev o7':OSpec sig:=⟨[.lf (.i .i64)],[[.own .Claim false]]⟩
abbrev o8':OSpec sig:=⟨[.ag .Trust],[]⟩
abbrev o9':OSpec sig:=⟨[.ag .Voter],[]⟩
abbrev o10':OSpec sig:=⟨[.lf .b],[[.own .Claim false]]⟩
abbrev o11':OSpec sig:=⟨[.ag .Meeting,.lf (.i .i64)],[]⟩
abbrev o12':OSpec sig:=⟨[.ag .Voter,.lf (.i .i64)],[]⟩
abbrev o13':OSpec sig:=⟨[.ag .Message],[]⟩
abbrev o14':OSpec sig:=⟨[.lf (.i .i64),.lf .b],[]⟩
abbrev o15':OSpec sig:=⟨[.lf (.i .i64),.lf (.i .i64)],[]⟩
abbrev o16':OSpec sig:=⟨[.ag .Config],[[.lf (.l .i64),.lf (.i .i64)]]⟩
abbrev o17':OSpec sig:=⟨[.lf (.i .i64)],[[.lf (.l .i64),.lf (.i .i64)]]⟩
abbrev o18':OSpec sig:=⟨[.lf (.l .Play)],[[.lf (.l .i64),.lf (.i .i64)]]⟩
abbrev o19':OSpec sig:=⟨[.ag .Config],[]⟩
abbrev o20':OSpec sig:=⟨[.ag .Meeting],[]⟩
abbrev o21':OSpec sig:=⟨[.ag .Meeting,.lf .b],[]⟩
abbrev o22':OSpec sig:=⟨[.lf (.l .i64)],[[.lf (.l .i64),.lf (.i .i64)]]⟩
abbrev o23':OSpec sig:=⟨[.ref 0],[[.own .Claim false]]⟩
abbrev o24':OSpec sig:=⟨[.ag .Meeting,.lf (.l .i64),.lf (.i .i64)],[]⟩
abbrev o25':OSpec sig:=⟨[.ref 1,.ref 1],[[.lf (.l .i64),.lf (.i .i64)],[.own .Member false]]⟩
abbrev o26':OSpec sig:=⟨[.lf .b],[[.lf (.i .i64),.lf (.i .i64)]]⟩
abbrev o27':OSpec sig:=⟨[.lf .b],[[.lf (.i .i64),.lf (.i .i64),.lf (.i .i64),.lf (.l .i64),.lf (.l .Trust),.lf (.l .Claim),.lf (.l .Claim),.lf (.l .Claim),.lf (.l .Message)]]⟩
abbrev o28':OSpec sig:=⟨[.lf (.i .i64)],[[.lf (.i .i64),.lf (.i .i64)]]⟩
abbrev o29':OSpec sig:=⟨[.lf (.i .i64)],[[.lf (.i .i64),.lf (.i .i64),.lf (.i .i64),.lf (.l .i64),.lf (.l .Trust),.lf (.l .Claim),.lf (.l .Claim),.lf (.l .Claim),.lf (.l .Message)]]⟩
abbrev o30':OSpec sig:=⟨[.ag .Claim,.lf .b],[]⟩
abbrev o31':OSpec sig:=⟨[.lf .b],[[.lf (.i .i64)]]⟩
abbrev o32':OSpec sig:=⟨[.lf (.i .i64)],[[.lf (.i .i64)]]⟩
abbrev o33':OSpec sig:=⟨[.lf (.i .i64),.lf (.l .i64)],[]⟩
abbrev o34':OSpec sig:=⟨[.lf (.i .i64)],[[.own .Claim false],[.lf (.i .i64)]]⟩
abbrev o35':OSpec sig:=⟨[.lf (.l .Claim)],[[.lf (.l .i64),.lf (.i .i64)]]⟩
abbrev o36':OSpec sig:=⟨[.ptr 0 0],[[.lf (.l .i64),.lf (.i .i64)]]⟩
abbrev o37':OSpec sig:=⟨[.ag .Config,.lf (.i .i64),.lf (.l .Play)],[[.lf (.l .i64),.lf (.i .i64)]]⟩
abbrev o38':OSpec sig:=⟨[.lf (.i .i64),.ag .Voter,.lf (.i .i64)],[]⟩
abbrev o39':OSpec sig:=⟨[.lf (.i .i64),.lf (.i .i64)],[[.own .Claim false]]⟩
abbrev o40':OSpec sig:=⟨[.lf (.i .i64),.lf (.i .i64)],[[.own .Claim false],[.lf (.i .i64)]]⟩
abbrev o41':OSpec sig:=⟨[.lf (.i .u64)],[[.lf (.i .u64)]]⟩
abbrev o42':OSpec sig:=⟨[.ag .Claim],[[.lf (.l .i64),.lf (.i .i64)]]⟩
def eL{α:Type}(b a:Option α):Prop:=∀r,a=some r->b=some r
theorem cL{f:FuncId}{fn:Func}{vs:List (TL sig)}{hs:THeap sig}(o:OSpec sig)(hf:Tryz.prog.funcs[f]?=some fn){p:Option o.Out}(hok:env.ok f=true:=by kernel_rfl)(hb:fn.body=some (qe1 fn):=by kernel_rfl)(hn0:(decide (vs.length<=fn.ntmps)&&(q7j Tryz.prog fn (qe1 fn)).isNone&&(env.seek f).isNone&&(env.lib f).isNone)=true:=by kernel_rfl)(h:te tn ⟨f,fn,hs.length⟩ o 100000 (qe1 fn) [] ⟨bindT 0 vs,hs⟩=p:=by kernel_rfl):eL (callC tn f vs hs o) p:=y4d (T:=tn) sigOk 100000 hok hf hb hn0 h
theorem gL{F:Fx}(o:OSpec sig)(b:Code){c:Code}{K:List Fr}{s:TSt sig}{p:Option o.Out}(hc:c=.loop b:=by kernel_rfl)(h:te tn F o 100000 b (.loop b s.heap.length::K) s=p:=by kernel_rfl):eL (goC tn F o c K s) p:=qwz (T:=tn) sigOk 100000 hc h
end Go.Proofs.YtdmfjabikomgiaaGreat
