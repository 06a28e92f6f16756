/- The seat's program for the machines. -/
import Derived.Test.YtklhcnnpgkkjcaaGreatDoorTRAn
import Derived.Test.YtklhcnnpgkkjcaaGreatDoorMachT
import Derived.Test.YtklhcnnpgkkjcaaGreatDoorChecked
namespace Go.Proofs.YtklhcnnpgkkjcaaGreatDoor
open Go Go.Ab
def look1{α:Type}(d:α):List (Nat×α)->Nat->α|[],_=>d|(k,v)::r,t=>if k=t then v else look1 d r t
def unR:List Nat->List Nat|[]=>[]|k::r=>if k<1000 then k::unR r else List.range' (k%1000) (k/1000)++unR r
def an:An:={flag:=fun f t=>if(unR (look1 [] ych f)).contains t then .keep else .view,clear:=fun f i=>unR ((look1 [] y9x f).getD i []),mode:=fun f=>look1 0 (look1 [] ycu f),order:=fun f i=>(look1 [] (look1 [] y98 f) i).map unR,own:=fun f=>anOwn.contains f}
def lastF:Nat:=319
def badF:List Nat:=[2,42,43,44,71,72,73,95,116,117,118,119,120,121,122,123,124,125,126,143,146,163,164,165,166,167,172,173,174,183,184,185,186,187,188,189,190,208,213,215,216,217,218,219,220,221,222,223,224,225,226,230,231,235,237,238,239,240,241,242,243,244,245,246,247,248,249,256,257,258,259,260,261,266,273,274,275,276,279,280,281,282,283,284,285,286,287,288,289,290,291,292,293,294,295,296,297,298,299,300,301,302,303,304,305,306,307,308,309,310,311,312,313,314,315,316,317,318,319]
def okF(h:Nat):Bool:=decide (2<=h/\h<=lastF)&&!badF.contains h
noncomputable def y3u:List (Nat×Option (List AV->Heap->Option (AV×Heap))):=[(21,some (q6u 44)),(94,some (q6f 95)),(133,some ya0),(134,some q9b),(156,some q47),(175,some q9a),(177,some qij),(181,some qhv),(200,some (q93 7)),(214,some q91),(251,some (q8n 2)),(264,some (qdi 205)),(265,some (q6w 2))]
noncomputable def env:Env0:={P:=Tryz.prog,glob:=fun _=>none,an:=an,ok:=okF,lib:=look1 none y3u,seek:=fun f=>if List.contains [211] f then some (127,setOrder)else none}
structure Trust where
 Threshold:Int
 Nodes:List (Int)Inner:List (Trust)
structure Claim where
 Topic:Int
 Value:Int
structure Tape where l:List (Int)at_:Int
structure Member where
 Declared:Bool
 Trust:Trust
structure Message where
 Node:Int
 Seq:Int
 Trust:Trust
 Votes:List (Claim)Accepts:List (Claim)
structure Config where Members:List (Member)
structure Play where
 Kind:Int
 From:Int
 To:Int
 Claim:Claim
 Trust:Trust
 Message:Message
structure Voter where
 Node:Int
 Seq:Int
 Trust:Trust
 Votes:List (Claim)Accepts:List (Claim)Confirms:List (Claim)Heard:List (Message)
structure Meeting where
 Voters:List (Voter)Stopped:Int
 Ill:Int
abbrev LI:=List Int
abbrev LT:=List Trust
abbrev LC:=List Claim
abbrev LM:=List Message
abbrev LB:=List Member
abbrev LV:=List Voter
abbrev LP:=List Play
abbrev LU:=List UInt8
inductive TC where|i64|l_i64|b|Trust|l_Trust|Claim|l_Claim|s|Tape|Member|l_Member|Message|l_Message|Config|Play|Voter|l_Voter|Meeting deriving DecidableEq
def Ty:TC->Type|.i64=>Int|.l_i64=>List (Int)|.b=>Bool|.Trust=>Trust|.l_Trust=>List (Trust)|.Claim=>Claim|.l_Claim=>List (Claim)|.s=>LU|.Tape=>Tape|.Member=>Member|.l_Member=>List (Member)|.Message=>Message|.l_Message=>List (Message)|.Config=>Config|.Play=>Play|.Voter=>Voter|.l_Voter=>List (Voter)|.Meeting=>Meeting
abbrev Lv:=Leaf TC Ty
def asL(c:TC):Lv->Option (List (Ty c))|.l c' xs=>if h:c'=c then some (h▸xs)else none|_=>none
theorem q2n{c:TC}{x:Lv}{xs:List (Ty c)}(h:asL c x=some xs):x=.l c xs:=by cases x with
 |l c' ys=>
  simp only[asL]at h;split at h;·rename_i hc;subst hc;cases h;rfl
  .cases h|_=>cases h
def q73(x:Int):D:=.v (.int .i64 x)
theorem qaq(x y:Int)(h:q73 x=q73 y):x=y:=q21 h
def qsq(x:Int):List Lv:=[.i .i64 x]
def qfc:List Lv->Option (Int)|[.i .i64 x]=>some x|_=>none
theorem ycc(cs:List Lv)(x:Int)(h:qfc cs=some x):qsq x=cs:=by
 unfold qfc at h;split at h;·cases h;rfl
 .cases h
def qnx(x:List (Int)):D:=.list (x.map q73)
theorem y1i(x y:List (Int))(h:qnx x=qnx y):x=y:=q0y qaq h
def qmg(x:List (Int)):List Lv:=[.l .i64 x]
def qg6:List Lv->Option (List (Int))|[x]=>asL .i64 x|_=>none
theorem y6q:∀(cs:List Lv)(x:List (Int)),qg6 cs=some x->qmg x=cs|[y],x,h=>by rw[q2n (c:=.i64) (x:=y) (xs:=x) h];rfl|[],x,h=>by have h':(none:Option (List (Int)))=some x:=h;cases h'|_::_::_,x,h=>by have h':(none:Option (List (Int)))=some x:=h;cases h'
def enc_b(x:Bool):D:=.v (.bool x)
theorem inj_b(x y:Bool)(h:enc_b x=enc_b y):x=y:=qyu h
def y2w(x:Bool):List Lv:=[.b x]
def qn5:List Lv->Option (Bool)|[.b x]=>some x|_=>none
theorem of_b(cs:List Lv)(x:Bool)(h:qn5 cs=some x):y2w x=cs:=by
 unfold qn5 at h;split at h;·cases h;rfl
 .cases h
mutual
def q2p : Trust -> D
 | ⟨a0, a1, a2⟩ => .agg [.v (.int .i64 a0), .list ((a1).map q73), .list (q49 a2)]
def q49 : LT -> List D
 | [] => []
 | x :: r => q2p x :: q49 r
end
theorem qhh:∀l:LT,q49 l=l.map q2p|[]=>rfl|x::r=>by simp only[q49,qhh r,List.map_cons]
mutual
theorem q5s : ∀ x y : Trust, q2p x = q2p y -> x = y
 | ⟨a0, a1, a2⟩, ⟨b0, b1, b2⟩, h => by
  simp only [q2p, D.agg.injEq, List.cons.injEq, and_true] at h;obtain ⟨h0, h1, h2⟩ := h;have e0 : a0 = b0 := q21 h0;have e1 : a1 = b1 := q0y qaq h1;have e2 : a2 = b2 := qpk _ _ (D.list.inj h2);rw [e0, e1, e2]
theorem qpk : ∀ x y : LT, q49 x = q49 y -> x = y
 | [], [], _ => rfl
 | [], _ :: _, h => by simp [q49] at h
 | _ :: _, [], h => by simp [q49] at h
 | x :: r, y :: r', h => by
  simp only [q49, List.cons.injEq] at h;rw [q5s x y h.1, qpk r r' h.2]
end
def qeb(x:Trust):List Lv:=[.i .i64 x.Threshold,.l .i64 x.Nodes,.l .Trust x.Inner]
def qap:List Lv->Option Trust
 |[.i .i64 a0,l1,l2]=>match asL .i64 l1,asL .Trust l2 with|some m1,some m2=>some (Trust.mk a0 m1 m2)|_,_=>none
 |_=>none
theorem y6p(cs:List Lv)(x:Trust)(h:qap cs=some x):qeb x=cs:=by
 unfold qap at h;split at h
 .split at h;·rename_i m1 m2 h1 h2;cases q2n h1;cases q2n h2;cases h;rfl
  .cases h
 .cases h
def qec(x:List (Trust)):D:=.list (x.map q2p)
theorem qw6(x y:List (Trust))(h:qec x=qec y):x=y:=q0y q5s h
def qgl(x:List (Trust)):List Lv:=[.l .Trust x]
def qcw:List Lv->Option (List (Trust))|[x]=>asL .Trust x|_=>none
theorem qzx:∀(cs:List Lv)(x:List (Trust)),qcw cs=some x->qgl x=cs|[y],x,h=>by rw[q2n (c:=.Trust) (x:=y) (xs:=x) h];rfl|[],x,h=>by have h':(none:Option (List (Trust)))=some x:=h;cases h'|_::_::_,x,h=>by have h':(none:Option (List (Trust)))=some x:=h;cases h'
def q0m(x:Claim):D:=.agg [.v (.int .i64 (x.Topic)),.v (.int .i64 (x.Value))]
theorem q4j:∀x y:Claim,q0m x=q0m y->x=y|⟨a0,a1⟩,⟨b0,b1⟩,h=>by simp only[q0m,D.agg.injEq,List.cons.injEq,and_true]at h;obtain⟨h0,h1⟩:=h;have e0:a0=b0:=q21 h0;have e1:a1=b1:=q21 h1;rw[e0,e1]
def qm2(x:Claim):List Lv:=[.i .i64 x.Topic,.i .i64 x.Value]
def q9s:List Lv->Option Claim|[.i .i64 a0,.i .i64 a1]=>some (Claim.mk a0 a1)|_=>none
theorem y6f(cs:List Lv)(x:Claim)(h:q9s cs=some x):qm2 x=cs:=by
 unfold q9s at h;split at h;·cases h;rfl
 .cases h
def qef(x:List (Claim)):D:=.list (x.map q0m)
theorem qvv(x y:List (Claim))(h:qef x=qef y):x=y:=q0y q4j h
def qgu(x:List (Claim)):List Lv:=[.l .Claim x]
def qbg:List Lv->Option (List (Claim))|[x]=>asL .Claim x|_=>none
theorem y01:∀(cs:List Lv)(x:List (Claim)),qbg cs=some x->qgu x=cs|[y],x,h=>by rw[q2n (c:=.Claim) (x:=y) (xs:=x) h];rfl|[],x,h=>by have h':(none:Option (List (Claim)))=some x:=h;cases h'|_::_::_,x,h=>by have h':(none:Option (List (Claim)))=some x:=h;cases h'
def enc_s(x:LU):D:=.v (.string ⟨⟨x⟩⟩)
theorem inj_s(x y:LU)(h:enc_s x=enc_s y):x=y:=y9n h
def y1u(x:LU):List Lv:=[.s x]
def qm0:List Lv->Option (LU)|[.s x]=>some x|_=>none
theorem of_s(cs:List Lv)(x:LU)(h:qm0 cs=some x):y1u x=cs:=by
 unfold qm0 at h;split at h;·cases h;rfl
 .cases h
def qld(x:Tape):D:=.agg [.list (((x.l)).map q73),.v (.int .i64 (x.at_))]
theorem y71:∀x y:Tape,qld x=qld y->x=y|⟨a0,a1⟩,⟨b0,b1⟩,h=>by simp only[qld,D.agg.injEq,List.cons.injEq,and_true]at h;obtain⟨h0,h1⟩:=h;have e0:a0=b0:=q0y qaq h0;have e1:a1=b1:=q21 h1;rw[e0,e1]
def qpl(x:Tape):List Lv:=[.l .i64 x.l,.i .i64 x.at_]
def qbq:List Lv->Option Tape
 |[l0,.i .i64 a1]=>match asL .i64 l0 with|some m0=>some (Tape.mk m0 a1)|_=>none
 |_=>none
theorem ya6(cs:List Lv)(x:Tape)(h:qbq cs=some x):qpl x=cs:=by
 unfold qbq at h;split at h
 .split at h;·rename_i m0 h0;cases q2n h0;cases h;rfl
  .cases h
 .cases h
def q6s(x:Member):D:=.agg [.v (.bool (x.Declared)),.v (.int .i64 (x.Trust.Threshold)),.list (((x.Trust.Nodes)).map q73),.list (((x.Trust.Inner)).map q2p)]
theorem qig:∀x y:Member,q6s x=q6s y->x=y|⟨a0,⟨a1,a2,a3⟩⟩,⟨b0,⟨b1,b2,b3⟩⟩,h=>by simp only[q6s,D.agg.injEq,List.cons.injEq,and_true]at h;obtain⟨h0,h1,h2,h3⟩:=h;have e0:a0=b0:=qyu h0;have e1:a1=b1:=q21 h1;have e2:a2=b2:=q0y qaq h2;have e3:a3=b3:=q0y q5s h3;rw[e0,e1,e2,e3]
def qk5(x:Member):List Lv:=[.b x.Declared,.i .i64 x.Trust.Threshold,.l .i64 x.Trust.Nodes,.l .Trust x.Trust.Inner]
def q8f:List Lv->Option Member
 |[.b a0,.i .i64 a1,l2,l3]=>match asL .i64 l2,asL .Trust l3 with|some m2,some m3=>some (Member.mk a0 (Trust.mk a1 m2 m3))|_,_=>none
 |_=>none
theorem y49(cs:List Lv)(x:Member)(h:q8f cs=some x):qk5 x=cs:=by
 unfold q8f at h;split at h
 .split at h;·rename_i m2 m3 h2 h3;cases q2n h2;cases q2n h3;cases h;rfl
  .cases h
 .cases h
def qco(x:List (Member)):D:=.list (x.map q6s)
theorem qul(x y:List (Member))(h:qco x=qco y):x=y:=q0y qig h
def qe4(x:List (Member)):List Lv:=[.l .Member x]
def qay:List Lv->Option (List (Member))|[x]=>asL .Member x|_=>none
theorem qwe:∀(cs:List Lv)(x:List (Member)),qay cs=some x->qe4 x=cs|[y],x,h=>by rw[q2n (c:=.Member) (x:=y) (xs:=x) h];rfl|[],x,h=>by have h':(none:Option (List (Member)))=some x:=h;cases h'|_::_::_,x,h=>by have h':(none:Option (List (Member)))=some x:=h;cases h'
def q1p(x:Message):D:=.agg [.v (.int .i64 (x.Node)),.v (.int .i64 (x.Seq)),.v (.int .i64 (x.Trust.Threshold)),.list (((x.Trust.Nodes)).map q73),.list (((x.Trust.Inner)).map q2p),.list (((x.Votes)).map q0m),.list (((x.Accepts)).map q0m)]
theorem qeu:∀x y:Message,q1p x=q1p y->x=y|⟨a0,a1,⟨a2,a3,a4⟩,a5,a6⟩,⟨b0,b1,⟨b2,b3,b4⟩,b5,b6⟩,h=>by simp only[q1p,D.agg.injEq,List.cons.injEq,and_true]at h;obtain⟨h0,h1,h2,h3,h4,h5,h6⟩:=h;have e0:a0=b0:=q21 h0;have e1:a1=b1:=q21 h1;have e2:a2=b2:=q21 h2;have e3:a3=b3:=q0y qaq h3;have e4:a4=b4:=q0y q5s h4;have e5:a5=b5:=q0y q4j h5;have e6:a6=b6:=q0y q4j h6;rw[e0,e1,e2,e3,e4,e5,e6]
def qhr(x:Message):List Lv:=[.i .i64 x.Node,.i .i64 x.Seq,.i .i64 x.Trust.Threshold,.l .i64 x.Trust.Nodes,.l .Trust x.Trust.Inner,.l .Claim x.Votes,.l .Claim x.Accepts]
def q7h:List Lv->Option Message
 |[.i .i64 a0,.i .i64 a1,.i .i64 a2,l3,l4,l5,l6]=>match asL .i64 l3,asL .Trust l4,asL .Claim l5,asL .Claim l6 with|some m3,some m4,some m5,some m6=>some (Message.mk a0 a1 (Trust.mk a2 m3 m4) m5 m6)|_,_,_,_=>none
 |_=>none
theorem y16(cs:List Lv)(x:Message)(h:q7h cs=some x):qhr x=cs:=by
 unfold q7h at h;split at h
 .split at h;·rename_i m3 m4 m5 m6 h3 h4 h5 h6;cases q2n h3;cases q2n h4;cases q2n h5;cases q2n h6;cases h;rfl
  .cases h
 .cases h
def q9v(x:List (Message)):D:=.list (x.map q1p)
theorem qqz(x y:List (Message))(h:q9v x=q9v y):x=y:=q0y qeu h
def qcm(x:List (Message)):List Lv:=[.l .Message x]
def q98:List Lv->Option (List (Message))|[x]=>asL .Message x|_=>none
theorem qsz:∀(cs:List Lv)(x:List (Message)),q98 cs=some x->qcm x=cs|[y],x,h=>by rw[q2n (c:=.Message) (x:=y) (xs:=x) h];rfl|[],x,h=>by have h':(none:Option (List (Message)))=some x:=h;cases h'|_::_::_,x,h=>by have h':(none:Option (List (Message)))=some x:=h;cases h'
def qd3(x:Config):D:=.agg [.list (((x.Members)).map q6s)]
theorem y06:∀x y:Config,qd3 x=qd3 y->x=y|⟨a0⟩,⟨b0⟩,h=>by simp only[qd3,D.agg.injEq,List.cons.injEq,and_true]at h;have h0:=h;have e0:a0=b0:=q0y qig h0;rw[e0]
def qjz(x:Config):List Lv:=[.l .Member x.Members]
def q8b:List Lv->Option Config
 |[l0]=>match asL .Member l0 with|some m0=>some (Config.mk m0)|_=>none
 |_=>none
theorem y1x(cs:List Lv)(x:Config)(h:q8b cs=some x):qjz x=cs:=by
 unfold q8b at h;split at h
 .split at h;·rename_i m0 h0;cases q2n h0;cases h;rfl
  .cases h
 .cases h
def qlb(x:Play):D:=.agg [.v (.int .i64 (x.Kind)),.v (.int .i64 (x.From)),.v (.int .i64 (x.To)),.v (.int .i64 (x.Claim.Topic)),.v (.int .i64 (x.Claim.Value)),.v (.int .i64 (x.Trust.Threshold)),.list (((x.Trust.Nodes)).map q73),.list (((x.Trust.Inner)).map q2p),.v (.int .i64 (x.Message.Node)),.v (.int .i64 (x.Message.Seq)),.v (.int .i64 (x.Message.Trust.Threshold)),.list (((x.Message.Trust.Nodes)).map q73),.list (((x.Message.Trust.Inner)).map q2p),.list (((x.Message.Votes)).map q0m),.list (((x.Message.Accepts)).map q0m)]
theorem y6w:∀x y:Play,qlb x=qlb y->x=y|⟨a0,a1,a2,⟨a3,a4⟩,⟨a5,a6,a7⟩,⟨a8,a9,⟨a10,a11,a12⟩,a13,a14⟩⟩,⟨b0,b1,b2,⟨b3,b4⟩,⟨b5,b6,b7⟩,⟨b8,b9,⟨b10,b11,b12⟩,b13,b14⟩⟩,h=>by simp only[qlb,D.agg.injEq,List.cons.injEq,and_true]at h;obtain⟨h0,h1,h2,h3,h4,h5,h6,h7,h8,h9,h10,h11,h12,h13,h14⟩:=h;have e0:a0=b0:=q21 h0;have e1:a1=b1:=q21 h1;have e2:a2=b2:=q21 h2;have e3:a3=b3:=q21 h3;have e4:a4=b4:=q21 h4;have e5:a5=b5:=q21 h5;have e6:a6=b6:=q0y qaq h6;have e7:a7=b7:=q0y q5s h7;have e8:a8=b8:=q21 h8;have e9:a9=b9:=q21 h9;have e10:a10=b10:=q21 h10;have e11:a11=b11:=q0y qaq h11;have e12:a12=b12:=q0y q5s h12;have e13:a13=b13:=q0y q4j h13;have e14:a14=b14:=q0y q4j h14;rw[e0,e1,e2,e3,e4,e5,e6,e7,e8,e9,e10,e11,e12,e13,e14]
def qpq(x:Play):List Lv:=[.i .i64 x.Kind,.i .i64 x.From,.i .i64 x.To,.i .i64 x.Claim.Topic,.i .i64 x.Claim.Value,.i .i64 x.Trust.Threshold,.l .i64 x.Trust.Nodes,.l .Trust x.Trust.Inner,.i .i64 x.Message.Node,.i .i64 x.Message.Seq,.i .i64 x.Message.Trust.Threshold,.l .i64 x.Message.Trust.Nodes,.l .Trust x.Message.Trust.Inner,.l .Claim x.Message.Votes,.l .Claim x.Message.Accepts]
def qbj:List Lv->Option Play
 |[.i .i64 a0,.i .i64 a1,.i .i64 a2,.i .i64 a3,.i .i64 a4,.i .i64 a5,l6,l7,.i .i64 a8,.i .i64 a9,.i .i64 a10,l11,l12,l13,l14]=>match asL .i64 l6,asL .Trust l7,asL .i64 l11,asL .Trust l12,asL .Claim l13,asL .Claim l14 with|some m6,some m7,some m11,some m12,some m13,some m14=>some (Play.mk a0 a1 a2 (Claim.mk a3 a4) (Trust.mk a5 m6 m7) (Message.mk a8 a9 (Trust.mk a10 m11 m12) m13 m14))|_,_,_,_,_,_=>none
 |_=>none
theorem y9t(cs:List Lv)(x:Play)(h:qbj cs=some x):qpq x=cs:=by
 unfold qbj at h;split at h
 .split at h;·rename_i m6 m7 m11 m12 m13 m14 h6 h7 h11 h12 h13 h14;cases q2n h6;cases q2n h7;cases q2n h11;cases q2n h12;cases q2n h13;cases q2n h14;cases h;rfl
  .cases h
 .cases h
def q95(x:Voter):D:=.agg [.v (.int .i64 (x.Node)),.v (.int .i64 (x.Seq)),.v (.int .i64 (x.Trust.Threshold)),.list (((x.Trust.Nodes)).map q73),.list (((x.Trust.Inner)).map q2p),.list (((x.Votes)).map q0m),.list (((x.Accepts)).map q0m),.list (((x.Confirms)).map q0m),.list (((x.Heard)).map q1p)]
theorem qlq:∀x y:Voter,q95 x=q95 y->x=y|⟨a0,a1,⟨a2,a3,a4⟩,a5,a6,a7,a8⟩,⟨b0,b1,⟨b2,b3,b4⟩,b5,b6,b7,b8⟩,h=>by simp only[q95,D.agg.injEq,List.cons.injEq,and_true]at h;obtain⟨h0,h1,h2,h3,h4,h5,h6,h7,h8⟩:=h;have e0:a0=b0:=q21 h0;have e1:a1=b1:=q21 h1;have e2:a2=b2:=q21 h2;have e3:a3=b3:=q0y qaq h3;have e4:a4=b4:=q0y q5s h4;have e5:a5=b5:=q0y q4j h5;have e6:a6=b6:=q0y q4j h6;have e7:a7=b7:=q0y q4j h7;have e8:a8=b8:=q0y qeu h8;rw[e0,e1,e2,e3,e4,e5,e6,e7,e8]
def qlx(x:Voter):List Lv:=[.i .i64 x.Node,.i .i64 x.Seq,.i .i64 x.Trust.Threshold,.l .i64 x.Trust.Nodes,.l .Trust x.Trust.Inner,.l .Claim x.Votes,.l .Claim x.Accepts,.l .Claim x.Confirms,.l .Message x.Heard]
def q9x:List Lv->Option Voter
 |[.i .i64 a0,.i .i64 a1,.i .i64 a2,l3,l4,l5,l6,l7,l8]=>match asL .i64 l3,asL .Trust l4,asL .Claim l5,asL .Claim l6,asL .Claim l7,asL .Message l8 with|some m3,some m4,some m5,some m6,some m7,some m8=>some (Voter.mk a0 a1 (Trust.mk a2 m3 m4) m5 m6 m7 m8)|_,_,_,_,_,_=>none
 |_=>none
theorem y6l(cs:List Lv)(x:Voter)(h:q9x cs=some x):qlx x=cs:=by
 unfold q9x at h;split at h
 .split at h;·rename_i m3 m4 m5 m6 m7 m8 h3 h4 h5 h6 h7 h8;cases q2n h3;cases q2n h4;cases q2n h5;cases q2n h6;cases q2n h7;cases q2n h8;cases h;rfl
  .cases h
 .cases h
def qf9(x:List (Voter)):D:=.list (x.map q95)
theorem qw2(x y:List (Voter))(h:qf9 x=qf9 y):x=y:=q0y qlq h
def qg8(x:List (Voter)):List Lv:=[.l .Voter x]
def qbc:List Lv->Option (List (Voter))|[x]=>asL .Voter x|_=>none
theorem qzq:∀(cs:List Lv)(x:List (Voter)),qbc cs=some x->qg8 x=cs|[y],x,h=>by rw[q2n (c:=.Voter) (x:=y) (xs:=x) h];rfl|[],x,h=>by have h':(none:Option (List (Voter)))=some x:=h;cases h'|_::_::_,x,h=>by have h':(none:Option (List (Voter)))=some x:=h;cases h'
def qar(x:Meeting):D:=.agg [.list (((x.Voters)).map q95),.v (.int .i64 (x.Stopped)),.v (.int .i64 (x.Ill))]
theorem qvc:∀x y:Meeting,qar x=qar y->x=y|⟨a0,a1,a2⟩,⟨b0,b1,b2⟩,h=>by simp only[qar,D.agg.injEq,List.cons.injEq,and_true]at h;obtain⟨h0,h1,h2⟩:=h;have e0:a0=b0:=q0y qlq h0;have e1:a1=b1:=q21 h1;have e2:a2=b2:=q21 h2;rw[e0,e1,e2]
def qh4(x:Meeting):List Lv:=[.l .Voter x.Voters,.i .i64 x.Stopped,.i .i64 x.Ill]
def q71:List Lv->Option Meeting
 |[l0,.i .i64 a1,.i .i64 a2]=>match asL .Voter l0 with|some m0=>some (Meeting.mk m0 a1 a2)|_=>none
 |_=>none
theorem y00(cs:List Lv)(x:Meeting)(h:q71 cs=some x):qh4 x=cs:=by
 unfold q71 at h;split at h
 .split at h;·rename_i m0 h0;cases q2n h0;cases h;rfl
  .cases h
 .cases h
def encT:(c:TC)->Ty c->D|.i64=>q73|.l_i64=>qnx|.b=>enc_b|.Trust=>q2p|.l_Trust=>qec|.Claim=>q0m|.l_Claim=>qef|.s=>enc_s|.Tape=>qld|.Member=>q6s|.l_Member=>qco|.Message=>q1p|.l_Message=>q9v|.Config=>qd3|.Play=>qlb|.Voter=>q95|.l_Voter=>qf9|.Meeting=>qar
def ycz:(c:TC)->Ty c->List Lv|.i64=>qsq|.l_i64=>qmg|.b=>y2w|.Trust=>qeb|.l_Trust=>qgl|.Claim=>qm2|.l_Claim=>qgu|.s=>y1u|.Tape=>qpl|.Member=>qk5|.l_Member=>qe4|.Message=>qhr|.l_Message=>qcm|.Config=>qjz|.Play=>qpq|.Voter=>qlx|.l_Voter=>qg8|.Meeting=>qh4
def y6y:(c:TC)->List Lv->Option (Ty c)|.i64=>qfc|.l_i64=>qg6|.b=>qn5|.Trust=>qap|.l_Trust=>qcw|.Claim=>q9s|.l_Claim=>qbg|.s=>qm0|.Tape=>qbq|.Member=>q8f|.l_Member=>qay|.Message=>q7h|.l_Message=>q98|.Config=>q8b|.Play=>qbj|.Voter=>q9x|.l_Voter=>qbc|.Meeting=>q71
def aggF:TC->Bool|.i64=>false|.l_i64=>false|.b=>false|.Trust=>true|.l_Trust=>false|.Claim=>true|.l_Claim=>false|.s=>false|.Tape=>true|.Member=>true|.l_Member=>false|.Message=>true|.l_Message=>false|.Config=>true|.Play=>true|.Voter=>true|.l_Voter=>false|.Meeting=>true
def sizeF:TC->Nat|.i64=>1|.l_i64=>1|.b=>1|.Trust=>3|.l_Trust=>1|.Claim=>2|.l_Claim=>1|.s=>1|.Tape=>2|.Member=>4|.l_Member=>1|.Message=>7|.l_Message=>1|.Config=>1|.Play=>15|.Voter=>9|.l_Voter=>1|.Meeting=>3
def y1h:List (TypeId×TC×TypeId):=[(22,.i64,3),(25,.Member,52),(46,.Trust,48),(74,.Voter,92),(77,.i64,30),(80,.Claim,73),(85,.Play,84),(90,.Message,82),(102,.s,9),(267,.l_Claim,80)]
def y5n:List (TypeId×List (Option TC)):=[(22,[some .i64]),(25,[some .Member]),(26,[some .Member]),(27,[some .Member]),(43,[some .i64,none]),(44,[some .i64,none]),(46,[some .Trust]),(47,[none,some .i64,some .Trust]),(48,[none,some .i64,some .Trust]),(51,[none,none,some .i64,some .Trust]),(52,[none,none,some .i64,some .Trust]),(74,[some .Voter]),(75,[some .Voter,none,none]),(76,[some .Voter,none,none]),(77,[some .i64]),(80,[some .Claim]),(81,[none,none,none,some .i64,some .Trust,some .Claim,some .Claim]),(82,[none,none,none,some .i64,some .Trust,some .Claim,some .Claim]),(83,[none,none,none,none,none,none,some .i64,some .Trust,none,none,none,some .i64,some .Trust,some .Claim,some .Claim]),(84,[none,none,none,none,none,none,some .i64,some .Trust,none,none,none,some .i64,some .Trust,some .Claim,some .Claim]),(85,[some .Play]),(90,[some .Message]),(91,[none,none,none,some .i64,some .Trust,some .Claim,some .Claim,some .Claim,some .Message]),(92,[none,none,none,some .i64,some .Trust,some .Claim,some .Claim,some .Claim,some .Message]),(102,[some .s]),(226,[none]),(267,[some .l_Claim])]
def elemF:List (TypeId×TC×TypeId)->TypeId->Option TC|[],_=>none|(u,c,_)::r,t=>if u=t then some c else elemF r t
def sig:Sig:={TC:=TC,Ty:=Ty,enc:=encT,cells:=ycz,ofCells:=y6y,agg:=aggF,size:=sizeF,elem:=elemF y1h,lists:=look1 [] y5n}
theorem qxs(P:Program):∀(tab:List (TypeId×TC×TypeId)),(tab.all fun p=>q1s P p.1==some p.2.2&&tyAgg P p.2.2==some (aggF p.2.1)&&q0f P p.2.2==some (sizeF p.2.1))=true->∀t c,elemF tab t=some c->∃e,q1s P t=some e/\tyAgg P e=some (aggF c)/\q0f P e=some (sizeF c)
 |[],_,_,_,h=>by cases h|(u,d,e)::r,ha,t,c,h=>by
  simp only[List.all_cons,aT,beq_iff_eq]at ha;simp only[elemF]at h;split at h;·rename_i hu;cases h;subst hu;exact⟨e,ha.1.1.1,ha.1.1.2,ha.1.2⟩
  .exact qxs P r ha.2 t c h
theorem qwq(x:Trust):sig.enc .Trust x=(packT (S:=sig) true (qeb x)).toD:=by cases x;show q2p _=_;simp only[q2p,qhh];rfl
theorem sigOk:sig.Ok Tryz.prog where
 enc_eq:=fun c x=>by cases c<;>first|rfl|exact qwq x
 of_eq:=fun c cs x h=>by
  have:sig.cells c x=cs:=by
   cases c;·exact ycc cs x h
   .exact y6q cs x h
   .exact of_b cs x h
   .exact y6p cs x h
   .exact qzx cs x h
   .exact y6f cs x h
   .exact y01 cs x h
   .exact of_s cs x h
   .exact ya6 cs x h
   .exact y49 cs x h
   .exact qwe cs x h
   .exact y16 cs x h
   .exact qsz cs x h
   .exact y1x cs x h
   .exact y9t cs x h
   .exact y6l cs x h
   .exact qzq cs x h
   .exact y00 cs x h
  rw[this]
 inj:=fun c x y h=>by
  cases c;·exact qaq x y h
  .exact y1i x y h
  .exact inj_b x y h
  .exact q5s x y h
  .exact qw6 x y h
  .exact q4j x y h
  .exact qvv x y h
  .exact inj_s x y h
  .exact y71 x y h
  .exact qig x y h
  .exact qul x y h
  .exact qeu x y h
  .exact qqz x y h
  .exact y06 x y h
  .exact y6w x y h
  .exact qlq x y h
  .exact qw2 x y h
  .exact qvc x y h
 len:=fun c x=>by cases c<;>rfl
 pos:=fun c=>by cases c<;>decide
 one:=fun c h=>by cases c<;>first|rfl|cases h
 elem:=qxs Tryz.prog y1h (by kernel_rfl)
def yat:List (Nat×List (OT sig)):=[(3,[.lf .b]),(4,[.ptr 0 0]),(5,[.ref 1,.ref 1]),(6,[.lf (.l .i64)]),(7,[.ag .Config,.lf (.i .i64)]),(16,[.lf (.i .i64)]),(8,[.lf (.i .i64)]),(20,[.lf (.i .i64)]),(22,[.fn 44 [(0,0)]]),(21,[.lf (.l .i64)]),(9,[.lf .b,.lf (.i .i64)]),(10,[.lf (.i .i64)]),(11,[.lf .b,.lf (.i .i64)]),(12,[.lf (.i .i64)]),(13,[.lf (.i .i64)]),(14,[.lf (.i .i64),.lf (.i .i64)]),(15,[.lf .b]),(25,[.lf (.i .i64)]),(26,[.lf .b]),(28,[.lf .b]),(29,[.lf (.i .i64),.lf (.l .i64)]),(30,[.lf (.i .i64)]),(32,[.lf (.i .i64),.lf .b,.lf (.i .i64)]),(33,[.ag .Config,.lf (.i .i64),.lf (.i .i64)]),(34,[.lf (.l .i64),.lf (.i .i64)]),(35,[.ag .Meeting,.lf (.l .i64),.lf (.i .i64)]),(36,[.ag .Meeting,.lf (.i .i64)]),(37,[.lf .b]),(38,[.lf .b]),(45,[.lf (.i .i64)]),(47,[.ag .Config]),(46,[.lf .b,.lf (.i .i64)]),(49,[.lf .b]),(50,[.lf (.i .i64)]),(52,[.lf (.l .i64),.lf (.i .i64)]),(53,[.lf .b,.lf (.i .i64)]),(54,[.lf (.i .i64)]),(56,[.lf .s]),(55,[.lf (.l .s)]),(59,[.lf (.l .i64)]),(58,[.lf (.l .i64)]),(60,[.ag .Meeting,.lf (.i .i64)]),(63,[.lf .b]),(74,[.lf (.i .i64),.lf (.i .i64)]),(78,[.lf .b]),(81,[.lf (.i .i64)]),(83,[.lf (.i .i64)]),(82,[.lf (.l .i64)]),(85,[.lf (.i .i64)]),(87,[.lf .s]),(86,[.lf (.l .s)]),(92,[.ref 0]),(91,[.ref 0]),(94,[]),(131,[.lf (.i .i64)]),(136,[.lf .b]),(133,[.lf (.l .s)]),(134,[.lf (.i .i64)]),(142,[.lf (.i .i64)]),(17,[.ag .Trust]),(18,[.ag .Trust]),(19,[.ag .Trust]),(39,[.ag .Trust]),(40,[.lf (.i .i64)]),(65,[.lf (.i .i64)]),(66,[.lf (.i .i64)]),(67,[.lf (.i .i64)]),(41,[.lf (.i .i64)]),(68,[.lf .b]),(69,[.lf (.i .i64)]),(70,[.lf (.i .i64)]),(112,[.lf (.i .i64)]),(113,[.lf (.i .i64)]),(114,[.lf (.i .i64)]),(96,[.lf .b]),(162,[.lf (.i .i64),.lf (.i .i64)]),(27,[.lf .b]),(48,[.lf .b]),(31,[.lf (.i .i64)]),(51,[.lf (.i .i64),.lf .b]),(79,[.lf (.l .i64)]),(57,[.ag .Member,.lf (.i .i64)]),(89,[.lf .s]),(88,[.lf .s,.lf .b]),(90,[.ag .Trust,.lf (.i .i64),.lf (.i .i64)]),(138,[.lf .s]),(137,[.lf .s,.lf .b]),(139,[]),(140,[.lf (.i .i64),.lf .b]),(141,[.ag .Trust,.lf .b]),(177,[.lf .s]),(176,[.lf .b]),(180,[.lf .b]),(181,[.lf (.i .i64),.undef]),(182,[.lf .b]),(61,[.ag .Meeting,.lf (.i .i64)]),(62,[.ag .Meeting]),(101,[.lf (.i .i64)]),(102,[.lf (.i .i64),.ag .Voter,.lf (.i .i64)]),(103,[.ref 0]),(149,[.lf .b]),(75,[.lf .b]),(150,[.ag .Voter,.lf (.i .i64)]),(152,[.ag .Message]),(151,[.ag .Voter,.lf (.i .i64)]),(108,[.lf .b]),(153,[.ag .Voter,.lf (.i .i64)]),(154,[.lf .b]),(107,[.lf .b]),(191,[.lf .b]),(157,[.lf .b]),(159,[.lf .b]),(194,[.ag .Voter]),(195,[.lf (.l .Claim)]),(196,[.ag .Voter]),(202,[.ag .Message]),(201,[.ag .Message]),(197,[.lf (.i .i64),.lf .b]),(199,[.ref 0]),(200,[.lf (.l .Message)]),(203,[.lf .b]),(204,[.lf .b]),(155,[.lf .b]),(156,[.lf .b]),(206,[.lf (.i .i64)]),(207,[.lf .b]),(148,[.ag .Trust]),(105,[.ref 0]),(227,[.lf (.l .Claim)]),(228,[.ag .Voter]),(229,[.lf .b]),(232,[.lf .b]),(233,[.lf .b]),(234,[.lf (.i .i64)]),(251,[.ref 0]),(250,[.lf (.l .Claim)]),(252,[.ag .Config]),(253,[.ag .Claim,.lf .b]),(262,[.ref 0]),(264,[]),(265,[.lf (.l .Claim)]),(268,[.lf (.l .Claim)]),(64,[.ag .Meeting,.lf .b]),(76,[.ag .Trust]),(77,[.ag .Trust]),(129,[.ag .Trust]),(84,[.lf .b]),(132,[.lf .b,.lf (.i .i64)]),(98,[.lf .b]),(147,[.lf .b]),(99,[.ag .Trust]),(100,[.ag .Voter,.lf (.i .i64)]),(109,[.lf .b]),(160,[.lf (.i .i64)]),(127,[.lf (.i .i64),.lf .b]),(128,[.lf (.i .i64)]),(169,[.lf (.i .i64)]),(209,[.lf (.i .i64)]),(236,[.lf (.i .i64)]),(135,[.lf (.i .i64)]),(175,[.lf (.i .i64)]),(171,[.lf .b,.lf (.i .i64),.lf (.i .i64)]),(210,[.lf (.i .i64)]),(211,[.lf (.i .i64),.lf .b]),(212,[.lf .b]),(130,[.lf .b]),(93,[.lf .b]),(111,[.lf (.i .i64),.lf (.i .i64)]),(23,[.ag .Trust]),(115,[.lf .b]),(161,[.lf .b]),(80,[.lf .b]),(178,[.lf .b]),(179,[.lf (.i .i64)]),(214,[.lf (.i .i64)]),(104,[.ag .Trust]),(198,[.lf (.i .i64)]),(145,[.lf (.i .i64)]),(168,[.lf .b]),(205,[.lf (.i .i64)]),(144,[.lf (.i .i64)]),(192,[.lf .b]),(193,[.lf .b]),(158,[.lf .b]),(267,[.ag .Trust]),(270,[.lf (.i .i64)]),(255,[.lf (.i .i64)]),(269,[.lf .b]),(271,[.lf (.i .i64)]),(277,[.lf .b]),(263,[.lf .b]),(170,[.lf (.i .i64)]),(97,[.lf .b]),(110,[.lf .b]),(24,[.lf (.i .i64)]),(106,[.ag .Message]),(254,[.lf .b]),(278,[.lf (.l .Claim)]),(272,[.lf (.l .Claim)])]
def ya4:List (Nat×List (List (OT sig))):=[(4,[[.lf (.l .i64),.lf (.i .i64)]]),(5,[[.own .Member false]]),(22,[[.lf (.l .i64)]]),(92,[[.own .i64 false]]),(103,[[.own .Voter false]]),(199,[[.own .Message false]]),(105,[[.own .Claim false]]),(251,[[.own .Claim false]])]
noncomputable def tn:TEn:={E:=env,S:=sig,res:=look1 [] yat,news:=look1 [] ya4,outs:=fun f=>if List.contains [200,265] f then some [[.undef]]else none,cut:=fun _ _=>false}
def q06(fn:Func):Code:=match fn.body with|some c=>c|none=>.skip
def q07(fn:Func)(p:List Nat):Code:=qo3 p (q06 fn)
def yb3(fn:Func)(p ms:List Nat):List Fr:=qm7 p (q06 fn) ms []
abbrev o0':OSpec sig:=⟨[.lf (.i .i64)],[]⟩
abbrev o1':OSpec sig:=⟨[.lf .b],[]⟩
abbrev o2':OSpec sig:=⟨[.ag .Trust],[]⟩
abbrev o3':OSpec sig:=⟨[.lf (.l .i64)],[]⟩
abbrev o4':OSpec sig:=⟨[.ag .Trust],[[.lf (.l .i64),.lf (.i .i64)]]⟩
abbrev o5':OSpec sig:=⟨[.lf (.i .i64),.lf (.i .i64)],[]⟩
abbrev o6':OSpec sig:=⟨[.lf (.i .i64)],[[.lf (.l .i64),.lf (.i .i64)]]⟩
abbrev o7':OSpec sig:=⟨[.lf .b,.lf (.i .i64)],[]⟩
abbrev o8':OSpec sig:=⟨[.lf (.i .i64),.lf .b],[]⟩
abbrev o9':OSpec sig:=⟨[.lf (.l .i64)],[[.lf (.l .i64),.lf (.i .i64)]]⟩
abbrev o10':OSpec sig:=⟨[.ag .Config,.lf (.i .i64)],[]⟩
abbrev o11':OSpec sig:=⟨[.lf (.l .i64),.lf (.i .i64)],[]⟩
abbrev o12':OSpec sig:=⟨[.ag .Config],[]⟩
abbrev o13':OSpec sig:=⟨[.lf .b],[[.lf (.i .i64)]]⟩
abbrev o14':OSpec sig:=⟨[.lf (.i .i64)],[[.lf (.i .i64)]]⟩
abbrev o15':OSpec sig:=⟨[.ag .Trust],[[.lf (.l .i64)]]⟩
abbrev o16':OSpec sig:=⟨[.lf (.l .s)],[]⟩
abbrev o17':OSpec sig:=⟨[.ref 0],[[.own .Claim false]]⟩
abbrev o18':OSpec sig:=⟨[.ref 1,.ref 1],[[.lf (.l .i64),.lf (.i .i64)],[.own .Member false]]⟩
abbrev o19':OSpec sig:=⟨[.lf (.i .i64),.lf (.l .i64)],[]⟩
abbrev o20':OSpec sig:=⟨[.lf (.i .i64),.lf .b,.lf (.i .i64)],[]⟩
abbrev o21':OSpec sig:=⟨[.ref 0],[[.own .i64 false]]⟩
abbrev o22':OSpec sig:=⟨[.lf (.i .i64)],[[.own .i64 false]]⟩
abbrev o23':OSpec sig:=⟨[.ptr 0 0],[[.lf (.l .i64),.lf (.i .i64)]]⟩
abbrev o24':OSpec sig:=⟨[.fn 44 [(0,0)]],[[.lf (.l .i64)]]⟩
abbrev o25':OSpec sig:=⟨[.lf .b,.lf (.i .i64),.lf (.i .i64)],[]⟩
abbrev o26':OSpec sig:=⟨[.lf .b],[[.lf (.i .i64),.lf (.l .i64),.lf (.l .Trust)],[.lf (.i .i64),.lf (.l .i64),.lf (.l .Trust)]]⟩
abbrev o27':OSpec sig:=⟨[.lf (.i .i64)],[[.lf (.l .i64)]]⟩
def eL{α:Type}(b a:Option α):Prop:=∀r,a=some r->b=some r
theorem cL{f:FuncId}{fn:Func}{vs:List (TL sig)}{hs:THeap sig}(o:OSpec sig)(hf:Tryz.prog.funcs[f]?=some fn){p:Option o.Out}(hok:env.ok f=true:=by kernel_rfl)(hb:fn.body=some (q06 fn):=by kernel_rfl)(hn0:(decide (vs.length<=fn.ntmps)&&(q8c Tryz.prog fn (q06 fn)).isNone&&(env.seek f).isNone&&(env.lib f).isNone)=true:=by kernel_rfl)(h:te tn ⟨f,fn,hs.length⟩ o 100000 (q06 fn) [] ⟨bindT 0 vs,hs⟩=p:=by kernel_rfl):eL (callC tn f vs hs o) p:=q00 (T:=tn) sigOk 100000 hok hf hb hn0 h
theorem gL{F:Fx}(o:OSpec sig)(b:Code){c:Code}{K:List Fr}{s:TSt sig}{p:Option o.Out}(hc:c=.loop b:=by kernel_rfl)(h:te tn F o 100000 b (.loop b s.heap.length::K) s=p:=by kernel_rfl):eL (goC tn F o c K s) p:=q09 (T:=tn) sigOk 100000 hc h
end Go.Proofs.YtklhcnnpgkkjcaaGreatDoor
