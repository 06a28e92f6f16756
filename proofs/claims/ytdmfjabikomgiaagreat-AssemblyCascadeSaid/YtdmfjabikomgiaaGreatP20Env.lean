/- The seat's program for the machines. -/
import Derived.Test.YtdmfjabikomgiaaGreatP20An
import Derived.Test.YtdmfjabikomgiaaGreatMachT
import Derived.Test.YtdmfjabikomgiaaGreatChecked
namespace Go.Proofs.YtdmfjabikomgiaaGreat
open Go Go.Ab
def look1{α:Type}(d:α):List (Nat×α)->Nat->α|[],_=>d|(k,v)::r,t=>if k=t then v else look1 d r t
def unR:List Nat->List Nat|[]=>[]|k::r=>if k<1000 then k::unR r else List.range' (k%1000) (k/1000)++unR r
def an:An:={flag:=fun f t=>if(unR (look1 [] yh9 f)).contains t then .keep else .view,clear:=fun f i=>unR ((look1 [] ydg f).getD i []),mode:=fun f=>look1 0 (look1 [] yi0 f),order:=fun f i=>(look1 [] (look1 [] yet f) i).map unR,own:=fun f=>anOwn.contains f}
def lastF:Nat:=285
def badF:List Nat:=[2,3,4,6,7,8,9,10,17,26,30,31,36,37,38,39,40,44,46,47,48,50,52,53,54,55,74,76,77,83,84,85,86,89,90,104,109,110,111,112,131,134,144,145,154,157,158,159,160,161,195,196,197,198,223,224,226,227,231,232,236,237,240,247,248,255,262,263,264,266,267,270,271,272,273,274,275,276,277,278,279,280,281,282,283,284,285]
def okF(h:Nat):Bool:=decide (2<=h/\h<=lastF)&&!badF.contains h
noncomputable def y5a:List (Nat×Option (List AV->Heap->Option (AV×Heap))):=[(45,some y6m),(148,some q43),(207,some (q8r 7)),(242,some (q8i 2)),(253,some (qcl 190)),(254,some (q6l 2))]
noncomputable def env:Env0:={P:=Tryz.prog,glob:=fun _=>none,an:=an,ok:=okF,lib:=look1 none y5a,pre:=look1 none [(45,some (43,qdd))]}
structure Trust where
 Threshold:Int
 Nodes:List (Int)Inner:List (Trust)
structure Claim where
 Topic:Int
 Value:Int
structure Tape where l:List (Int)at_:Int
structure Member where
 Declared:Bool
 Trust:Trust
structure Message where
 Node:Int
 Seq:Int
 Trust:Trust
 Votes:List (Claim)Accepts:List (Claim)
structure Config where Members:List (Member)
structure Play where
 Kind:Int
 From:Int
 To:Int
 Claim:Claim
 Trust:Trust
 Message:Message
structure Voter where
 Node:Int
 Seq:Int
 Trust:Trust
 Votes:List (Claim)Accepts:List (Claim)Confirms:List (Claim)Heard:List (Message)
structure Meeting where
 Voters:List (Voter)Stopped:Int
 Ill:Int
inductive TC where|i64|l_i64|b|Trust|l_Trust|Claim|l_Claim|Tape|Member|l_Member|Message|l_Message|Config|Play|Voter|l_Voter|Meeting deriving DecidableEq
def Ty:TC->Type|.i64=>Int|.l_i64=>List (Int)|.b=>Bool|.Trust=>Trust|.l_Trust=>List (Trust)|.Claim=>Claim|.l_Claim=>List (Claim)|.Tape=>Tape|.Member=>Member|.l_Member=>List (Member)|.Message=>Message|.l_Message=>List (Message)|.Config=>Config|.Play=>Play|.Voter=>Voter|.l_Voter=>List (Voter)|.Meeting=>Meeting
abbrev Lv:=Leaf TC Ty
def asL(c:TC):Lv->Option (List (Ty c))|.l c' xs=>if h:c'=c then some (h▸xs)else none|_=>none
theorem q2p{c:TC}{x:Lv}{xs:List (Ty c)}(h:asL c x=some xs):x=.l c xs:=by cases x with
 |l c' ys=>
  simp only[asL]at h;split at h;·rename_i hc;subst hc;cases h;rfl
  .cases h|_=>cases h
def q4r(x:Int):D:=.v (.int .i64 x)
theorem q9w(x y:Int)(h:q4r x=q4r y):x=y:=q2j h
def qrq(x:Int):List Lv:=[.i .i64 x]
def qdi:List Lv->Option (Int)|[.i .i64 x]=>some x|_=>none
theorem yl2(cs:List Lv)(x:Int)(h:qdi cs=some x):qrq x=cs:=by
 unfold qdi at h;split at h;·cases h;rfl
 .cases h
def qlq(x:List (Int)):D:=.list (x.map q4r)
theorem y5k(x y:List (Int))(h:qlq x=qlq y):x=y:=q17 q9w h
def qln(x:List (Int)):List Lv:=[.l .i64 x]
def qf1:List Lv->Option (List (Int))|[x]=>asL .i64 x|_=>none
theorem y7c:∀(cs:List Lv)(x:List (Int)),qf1 cs=some x->qln x=cs|[y],x,h=>by rw[q2p (c:=.i64) (x:=y) (xs:=x) h];rfl|[],x,h=>by have h':(none:Option (List (Int)))=some x:=h;cases h'|_::_::_,x,h=>by have h':(none:Option (List (Int)))=some x:=h;cases h'
def enc_b(x:Bool):D:=.v (.bool x)
theorem inj_b(x y:Bool)(h:enc_b x=enc_b y):x=y:=qyt h
def y6d(x:Bool):List Lv:=[.b x]
def qlm:List Lv->Option (Bool)|[.b x]=>some x|_=>none
theorem of_b(cs:List Lv)(x:Bool)(h:qlm cs=some x):y6d x=cs:=by
 unfold qlm at h;split at h;·cases h;rfl
 .cases h
mutual
def q1t : Trust -> D
 | ⟨a0, a1, a2⟩ => .agg [.v (.int .i64 a0), .list ((a1).map q4r), .list (q42 a2)]
def q42 : List Trust -> List D
 | [] => []
 | x :: r => q1t x :: q42 r
end
theorem q98:∀l:List Trust,q42 l=l.map q1t|[]=>rfl|x::r=>by simp only[q42,q98 r,List.map_cons]
mutual
theorem q5y : ∀ x y : Trust, q1t x = q1t y -> x = y
 | ⟨a0, a1, a2⟩, ⟨b0, b1, b2⟩, h => by
  simp only [q1t, D.agg.injEq, List.cons.injEq, and_true] at h;obtain ⟨h0, h1, h2⟩ := h;have e0 : a0 = b0 := q2j h0;have e1 : a1 = b1 := q17 q9w h1;have e2 : a2 = b2 := qmw _ _ (D.list.inj h2);rw [e0, e1, e2]
theorem qmw : ∀ x y : List Trust, q42 x = q42 y -> x = y
 | [], [], _ => rfl
 | [], _ :: _, h => by simp [q42] at h
 | _ :: _, [], h => by simp [q42] at h
 | x :: r, y :: r', h => by
  simp only [q42, List.cons.injEq] at h;rw [q5y x y h.1, qmw r r' h.2]
end
def qe7(x:Trust):List Lv:=[.i .i64 x.Threshold,.l .i64 x.Nodes,.l .Trust x.Inner]
def q9v:List Lv->Option Trust
 |[.i .i64 a0,l1,l2]=>match asL .i64 l1,asL .Trust l2 with|some m1,some m2=>some (Trust.mk a0 m1 m2)|_,_=>none
 |_=>none
theorem y8h(cs:List Lv)(x:Trust)(h:q9v cs=some x):qe7 x=cs:=by
 unfold q9v at h;split at h
 .split at h;·rename_i m1 m2 h1 h2;cases q2p h1;cases q2p h2;cases h;rfl
  .cases h
 .cases h
def q75(x:List (Trust)):D:=.list (x.map q1t)
theorem quj(x y:List (Trust))(h:q75 x=q75 y):x=y:=q17 q5y h
def qfs(x:List (Trust)):List Lv:=[.l .Trust x]
def qbh:List Lv->Option (List (Trust))|[x]=>asL .Trust x|_=>none
theorem y0g:∀(cs:List Lv)(x:List (Trust)),qbh cs=some x->qfs x=cs|[y],x,h=>by rw[q2p (c:=.Trust) (x:=y) (xs:=x) h];rfl|[],x,h=>by have h':(none:Option (List (Trust)))=some x:=h;cases h'|_::_::_,x,h=>by have h':(none:Option (List (Trust)))=some x:=h;cases h'
def q0r(x:Claim):D:=.agg [.v (.int .i64 (x.Topic)),.v (.int .i64 (x.Value))]
theorem q4i:∀x y:Claim,q0r x=q0r y->x=y|⟨a0,a1⟩,⟨b0,b1⟩,h=>by simp only[q0r,D.agg.injEq,List.cons.injEq,and_true]at h;obtain⟨h0,h1⟩:=h;have e0:a0=b0:=q2j h0;have e1:a1=b1:=q2j h1;rw[e0,e1]
def qls(x:Claim):List Lv:=[.i .i64 x.Topic,.i .i64 x.Value]
def q9p:List Lv->Option Claim|[.i .i64 a0,.i .i64 a1]=>some (Claim.mk a0 a1)|_=>none
theorem y76(cs:List Lv)(x:Claim)(h:q9p cs=some x):qls x=cs:=by
 unfold q9p at h;split at h;·cases h;rfl
 .cases h
def qea(x:List (Claim)):D:=.list (x.map q0r)
theorem qth(x y:List (Claim))(h:qea x=qea y):x=y:=q17 q4i h
def qfx(x:List (Claim)):List Lv:=[.l .Claim x]
def qb2:List Lv->Option (List (Claim))|[x]=>asL .Claim x|_=>none
theorem y0x:∀(cs:List Lv)(x:List (Claim)),qb2 cs=some x->qfx x=cs|[y],x,h=>by rw[q2p (c:=.Claim) (x:=y) (xs:=x) h];rfl|[],x,h=>by have h':(none:Option (List (Claim)))=some x:=h;cases h'|_::_::_,x,h=>by have h':(none:Option (List (Claim)))=some x:=h;cases h'
def qim(x:Tape):D:=.agg [.list (((x.l)).map q4r),.v (.int .i64 (x.at_))]
theorem y7n:∀x y:Tape,qim x=qim y->x=y|⟨a0,a1⟩,⟨b0,b1⟩,h=>by simp only[qim,D.agg.injEq,List.cons.injEq,and_true]at h;obtain⟨h0,h1⟩:=h;have e0:a0=b0:=q17 q9w h0;have e1:a1=b1:=q2j h1;rw[e0,e1]
def qmx(x:Tape):List Lv:=[.l .i64 x.l,.i .i64 x.at_]
def qbf:List Lv->Option Tape
 |[l0,.i .i64 a1]=>match asL .i64 l0 with|some m0=>some (Tape.mk m0 a1)|_=>none
 |_=>none
theorem yer(cs:List Lv)(x:Tape)(h:qbf cs=some x):qmx x=cs:=by
 unfold qbf at h;split at h
 .split at h;·rename_i m0 h0;cases q2p h0;cases h;rfl
  .cases h
 .cases h
def q47(x:Member):D:=.agg [.v (.bool (x.Declared)),.v (.int .i64 (x.Trust.Threshold)),.list (((x.Trust.Nodes)).map q4r),.list (((x.Trust.Inner)).map q1t)]
theorem qgd:∀x y:Member,q47 x=q47 y->x=y|⟨a0,⟨a1,a2,a3⟩⟩,⟨b0,⟨b1,b2,b3⟩⟩,h=>by simp only[q47,D.agg.injEq,List.cons.injEq,and_true]at h;obtain⟨h0,h1,h2,h3⟩:=h;have e0:a0=b0:=qyt h0;have e1:a1=b1:=q2j h1;have e2:a2=b2:=q17 q9w h2;have e3:a3=b3:=q17 q5y h3;rw[e0,e1,e2,e3]
def qhp(x:Member):List Lv:=[.b x.Declared,.i .i64 x.Trust.Threshold,.l .i64 x.Trust.Nodes,.l .Trust x.Trust.Inner]
def q80:List Lv->Option Member
 |[.b a0,.i .i64 a1,l2,l3]=>match asL .i64 l2,asL .Trust l3 with|some m2,some m3=>some (Member.mk a0 (Trust.mk a1 m2 m3))|_,_=>none
 |_=>none
theorem y4m(cs:List Lv)(x:Member)(h:q80 cs=some x):qhp x=cs:=by
 unfold q80 at h;split at h
 .split at h;·rename_i m2 m3 h2 h3;cases q2p h2;cases q2p h3;cases h;rfl
  .cases h
 .cases h
def qal(x:List (Member)):D:=.list (x.map q47)
theorem qqh(x y:List (Member))(h:qal x=qal y):x=y:=q17 qgd h
def qd2(x:List (Member)):List Lv:=[.l .Member x]
def qah:List Lv->Option (List (Member))|[x]=>asL .Member x|_=>none
theorem qus:∀(cs:List Lv)(x:List (Member)),qah cs=some x->qd2 x=cs|[y],x,h=>by rw[q2p (c:=.Member) (x:=y) (xs:=x) h];rfl|[],x,h=>by have h':(none:Option (List (Member)))=some x:=h;cases h'|_::_::_,x,h=>by have h':(none:Option (List (Member)))=some x:=h;cases h'
def q1u(x:Message):D:=.agg [.v (.int .i64 (x.Node)),.v (.int .i64 (x.Seq)),.v (.int .i64 (x.Trust.Threshold)),.list (((x.Trust.Nodes)).map q4r),.list (((x.Trust.Inner)).map q1t),.list (((x.Votes)).map q0r),.list (((x.Accepts)).map q0r)]
theorem qe0:∀x y:Message,q1u x=q1u y->x=y|⟨a0,a1,⟨a2,a3,a4⟩,a5,a6⟩,⟨b0,b1,⟨b2,b3,b4⟩,b5,b6⟩,h=>by simp only[q1u,D.agg.injEq,List.cons.injEq,and_true]at h;obtain⟨h0,h1,h2,h3,h4,h5,h6⟩:=h;have e0:a0=b0:=q2j h0;have e1:a1=b1:=q2j h1;have e2:a2=b2:=q2j h2;have e3:a3=b3:=q17 q9w h3;have e4:a4=b4:=q17 q5y h4;have e5:a5=b5:=q17 q4i h5;have e6:a6=b6:=q17 q4i h6;rw[e0,e1,e2,e3,e4,e5,e6]
def qes(x:Message):List Lv:=[.i .i64 x.Node,.i .i64 x.Seq,.i .i64 x.Trust.Threshold,.l .i64 x.Trust.Nodes,.l .Trust x.Trust.Inner,.l .Claim x.Votes,.l .Claim x.Accepts]
def q76:List Lv->Option Message
 |[.i .i64 a0,.i .i64 a1,.i .i64 a2,l3,l4,l5,l6]=>match asL .i64 l3,asL .Trust l4,asL .Claim l5,asL .Claim l6 with|some m3,some m4,some m5,some m6=>some (Message.mk a0 a1 (Trust.mk a2 m3 m4) m5 m6)|_,_,_,_=>none
 |_=>none
theorem qzp(cs:List Lv)(x:Message)(h:q76 cs=some x):qes x=cs:=by
 unfold q76 at h;split at h
 .split at h;·rename_i m3 m4 m5 m6 h3 h4 h5 h6;cases q2p h3;cases q2p h4;cases q2p h5;cases q2p h6;cases h;rfl
  .cases h
 .cases h
def q91(x:List (Message)):D:=.list (x.map q1u)
theorem qol(x y:List (Message))(h:q91 x=q91 y):x=y:=q17 qe0 h
def qbi(x:List (Message)):List Lv:=[.l .Message x]
def q8u:List Lv->Option (List (Message))|[x]=>asL .Message x|_=>none
theorem qrt:∀(cs:List Lv)(x:List (Message)),q8u cs=some x->qbi x=cs|[y],x,h=>by rw[q2p (c:=.Message) (x:=y) (xs:=x) h];rfl|[],x,h=>by have h':(none:Option (List (Message)))=some x:=h;cases h'|_::_::_,x,h=>by have h':(none:Option (List (Message)))=some x:=h;cases h'
def qch(x:Config):D:=.agg [.list (((x.Members)).map q47)]
theorem y03:∀x y:Config,qch x=qch y->x=y|⟨a0⟩,⟨b0⟩,h=>by simp only[qch,D.agg.injEq,List.cons.injEq,and_true]at h;have h0:=h;have e0:a0=b0:=q17 qgd h0;rw[e0]
def qi9(x:Config):List Lv:=[.l .Member x.Members]
def q82:List Lv->Option Config
 |[l0]=>match asL .Member l0 with|some m0=>some (Config.mk m0)|_=>none
 |_=>none
theorem y6e(cs:List Lv)(x:Config)(h:q82 cs=some x):qi9 x=cs:=by
 unfold q82 at h;split at h
 .split at h;·rename_i m0 h0;cases q2p h0;cases h;rfl
  .cases h
 .cases h
def q9r(x:Play):D:=.agg [.v (.int .i64 (x.Kind)),.v (.int .i64 (x.From)),.v (.int .i64 (x.To)),.v (.int .i64 (x.Claim.Topic)),.v (.int .i64 (x.Claim.Value)),.v (.int .i64 (x.Trust.Threshold)),.list (((x.Trust.Nodes)).map q4r),.list (((x.Trust.Inner)).map q1t),.v (.int .i64 (x.Message.Node)),.v (.int .i64 (x.Message.Seq)),.v (.int .i64 (x.Message.Trust.Threshold)),.list (((x.Message.Trust.Nodes)).map q4r),.list (((x.Message.Trust.Inner)).map q1t),.list (((x.Message.Votes)).map q0r),.list (((x.Message.Accepts)).map q0r)]
theorem y8i:∀x y:Play,q9r x=q9r y->x=y|⟨a0,a1,a2,⟨a3,a4⟩,⟨a5,a6,a7⟩,⟨a8,a9,⟨a10,a11,a12⟩,a13,a14⟩⟩,⟨b0,b1,b2,⟨b3,b4⟩,⟨b5,b6,b7⟩,⟨b8,b9,⟨b10,b11,b12⟩,b13,b14⟩⟩,h=>by simp only[q9r,D.agg.injEq,List.cons.injEq,and_true]at h;obtain⟨h0,h1,h2,h3,h4,h5,h6,h7,h8,h9,h10,h11,h12,h13,h14⟩:=h;have e0:a0=b0:=q2j h0;have e1:a1=b1:=q2j h1;have e2:a2=b2:=q2j h2;have e3:a3=b3:=q2j h3;have e4:a4=b4:=q2j h4;have e5:a5=b5:=q2j h5;have e6:a6=b6:=q17 q9w h6;have e7:a7=b7:=q17 q5y h7;have e8:a8=b8:=q2j h8;have e9:a9=b9:=q2j h9;have e10:a10=b10:=q2j h10;have e11:a11=b11:=q17 q9w h11;have e12:a12=b12:=q17 q5y h12;have e13:a13=b13:=q17 q4i h13;have e14:a14=b14:=q17 q4i h14;rw[e0,e1,e2,e3,e4,e5,e6,e7,e8,e9,e10,e11,e12,e13,e14]
def qn3(x:Play):List Lv:=[.i .i64 x.Kind,.i .i64 x.From,.i .i64 x.To,.i .i64 x.Claim.Topic,.i .i64 x.Claim.Value,.i .i64 x.Trust.Threshold,.l .i64 x.Trust.Nodes,.l .Trust x.Trust.Inner,.i .i64 x.Message.Node,.i .i64 x.Message.Seq,.i .i64 x.Message.Trust.Threshold,.l .i64 x.Message.Trust.Nodes,.l .Trust x.Message.Trust.Inner,.l .Claim x.Message.Votes,.l .Claim x.Message.Accepts]
def qbw:List Lv->Option Play
 |[.i .i64 a0,.i .i64 a1,.i .i64 a2,.i .i64 a3,.i .i64 a4,.i .i64 a5,l6,l7,.i .i64 a8,.i .i64 a9,.i .i64 a10,l11,l12,l13,l14]=>match asL .i64 l6,asL .Trust l7,asL .i64 l11,asL .Trust l12,asL .Claim l13,asL .Claim l14 with|some m6,some m7,some m11,some m12,some m13,some m14=>some (Play.mk a0 a1 a2 (Claim.mk a3 a4) (Trust.mk a5 m6 m7) (Message.mk a8 a9 (Trust.mk a10 m11 m12) m13 m14))|_,_,_,_,_,_=>none
 |_=>none
theorem ydi(cs:List Lv)(x:Play)(h:qbw cs=some x):qn3 x=cs:=by
 unfold qbw at h;split at h
 .split at h;·rename_i m6 m7 m11 m12 m13 m14 h6 h7 h11 h12 h13 h14;cases q2p h6;cases q2p h7;cases q2p h11;cases q2p h12;cases q2p h13;cases q2p h14;cases h;rfl
  .cases h
 .cases h
def q7c(x:Voter):D:=.agg [.v (.int .i64 (x.Node)),.v (.int .i64 (x.Seq)),.v (.int .i64 (x.Trust.Threshold)),.list (((x.Trust.Nodes)).map q4r),.list (((x.Trust.Inner)).map q1t),.list (((x.Votes)).map q0r),.list (((x.Accepts)).map q0r),.list (((x.Confirms)).map q0r),.list (((x.Heard)).map q1u)]
theorem qlw:∀x y:Voter,q7c x=q7c y->x=y|⟨a0,a1,⟨a2,a3,a4⟩,a5,a6,a7,a8⟩,⟨b0,b1,⟨b2,b3,b4⟩,b5,b6,b7,b8⟩,h=>by simp only[q7c,D.agg.injEq,List.cons.injEq,and_true]at h;obtain⟨h0,h1,h2,h3,h4,h5,h6,h7,h8⟩:=h;have e0:a0=b0:=q2j h0;have e1:a1=b1:=q2j h1;have e2:a2=b2:=q2j h2;have e3:a3=b3:=q17 q9w h3;have e4:a4=b4:=q17 q5y h4;have e5:a5=b5:=q17 q4i h5;have e6:a6=b6:=q17 q4i h6;have e7:a7=b7:=q17 q4i h7;have e8:a8=b8:=q17 qe0 h8;rw[e0,e1,e2,e3,e4,e5,e6,e7,e8]
def qja(x:Voter):List Lv:=[.i .i64 x.Node,.i .i64 x.Seq,.i .i64 x.Trust.Threshold,.l .i64 x.Trust.Nodes,.l .Trust x.Trust.Inner,.l .Claim x.Votes,.l .Claim x.Accepts,.l .Claim x.Confirms,.l .Message x.Heard]
def q9c:List Lv->Option Voter
 |[.i .i64 a0,.i .i64 a1,.i .i64 a2,l3,l4,l5,l6,l7,l8]=>match asL .i64 l3,asL .Trust l4,asL .Claim l5,asL .Claim l6,asL .Claim l7,asL .Message l8 with|some m3,some m4,some m5,some m6,some m7,some m8=>some (Voter.mk a0 a1 (Trust.mk a2 m3 m4) m5 m6 m7 m8)|_,_,_,_,_,_=>none
 |_=>none
theorem y8d(cs:List Lv)(x:Voter)(h:q9c cs=some x):qja x=cs:=by
 unfold q9c at h;split at h
 .split at h;·rename_i m3 m4 m5 m6 m7 m8 h3 h4 h5 h6 h7 h8;cases q2p h3;cases q2p h4;cases q2p h5;cases q2p h6;cases q2p h7;cases q2p h8;cases h;rfl
  .cases h
 .cases h
def qe8(x:List (Voter)):D:=.list (x.map q7c)
theorem qvn(x y:List (Voter))(h:qe8 x=qe8 y):x=y:=q17 qlw h
def qem(x:List (Voter)):List Lv:=[.l .Voter x]
def qbo:List Lv->Option (List (Voter))|[x]=>asL .Voter x|_=>none
theorem y01:∀(cs:List Lv)(x:List (Voter)),qbo cs=some x->qem x=cs|[y],x,h=>by rw[q2p (c:=.Voter) (x:=y) (xs:=x) h];rfl|[],x,h=>by have h':(none:Option (List (Voter)))=some x:=h;cases h'|_::_::_,x,h=>by have h':(none:Option (List (Voter)))=some x:=h;cases h'
def q9h(x:Meeting):D:=.agg [.list (((x.Voters)).map q7c),.v (.int .i64 (x.Stopped)),.v (.int .i64 (x.Ill))]
theorem qve:∀x y:Meeting,q9h x=q9h y->x=y|⟨a0,a1,a2⟩,⟨b0,b1,b2⟩,h=>by simp only[q9h,D.agg.injEq,List.cons.injEq,and_true]at h;obtain⟨h0,h1,h2⟩:=h;have e0:a0=b0:=q17 qlw h0;have e1:a1=b1:=q2j h1;have e2:a2=b2:=q2j h2;rw[e0,e1,e2]
def qfn(x:Meeting):List Lv:=[.l .Voter x.Voters,.i .i64 x.Stopped,.i .i64 x.Ill]
def q78:List Lv->Option Meeting
 |[l0,.i .i64 a1,.i .i64 a2]=>match asL .Voter l0 with|some m0=>some (Meeting.mk m0 a1 a2)|_=>none
 |_=>none
theorem y0c(cs:List Lv)(x:Meeting)(h:q78 cs=some x):qfn x=cs:=by
 unfold q78 at h;split at h
 .split at h;·rename_i m0 h0;cases q2p h0;cases h;rfl
  .cases h
 .cases h
def encT:(c:TC)->Ty c->D|.i64=>q4r|.l_i64=>qlq|.b=>enc_b|.Trust=>q1t|.l_Trust=>q75|.Claim=>q0r|.l_Claim=>qea|.Tape=>qim|.Member=>q47|.l_Member=>qal|.Message=>q1u|.l_Message=>q91|.Config=>qch|.Play=>q9r|.Voter=>q7c|.l_Voter=>qe8|.Meeting=>q9h
def yia:(c:TC)->Ty c->List Lv|.i64=>qrq|.l_i64=>qln|.b=>y6d|.Trust=>qe7|.l_Trust=>qfs|.Claim=>qls|.l_Claim=>qfx|.Tape=>qmx|.Member=>qhp|.l_Member=>qd2|.Message=>qes|.l_Message=>qbi|.Config=>qi9|.Play=>qn3|.Voter=>qja|.l_Voter=>qem|.Meeting=>qfn
def y7o:(c:TC)->List Lv->Option (Ty c)|.i64=>qdi|.l_i64=>qf1|.b=>qlm|.Trust=>q9v|.l_Trust=>qbh|.Claim=>q9p|.l_Claim=>qb2|.Tape=>qbf|.Member=>q80|.l_Member=>qah|.Message=>q76|.l_Message=>q8u|.Config=>q82|.Play=>qbw|.Voter=>q9c|.l_Voter=>qbo|.Meeting=>q78
def aggF:TC->Bool|.i64=>false|.l_i64=>false|.b=>false|.Trust=>true|.l_Trust=>false|.Claim=>true|.l_Claim=>false|.Tape=>true|.Member=>true|.l_Member=>false|.Message=>true|.l_Message=>false|.Config=>true|.Play=>true|.Voter=>true|.l_Voter=>false|.Meeting=>true
def sizeF:TC->Nat|.i64=>1|.l_i64=>1|.b=>1|.Trust=>3|.l_Trust=>1|.Claim=>2|.l_Claim=>1|.Tape=>2|.Member=>4|.l_Member=>1|.Message=>7|.l_Message=>1|.Config=>1|.Play=>15|.Voter=>9|.l_Voter=>1|.Meeting=>3
def y3w:List (TypeId×TC×TypeId):=[(22,.i64,3),(25,.Member,111),(28,.Play,70),(31,.Voter,59),(34,.i64,35),(44,.Meeting,33),(51,.Claim,66),(54,.Trust,56),(57,.Message,68),(83,.Config,27),(86,.l_Trust,54),(212,.l_Claim,51)]
def y8o:List (TypeId×List (Option TC)):=[(22,[some .i64]),(25,[some .Member]),(26,[some .Member]),(27,[some .Member]),(28,[some .Play]),(31,[some .Voter]),(32,[some .Voter,none,none]),(33,[some .Voter,none,none]),(34,[some .i64]),(44,[some .Meeting]),(51,[some .Claim]),(54,[some .Trust]),(55,[none,some .i64,some .Trust]),(56,[none,some .i64,some .Trust]),(57,[some .Message]),(58,[none,none,none,some .i64,some .Trust,some .Claim,some .Claim,some .Claim,some .Message]),(59,[none,none,none,some .i64,some .Trust,some .Claim,some .Claim,some .Claim,some .Message]),(67,[none,none,none,some .i64,some .Trust,some .Claim,some .Claim]),(68,[none,none,none,some .i64,some .Trust,some .Claim,some .Claim]),(69,[none,none,none,none,none,none,some .i64,some .Trust,none,none,none,some .i64,some .Trust,some .Claim,some .Claim]),(70,[none,none,none,none,none,none,some .i64,some .Trust,none,none,none,some .i64,some .Trust,some .Claim,some .Claim]),(83,[some .Config]),(85,[none]),(86,[some .l_Trust]),(95,[some .i64,none]),(96,[some .i64,none]),(110,[none,none,some .i64,some .Trust]),(111,[none,none,some .i64,some .Trust]),(144,[some .Voter,none,none,some .Play]),(145,[some .Voter,none,none,some .Play]),(212,[some .l_Claim])]
def elemF:List (TypeId×TC×TypeId)->TypeId->Option TC|[],_=>none|(u,c,_)::r,t=>if u=t then some c else elemF r t
def sig:Sig:={TC:=TC,Ty:=Ty,enc:=encT,cells:=yia,ofCells:=y7o,agg:=aggF,size:=sizeF,elem:=elemF y3w,lists:=look1 [] y8o}
theorem qwt(P:Program):∀(tab:List (TypeId×TC×TypeId)),(tab.all fun p=>q2n P p.1==some p.2.2&&tyAgg P p.2.2==some (aggF p.2.1)&&q0p P p.2.2==some (sizeF p.2.1))=true->∀t c,elemF tab t=some c->∃e,q2n P t=some e/\tyAgg P e=some (aggF c)/\q0p P e=some (sizeF c)
 |[],_,_,_,h=>by cases h|(u,d,e)::r,ha,t,c,h=>by
  simp only[List.all_cons,aT,beq_iff_eq]at ha;simp only[elemF]at h;split at h;·rename_i hu;cases h;subst hu;exact⟨e,ha.1.1.1,ha.1.1.2,ha.1.2⟩
  .exact qwt P r ha.2 t c h
theorem qw3(x:Trust):sig.enc .Trust x=(packT (S:=sig) true (qe7 x)).toD:=by cases x;show q1t _=_;simp only[q1t,q98];rfl
theorem sigOk:sig.Ok Tryz.prog where
 enc_eq:=fun c x=>by cases c<;>first|rfl|exact qw3 x
 of_eq:=fun c cs x h=>by
  have:sig.cells c x=cs:=by
   cases c;·exact yl2 cs x h
   .exact y7c cs x h
   .exact of_b cs x h
   .exact y8h cs x h
   .exact y0g cs x h
   .exact y76 cs x h
   .exact y0x cs x h
   .exact yer cs x h
   .exact y4m cs x h
   .exact qus cs x h
   .exact qzp cs x h
   .exact qrt cs x h
   .exact y6e cs x h
   .exact ydi cs x h
   .exact y8d cs x h
   .exact y01 cs x h
   .exact y0c cs x h
  rw[this]
 inj:=fun c x y h=>by
  cases c;·exact q9w x y h
  .exact y5k x y h
  .exact inj_b x y h
  .exact q5y x y h
  .exact quj x y h
  .exact q4i x y h
  .exact qth x y h
  .exact y7n x y h
  .exact qgd x y h
  .exact qqh x y h
  .exact qe0 x y h
  .exact qol x y h
  .exact y03 x y h
  .exact y8i x y h
  .exact qlw x y h
  .exact qvn x y h
  .exact qve x y h
 len:=fun c x=>by cases c<;>rfl
 pos:=fun c=>by cases c<;>decide
 one:=fun c h=>by cases c<;>first|rfl|cases h
 elem:=qwt Tryz.prog y3w (by kernel_rfl)
def yjs:List (Nat×List (OT sig)):=[(5,[.lf .b]),(11,[.ptr 0 0]),(12,[.ag .Config,.lf (.i .i64),.lf (.l .Play)]),(13,[.ag .Meeting,.lf (.l .i64),.lf (.i .i64)]),(14,[.ag .Meeting,.lf (.i .i64)]),(15,[.ag .Config,.ag .Config,.lf .b]),(16,[.lf .b,.lf (.i .i64)]),(18,[.lf .b]),(19,[.lf (.i .i64),.lf (.i .i64)]),(20,[.lf (.l .i64)]),(25,[.ag .Config]),(29,[.lf (.i .i64)]),(56,[.lf (.i .i64)]),(27,[.lf (.l .Play)]),(41,[.ag .Meeting,.lf (.i .i64)]),(51,[.lf .b]),(45,[.lf (.l .l_Trust),.lf (.i .i64)]),(60,[.ag .Config,.lf (.i .i64)]),(61,[.ag .Config,.lf (.i .i64)]),(62,[.lf (.i .i64)]),(35,[.lf (.i .i64)]),(63,[.lf (.i .i64)]),(65,[.ag .Config]),(64,[.lf .b,.lf (.i .i64)]),(67,[.ag .Config]),(28,[.lf .b]),(68,[.lf (.i .i64),.lf (.i .i64)]),(69,[.lf (.i .i64)]),(70,[.ref 1,.ref 1]),(91,[.lf (.i .i64)]),(43,[.ag .Meeting,.lf (.l .i64),.lf (.i .i64)]),(118,[.ag .Config,.lf (.i .i64)]),(71,[.lf (.i .i64)]),(119,[.lf (.i .i64)]),(81,[.lf .b]),(121,[.lf (.i .i64),.lf (.i .i64)]),(123,[.lf (.i .i64)]),(124,[.lf (.l .i64),.lf (.i .i64)]),(87,[.lf (.i .i64)]),(42,[.ag .Meeting,.lf (.i .i64)]),(169,[.lf (.i .i64)]),(168,[.lf (.l .i64)]),(172,[.lf (.i .i64)]),(32,[.lf .b]),(21,[.lf (.l .Claim)]),(22,[.lf .b]),(24,[.lf (.l .Claim)]),(57,[.ag .Meeting,.lf (.i .i64)]),(58,[.ag .Meeting]),(113,[.lf (.i .i64)]),(114,[.lf (.i .i64),.ag .Voter,.lf (.i .i64)]),(115,[.ref 0]),(162,[.lf .b]),(92,[.lf .b]),(163,[.ag .Voter,.lf (.i .i64)]),(165,[.ag .Message]),(164,[.ag .Voter,.lf (.i .i64)]),(137,[.lf (.i .i64)]),(106,[.lf .b]),(166,[.ag .Voter,.lf (.i .i64)]),(151,[.lf .b]),(136,[.lf .b]),(105,[.lf .b]),(189,[.lf .b]),(143,[.lf .b]),(150,[.lf .b]),(200,[.ag .Voter]),(201,[.lf (.l .Claim)]),(202,[.ag .Voter]),(155,[.ag .Message]),(208,[.ag .Message]),(203,[.lf (.i .i64),.lf .b]),(206,[.ref 0]),(207,[.lf (.l .Message)]),(179,[.lf (.i .i64)]),(180,[.lf (.i .i64)]),(181,[.lf (.i .i64)]),(152,[.lf (.i .i64)]),(194,[.lf .b]),(192,[.lf .b]),(147,[.lf .b]),(178,[.lf .b]),(148,[.lf .b]),(188,[.lf (.i .i64)]),(191,[.lf .b]),(138,[.ag .Trust]),(116,[.ref 0]),(228,[.lf (.l .Claim)]),(229,[.ag .Voter]),(156,[.lf .b]),(214,[.lf .b]),(216,[.lf (.i .i64),.lf (.i .i64)]),(221,[.lf .b]),(222,[.lf .b]),(220,[.lf (.i .i64)]),(139,[.ref 0]),(242,[.ref 0]),(241,[.lf (.l .Claim)]),(243,[.ag .Config]),(244,[.ag .Claim,.lf .b]),(234,[.lf (.i .i64)]),(251,[.ref 0]),(253,[]),(254,[.lf (.l .Claim)]),(257,[.lf (.l .Claim)]),(59,[.ag .Meeting,.lf .b]),(103,[.lf (.l .i64)]),(34,[.lf .b]),(72,[.ag .Trust]),(125,[.ag .Trust]),(128,[.lf (.i .i64)]),(129,[.lf (.i .i64)]),(174,[.ag .Trust]),(82,[.lf (.i .i64)]),(213,[.lf (.l .i64)]),(133,[.lf (.i .i64)]),(93,[.ag .Trust]),(94,[.ag .Voter,.lf (.i .i64)]),(107,[.lf .b]),(153,[.lf (.i .i64)]),(33,[.lf .b]),(79,[.lf (.i .i64)]),(80,[.lf .b]),(122,[.ag .Trust]),(171,[.ag .Trust]),(126,[.ag .Trust]),(127,[.ag .Trust]),(135,[.lf (.i .i64)]),(177,[.lf .b]),(49,[.ag .Meeting,.lf (.i .i64)]),(170,[.lf .b]),(75,[.lf (.i .i64)]),(130,[.lf (.l .i64)]),(173,[.lf .b]),(212,[.lf .b,.lf (.i .i64)]),(95,[.ag .Voter,.lf (.i .i64)]),(210,[.lf (.i .i64)]),(78,[.lf .b]),(132,[.lf .b]),(23,[.lf .b]),(96,[.ag .Trust]),(204,[.lf (.i .i64)]),(205,[.lf (.i .i64)]),(230,[.lf .b]),(193,[.lf .b]),(190,[.lf (.i .i64)]),(219,[.lf (.i .i64)]),(199,[.lf .b]),(146,[.lf .b]),(149,[.lf .b]),(256,[.ag .Trust]),(259,[.lf (.i .i64)]),(246,[.lf (.i .i64)]),(258,[.lf .b]),(260,[.lf (.i .i64)]),(268,[.lf .b]),(225,[.lf (.i .i64)]),(249,[.lf (.i .i64)]),(265,[.lf .b]),(239,[.lf (.i .i64),.lf (.l .i64)]),(215,[.lf .b]),(252,[.lf .b]),(73,[.lf (.l .Claim)]),(176,[.lf (.i .i64),.lf (.i .i64)]),(108,[.lf .b]),(120,[.lf .b]),(211,[.lf (.i .i64)]),(167,[.lf (.l .Trust)]),(140,[.lf .b]),(175,[.lf (.i .i64)]),(66,[.lf .b]),(117,[.ag .Message]),(245,[.lf .b]),(269,[.lf (.l .Claim)]),(261,[.lf (.l .Claim)]),(238,[.lf (.i .i64),.lf .b]),(88,[.ag .Claim]),(101,[.lf .b]),(250,[.lf .b]),(97,[.ag .Voter,.lf (.i .i64)]),(99,[.ag .Message]),(98,[.ag .Voter,.lf (.i .i64)]),(209,[.lf (.i .i64)]),(233,[.lf (.i .i64)]),(102,[.ag .Meeting]),(100,[.ag .Voter,.lf (.i .i64)]),(142,[.ag .Voter]),(141,[.lf (.l .Claim)]),(182,[.lf (.l .Claim)]),(184,[.lf (.l .Message)]),(183,[.lf .b]),(186,[.ag .Config]),(187,[.lf (.i .i64)]),(185,[.lf .b]),(218,[.lf (.i .i64)]),(217,[.lf .b]),(235,[.lf .b])]
def ye0:List (Nat×List (List (OT sig))):=[(11,[[.lf (.l .i64),.lf (.i .i64)]]),(70,[[.own .Member false]]),(115,[[.own .Voter false]]),(206,[[.own .Message false]]),(116,[[.own .Claim false]]),(139,[[.own .i64 false]]),(242,[[.own .Claim false]])]
noncomputable def tn:TEn:={E:=env,S:=sig,res:=look1 [] yjs,news:=look1 [] ye0,outs:=fun f=>if List.contains [207,254] f then some [[.undef]]else none,cut:=fun f id=>List.contains [(49,5),(49,8),(49,17),(49,35),(49,40)] (f,id)}
def qf7(fn:Func):Code:=match fn.body with|some c=>c|none=>.skip
def q0c(fn:Func)(p:List Nat):Code:=qlp p (qf7 fn)
def yhg(fn:Func)(p ms:List Nat):List Fr:=qjq p (qf7 fn) ms []
abbrev o0':OSpec sig:=⟨[.lf .b],[]⟩
abbrev o1':OSpec sig:=⟨[.lf (.i .i64)],[]⟩
abbrev o2':OSpec sig:=⟨[.lf (.l .Claim)],[]⟩
abbrev o3':OSpec sig:=⟨[.ag .Meeting,.lf (.i .i64)],[]⟩
abbrev o4':OSpec sig:=⟨[.lf (.l .i64)],[]⟩
abbrev o5':OSpec sig:=⟨[.ag .Voter],[]⟩
abbrev o6':OSpec sig:=⟨[.ag .Trust],[]⟩
abbrev o7':OSpec sig:=⟨[.ag .Voter,.lf (.i .i64)],[]⟩
abbrev o8':OSpec sig:=⟨[.ag .Trust],[[.lf (.l .i64),.lf (.i .i64)]]⟩
abbrev o9':OSpec sig:=⟨[.lf (.i .i64),.lf (.i .i64)],[]⟩
abbrev o10':OSpec sig:=⟨[.ag .Config],[]⟩
abbrev o11':OSpec sig:=⟨[.ag .Config,.lf (.i .i64)],[]⟩
abbrev o12':OSpec sig:=⟨[.ag .Message],[]⟩
abbrev o13':OSpec sig:=⟨[.ag .Meeting,.lf (.l .i64),.lf (.i .i64)],[]⟩
abbrev o14':OSpec sig:=⟨[.ag .Meeting],[]⟩
abbrev o15':OSpec sig:=⟨[.lf (.i .i64),.lf .b],[]⟩
abbrev o16':OSpec sig:=⟨[.lf .b,.lf (.i .i64)],[]⟩
abbrev o17':OSpec sig:=⟨[.ag .Config],[[.lf (.l .i64),.lf (.i .i64)]]⟩
abbrev o18':OSpec sig:=⟨[.lf (.i .i64)],[[.lf (.l .i64),.lf (.i .i64)]]⟩
abbrev o19':OSpec sig:=⟨[.lf (.l .Play)],[[.lf (.l .i64),.lf (.i .i64)]]⟩
abbrev o20':OSpec sig:=⟨[.ag .Meeting,.lf .b],[]⟩
abbrev o21':OSpec sig:=⟨[.lf (.l .i64)],[[.lf (.l .i64),.lf (.i .i64)]]⟩
abbrev o22':OSpec sig:=⟨[.lf (.l .Trust)],[]⟩
abbrev o23':OSpec sig:=⟨[.ref 0],[[.own .Claim false]]⟩
abbrev o24':OSpec sig:=⟨[.ref 1,.ref 1],[[.lf (.l .i64),.lf (.i .i64)],[.own .Member false]]⟩
abbrev o25':OSpec sig:=⟨[.lf (.l .i64),.lf (.i .i64)],[]⟩
abbrev o26':OSpec sig:=⟨[.lf .b],[[.lf (.i .i64),.lf (.i .i64)]]⟩
abbrev o27':OSpec sig:=⟨[.lf .b],[[.lf (.i .i64),.lf (.i .i64),.lf (.i .i64),.lf (.l .i64),.lf (.l .Trust),.lf (.l .Claim),.lf (.l .Claim),.lf (.l .Claim),.lf (.l .Message)]]⟩
abbrev o28':OSpec sig:=⟨[.lf (.i .i64)],[[.lf (.i .i64),.lf (.i .i64)]]⟩
abbrev o29':OSpec sig:=⟨[.lf (.i .i64)],[[.lf (.i .i64),.lf (.i .i64),.lf (.i .i64),.lf (.l .i64),.lf (.l .Trust),.lf (.l .Claim),.lf (.l .Claim),.lf (.l .Claim),.lf (.l .Message)]]⟩
abbrev o30':OSpec sig:=⟨[.ag .Claim,.lf .b],[]⟩
abbrev o31':OSpec sig:=⟨[.lf (.i .i64)],[[.own .Claim false]]⟩
abbrev o32':OSpec sig:=⟨[.lf .b],[[.lf (.i .i64)]]⟩
abbrev o33':OSpec sig:=⟨[.lf (.i .i64)],[[.lf (.i .i64)]]⟩
abbrev o34':OSpec sig:=⟨[.lf (.i .i64),.lf (.l .i64)],[]⟩
abbrev o35':OSpec sig:=⟨[.lf (.l .Claim)],[[.lf (.l .i64),.lf (.i .i64)]]⟩
abbrev o36':OSpec sig:=⟨[.ptr 0 0],[[.lf (.l .i64),.lf (.i .i64)]]⟩
abbrev o37':OSpec sig:=⟨[.ag .Config,.lf (.i .i64),.lf (.l .Play)],[[.lf (.l .i64),.lf (.i .i64)]]⟩
abbrev o38':OSpec sig:=⟨[.ag .Config,.ag .Config,.lf .b],[]⟩
abbrev o39':OSpec sig:=⟨[.lf (.i .i64),.ag .Voter,.lf (.i .i64)],[]⟩
abbrev o40':OSpec sig:=⟨[.ag .Claim],[[.lf (.l .i64),.lf (.i .i64)]]⟩
def eL{α:Type}(b a:Option α):Prop:=∀r,a=some r->b=some r
theorem cL{f:FuncId}{fn:Func}{vs:List (TL sig)}{hs:THeap sig}(o:OSpec sig)(hf:Tryz.prog.funcs[f]?=some fn){p:Option o.Out}(hok:env.ok f=true:=by kernel_rfl)(hb:fn.body=some (qf7 fn):=by kernel_rfl)(hn0:(decide (vs.length<=fn.ntmps)&&(q7x Tryz.prog fn (qf7 fn)).isNone&&(env.lib f).isNone)=true:=by kernel_rfl)(h:te tn ⟨f,fn,hs.length⟩ o 100000 (qf7 fn) [] ⟨bindT 0 vs,hs⟩=p:=by kernel_rfl):eL (callC tn f vs hs o) p:=y77 (T:=tn) sigOk 100000 hok hf hb hn0 h
theorem gL{F:Fx}(o:OSpec sig)(b:Code){c:Code}{K:List Fr}{s:TSt sig}{p:Option o.Out}(hc:c=.loop b:=by kernel_rfl)(h:te tn F o 100000 b (.loop b s.heap.length::K) s=p:=by kernel_rfl):eL (goC tn F o c K s) p:=y0y (T:=tn) sigOk 100000 hc h
end Go.Proofs.YtdmfjabikomgiaaGreat
