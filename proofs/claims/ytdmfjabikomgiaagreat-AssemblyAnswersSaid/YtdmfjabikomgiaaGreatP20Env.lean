/- The seat's program for the machines. -/
import Derived.Test.YtdmfjabikomgiaaGreatP20An
import Derived.Test.YtdmfjabikomgiaaGreatMachT
import Derived.Test.YtdmfjabikomgiaaGreatChecked
namespace Go.Proofs.YtdmfjabikomgiaaGreat
open Go Go.Ab
def look1{α:Type}(d:α):List (Nat×α)->Nat->α|[],_=>d|(k,v)::r,t=>if k=t then v else look1 d r t
def unR:List Nat->List Nat|[]=>[]|k::r=>if k<1000 then k::unR r else List.range' (k%1000) (k/1000)++unR r
def an:An:={flag:=fun f t=>if(unR (look1 [] yfl f)).contains t then .keep else .view,clear:=fun f i=>unR ((look1 [] yd3 f).getD i []),mode:=fun f=>look1 0 (look1 [] yes f),order:=fun f i=>(look1 [] (look1 [] ycc f) i).map unR,own:=fun f=>anOwn.contains f}
def lastF:Nat:=285
def badF:List Nat:=[2,3,4,5,6,7,8,10,12,15,16,19,30,54,55,60,61,62,63,64,65,68,69,74,76,111,112,118,119,121,122,123,124,158,159,160,161,167,168,169,170,171,172,173,195,196,197,198,209,210,211,212,223,224,226,227,231,232,233,236,237,240,247,248,255,262,263,264,266,267,270,271,272,273,274,275,276,277,278,279,280,281,282,283,284,285]
def okF(h:Nat):Bool:=decide (2<=h/\h<=lastF)&&!badF.contains h
noncomputable def y32:List (Nat×Option (List AV->Heap->Option (AV×Heap))):=[(44,some qnp),(45,some qnp),(148,some q4c),(207,some (q7y 7)),(242,some (q83 2)),(253,some (qbt 190)),(254,some (q6g 2))]
noncomputable def env:Env0:={P:=Tryz.prog,glob:=fun _=>none,an:=an,ok:=okF,lib:=look1 none y32,pre:=look1 none [(44,some (qda 13 96)),(45,some (qbe 43))]}
structure Claim where
 Topic:Int
 Value:Int
structure Tape where l:List (Int)at_:Int
structure Trust where
 Threshold:Int
 Nodes:List (Int)Inner:List (Trust)
structure Message where
 Node:Int
 Seq:Int
 Trust:Trust
 Votes:List (Claim)Accepts:List (Claim)
structure Member where
 Declared:Bool
 Trust:Trust
structure Play where
 Kind:Int
 From:Int
 To:Int
 Claim:Claim
 Trust:Trust
 Message:Message
structure Voter where
 Node:Int
 Seq:Int
 Trust:Trust
 Votes:List (Claim)Accepts:List (Claim)Confirms:List (Claim)Heard:List (Message)
structure Config where Members:List (Member)
structure Meeting where
 Voters:List (Voter)Stopped:Int
 Ill:Int
abbrev LI:=List Int
abbrev LT:=List Trust
abbrev LC:=List Claim
abbrev LM:=List Message
abbrev LB:=List Member
abbrev LV:=List Voter
abbrev LP:=List Play
inductive TC where|i64|b|l_i64|Claim|l_Claim|Tape|Trust|l_Trust|Message|l_Message|Member|l_Member|Play|Voter|l_Voter|l_Play|Config|Meeting deriving DecidableEq
def Ty:TC->Type|.i64=>Int|.b=>Bool|.l_i64=>List (Int)|.Claim=>Claim|.l_Claim=>List (Claim)|.Tape=>Tape|.Trust=>Trust|.l_Trust=>List (Trust)|.Message=>Message|.l_Message=>List (Message)|.Member=>Member|.l_Member=>List (Member)|.Play=>Play|.Voter=>Voter|.l_Voter=>List (Voter)|.l_Play=>List (Play)|.Config=>Config|.Meeting=>Meeting
abbrev Lv:=Leaf TC Ty
def asL(c:TC):Lv->Option (List (Ty c))|.l c' xs=>if h:c'=c then some (h▸xs)else none|_=>none
theorem q2n{c:TC}{x:Lv}{xs:List (Ty c)}(h:asL c x=some xs):x=.l c xs:=by cases x with
 |l c' ys=>
  simp only[asL]at h;split at h;·rename_i hc;subst hc;cases h;rfl
  .cases h|_=>cases h
def q23(x:Int):D:=.v (.int .i64 x)
theorem q9i(x y:Int)(h:q23 x=q23 y):x=y:=q2f h
def qr4(x:Int):List Lv:=[.i .i64 x]
def qdd:List Lv->Option (Int)|[.i .i64 x]=>some x|_=>none
theorem yii(cs:List Lv)(x:Int)(h:qdd cs=some x):qr4 x=cs:=by
 unfold qdd at h;split at h;·cases h;rfl
 .cases h
def enc_b(x:Bool):D:=.v (.bool x)
theorem inj_b(x y:Bool)(h:enc_b x=enc_b y):x=y:=qvv h
def y3d(x:Bool):List Lv:=[.b x]
def qj0:List Lv->Option (Bool)|[.b x]=>some x|_=>none
theorem of_b(cs:List Lv)(x:Bool)(h:qj0 cs=some x):y3d x=cs:=by
 unfold qj0 at h;split at h;·cases h;rfl
 .cases h
def qix(x:List (Int)):D:=.list (x.map q23)
theorem y0m(x y:List (Int))(h:qix x=qix y):x=y:=q17 q9i h
def qjy(x:List (Int)):List Lv:=[.l .i64 x]
def qdp:List Lv->Option (List (Int))|[x]=>asL .i64 x|_=>none
theorem y6m:∀(cs:List Lv)(x:List (Int)),qdp cs=some x->qjy x=cs|[y],x,h=>by rw[q2n (c:=.i64) (x:=y) (xs:=x) h];rfl|[],x,h=>by have h':(none:Option (List (Int)))=some x:=h;cases h'|_::_::_,x,h=>by have h':(none:Option (List (Int)))=some x:=h;cases h'
def q0h(x:Claim):D:=.agg [.v (.int .i64 (x.Topic)),.v (.int .i64 (x.Value))]
theorem q4p:∀x y:Claim,q0h x=q0h y->x=y|⟨a0,a1⟩,⟨b0,b1⟩,h=>by simp only[q0h,D.agg.injEq,List.cons.injEq,and_true]at h;obtain⟨h0,h1⟩:=h;have e0:a0=b0:=q2f h0;have e1:a1=b1:=q2f h1;rw[e0,e1]
def qj3(x:Claim):List Lv:=[.i .i64 x.Topic,.i .i64 x.Value]
def q8q:List Lv->Option Claim|[.i .i64 a0,.i .i64 a1]=>some (Claim.mk a0 a1)|_=>none
theorem y7v(cs:List Lv)(x:Claim)(h:q8q cs=some x):qj3 x=cs:=by
 unfold q8q at h;split at h;·cases h;rfl
 .cases h
def qdm(x:List (Claim)):D:=.list (x.map q0h)
theorem qug(x y:List (Claim))(h:qdm x=qdm y):x=y:=q17 q4p h
def qfn(x:List (Claim)):List Lv:=[.l .Claim x]
def qac:List Lv->Option (List (Claim))|[x]=>asL .Claim x|_=>none
theorem qzk:∀(cs:List Lv)(x:List (Claim)),qac cs=some x->qfn x=cs|[y],x,h=>by rw[q2n (c:=.Claim) (x:=y) (xs:=x) h];rfl|[],x,h=>by have h':(none:Option (List (Claim)))=some x:=h;cases h'|_::_::_,x,h=>by have h':(none:Option (List (Claim)))=some x:=h;cases h'
def qik(x:Tape):D:=.agg [.list (((x.l)).map q23),.v (.int .i64 (x.at_))]
theorem y61:∀x y:Tape,qik x=qik y->x=y|⟨a0,a1⟩,⟨b0,b1⟩,h=>by simp only[qik,D.agg.injEq,List.cons.injEq,and_true]at h;obtain⟨h0,h1⟩:=h;have e0:a0=b0:=q17 q9i h0;have e1:a1=b1:=q2f h1;rw[e0,e1]
def qm2(x:Tape):List Lv:=[.l .i64 x.l,.i .i64 x.at_]
def qab:List Lv->Option Tape
 |[l0,.i .i64 a1]=>match asL .i64 l0 with|some m0=>some (Tape.mk m0 a1)|_=>none
 |_=>none
theorem yd0(cs:List Lv)(x:Tape)(h:qab cs=some x):qm2 x=cs:=by
 unfold qab at h;split at h
 .split at h;·rename_i m0 h0;cases q2n h0;cases h;rfl
  .cases h
 .cases h
mutual
def q0z : Trust -> D
 | ⟨a0, a1, a2⟩ => .agg [.v (.int .i64 a0), .list ((a1).map q23), .list (q3r a2)]
def q3r : LT -> List D
 | [] => []
 | x :: r => q0z x :: q3r r
end
theorem q2w:∀l:LT,q3r l=l.map q0z|[]=>rfl|x::r=>by simp only[q3r,q2w r,List.map_cons]
mutual
theorem q5t : ∀ x y : Trust, q0z x = q0z y -> x = y
 | ⟨a0, a1, a2⟩, ⟨b0, b1, b2⟩, h => by
  simp only [q0z, D.agg.injEq, List.cons.injEq, and_true] at h;obtain ⟨h0, h1, h2⟩ := h;have e0 : a0 = b0 := q2f h0;have e1 : a1 = b1 := q17 q9i h1;have e2 : a2 = b2 := qlu _ _ (D.list.inj h2);rw [e0, e1, e2]
theorem qlu : ∀ x y : LT, q3r x = q3r y -> x = y
 | [], [], _ => rfl
 | [], _ :: _, h => by simp [q3r] at h
 | _ :: _, [], h => by simp [q3r] at h
 | x :: r, y :: r', h => by
  simp only [q3r, List.cons.injEq] at h;rw [q5t x y h.1, qlu r r' h.2]
end
def qcu(x:Trust):List Lv:=[.i .i64 x.Threshold,.l .i64 x.Nodes,.l .Trust x.Inner]
def q9c:List Lv->Option Trust
 |[.i .i64 a0,l1,l2]=>match asL .i64 l1,asL .Trust l2 with|some m1,some m2=>some (Trust.mk a0 m1 m2)|_,_=>none
 |_=>none
theorem y6l(cs:List Lv)(x:Trust)(h:q9c cs=some x):qcu x=cs:=by
 unfold q9c at h;split at h
 .split at h;·rename_i m1 m2 h1 h2;cases q2n h1;cases q2n h2;cases h;rfl
  .cases h
 .cases h
def q41(x:List (Trust)):D:=.list (x.map q0z)
theorem qva(x y:List (Trust))(h:q41 x=q41 y):x=y:=q17 q5t h
def qev(x:List (Trust)):List Lv:=[.l .Trust x]
def qb6:List Lv->Option (List (Trust))|[x]=>asL .Trust x|_=>none
theorem qzf:∀(cs:List Lv)(x:List (Trust)),qb6 cs=some x->qev x=cs|[y],x,h=>by rw[q2n (c:=.Trust) (x:=y) (xs:=x) h];rfl|[],x,h=>by have h':(none:Option (List (Trust)))=some x:=h;cases h'|_::_::_,x,h=>by have h':(none:Option (List (Trust)))=some x:=h;cases h'
def q1d(x:Message):D:=.agg [.v (.int .i64 (x.Node)),.v (.int .i64 (x.Seq)),.v (.int .i64 (x.Trust.Threshold)),.list (((x.Trust.Nodes)).map q23),.list (((x.Trust.Inner)).map q0z),.list (((x.Votes)).map q0h),.list (((x.Accepts)).map q0h)]
theorem qd0:∀x y:Message,q1d x=q1d y->x=y|⟨a0,a1,⟨a2,a3,a4⟩,a5,a6⟩,⟨b0,b1,⟨b2,b3,b4⟩,b5,b6⟩,h=>by simp only[q1d,D.agg.injEq,List.cons.injEq,and_true]at h;obtain⟨h0,h1,h2,h3,h4,h5,h6⟩:=h;have e0:a0=b0:=q2f h0;have e1:a1=b1:=q2f h1;have e2:a2=b2:=q2f h2;have e3:a3=b3:=q17 q9i h3;have e4:a4=b4:=q17 q5t h4;have e5:a5=b5:=q17 q4p h5;have e6:a6=b6:=q17 q4p h6;rw[e0,e1,e2,e3,e4,e5,e6]
def qey(x:Message):List Lv:=[.i .i64 x.Node,.i .i64 x.Seq,.i .i64 x.Trust.Threshold,.l .i64 x.Trust.Nodes,.l .Trust x.Trust.Inner,.l .Claim x.Votes,.l .Claim x.Accepts]
def q6o:List Lv->Option Message
 |[.i .i64 a0,.i .i64 a1,.i .i64 a2,l3,l4,l5,l6]=>match asL .i64 l3,asL .Trust l4,asL .Claim l5,asL .Claim l6 with|some m3,some m4,some m5,some m6=>some (Message.mk a0 a1 (Trust.mk a2 m3 m4) m5 m6)|_,_,_,_=>none
 |_=>none
theorem y0b(cs:List Lv)(x:Message)(h:q6o cs=some x):qey x=cs:=by
 unfold q6o at h;split at h
 .split at h;·rename_i m3 m4 m5 m6 h3 h4 h5 h6;cases q2n h3;cases q2n h4;cases q2n h5;cases q2n h6;cases h;rfl
  .cases h
 .cases h
def q9h(x:List (Message)):D:=.list (x.map q1d)
theorem qou(x y:List (Message))(h:q9h x=q9h y):x=y:=q17 qd0 h
def qbi(x:List (Message)):List Lv:=[.l .Message x]
def q80:List Lv->Option (List (Message))|[x]=>asL .Message x|_=>none
theorem qsy:∀(cs:List Lv)(x:List (Message)),q80 cs=some x->qbi x=cs|[y],x,h=>by rw[q2n (c:=.Message) (x:=y) (xs:=x) h];rfl|[],x,h=>by have h':(none:Option (List (Message)))=some x:=h;cases h'|_::_::_,x,h=>by have h':(none:Option (List (Message)))=some x:=h;cases h'
def q1o(x:Member):D:=.agg [.v (.bool (x.Declared)),.v (.int .i64 (x.Trust.Threshold)),.list (((x.Trust.Nodes)).map q23),.list (((x.Trust.Inner)).map q0z)]
theorem qfr:∀x y:Member,q1o x=q1o y->x=y|⟨a0,⟨a1,a2,a3⟩⟩,⟨b0,⟨b1,b2,b3⟩⟩,h=>by simp only[q1o,D.agg.injEq,List.cons.injEq,and_true]at h;obtain⟨h0,h1,h2,h3⟩:=h;have e0:a0=b0:=qvv h0;have e1:a1=b1:=q2f h1;have e2:a2=b2:=q17 q9i h2;have e3:a3=b3:=q17 q5t h3;rw[e0,e1,e2,e3]
def qhx(x:Member):List Lv:=[.b x.Declared,.i .i64 x.Trust.Threshold,.l .i64 x.Trust.Nodes,.l .Trust x.Trust.Inner]
def q7p:List Lv->Option Member
 |[.b a0,.i .i64 a1,l2,l3]=>match asL .i64 l2,asL .Trust l3 with|some m2,some m3=>some (Member.mk a0 (Trust.mk a1 m2 m3))|_,_=>none
 |_=>none
theorem y1p(cs:List Lv)(x:Member)(h:q7p cs=some x):qhx x=cs:=by
 unfold q7p at h;split at h
 .split at h;·rename_i m2 m3 h2 h3;cases q2n h2;cases q2n h3;cases h;rfl
  .cases h
 .cases h
def qbj(x:List (Member)):D:=.list (x.map q1o)
theorem qrw(x y:List (Member))(h:qbj x=qbj y):x=y:=q17 qfr h
def qcd(x:List (Member)):List Lv:=[.l .Member x]
def q9p:List Lv->Option (List (Member))|[x]=>asL .Member x|_=>none
theorem quv:∀(cs:List Lv)(x:List (Member)),q9p cs=some x->qcd x=cs|[y],x,h=>by rw[q2n (c:=.Member) (x:=y) (xs:=x) h];rfl|[],x,h=>by have h':(none:Option (List (Member)))=some x:=h;cases h'|_::_::_,x,h=>by have h':(none:Option (List (Member)))=some x:=h;cases h'
def q1l(x:Play):D:=.agg [.v (.int .i64 (x.Kind)),.v (.int .i64 (x.From)),.v (.int .i64 (x.To)),.v (.int .i64 (x.Claim.Topic)),.v (.int .i64 (x.Claim.Value)),.v (.int .i64 (x.Trust.Threshold)),.list (((x.Trust.Nodes)).map q23),.list (((x.Trust.Inner)).map q0z),.v (.int .i64 (x.Message.Node)),.v (.int .i64 (x.Message.Seq)),.v (.int .i64 (x.Message.Trust.Threshold)),.list (((x.Message.Trust.Nodes)).map q23),.list (((x.Message.Trust.Inner)).map q0z),.list (((x.Message.Votes)).map q0h),.list (((x.Message.Accepts)).map q0h)]
theorem qy0:∀x y:Play,q1l x=q1l y->x=y|⟨a0,a1,a2,⟨a3,a4⟩,⟨a5,a6,a7⟩,⟨a8,a9,⟨a10,a11,a12⟩,a13,a14⟩⟩,⟨b0,b1,b2,⟨b3,b4⟩,⟨b5,b6,b7⟩,⟨b8,b9,⟨b10,b11,b12⟩,b13,b14⟩⟩,h=>by simp only[q1l,D.agg.injEq,List.cons.injEq,and_true]at h;obtain⟨h0,h1,h2,h3,h4,h5,h6,h7,h8,h9,h10,h11,h12,h13,h14⟩:=h;have e0:a0=b0:=q2f h0;have e1:a1=b1:=q2f h1;have e2:a2=b2:=q2f h2;have e3:a3=b3:=q2f h3;have e4:a4=b4:=q2f h4;have e5:a5=b5:=q2f h5;have e6:a6=b6:=q17 q9i h6;have e7:a7=b7:=q17 q5t h7;have e8:a8=b8:=q2f h8;have e9:a9=b9:=q2f h9;have e10:a10=b10:=q2f h10;have e11:a11=b11:=q17 q9i h11;have e12:a12=b12:=q17 q5t h12;have e13:a13=b13:=q17 q4p h13;have e14:a14=b14:=q17 q4p h14;rw[e0,e1,e2,e3,e4,e5,e6,e7,e8,e9,e10,e11,e12,e13,e14]
def qge(x:Play):List Lv:=[.i .i64 x.Kind,.i .i64 x.From,.i .i64 x.To,.i .i64 x.Claim.Topic,.i .i64 x.Claim.Value,.i .i64 x.Trust.Threshold,.l .i64 x.Trust.Nodes,.l .Trust x.Trust.Inner,.i .i64 x.Message.Node,.i .i64 x.Message.Seq,.i .i64 x.Message.Trust.Threshold,.l .i64 x.Message.Trust.Nodes,.l .Trust x.Message.Trust.Inner,.l .Claim x.Message.Votes,.l .Claim x.Message.Accepts]
def qao:List Lv->Option Play
 |[.i .i64 a0,.i .i64 a1,.i .i64 a2,.i .i64 a3,.i .i64 a4,.i .i64 a5,l6,l7,.i .i64 a8,.i .i64 a9,.i .i64 a10,l11,l12,l13,l14]=>match asL .i64 l6,asL .Trust l7,asL .i64 l11,asL .Trust l12,asL .Claim l13,asL .Claim l14 with|some m6,some m7,some m11,some m12,some m13,some m14=>some (Play.mk a0 a1 a2 (Claim.mk a3 a4) (Trust.mk a5 m6 m7) (Message.mk a8 a9 (Trust.mk a10 m11 m12) m13 m14))|_,_,_,_,_,_=>none
 |_=>none
theorem ycd(cs:List Lv)(x:Play)(h:qao cs=some x):qge x=cs:=by
 unfold qao at h;split at h
 .split at h;·rename_i m6 m7 m11 m12 m13 m14 h6 h7 h11 h12 h13 h14;cases q2n h6;cases q2n h7;cases q2n h11;cases q2n h12;cases q2n h13;cases q2n h14;cases h;rfl
  .cases h
 .cases h
def q39(x:Voter):D:=.agg [.v (.int .i64 (x.Node)),.v (.int .i64 (x.Seq)),.v (.int .i64 (x.Trust.Threshold)),.list (((x.Trust.Nodes)).map q23),.list (((x.Trust.Inner)).map q0z),.list (((x.Votes)).map q0h),.list (((x.Accepts)).map q0h),.list (((x.Confirms)).map q0h),.list (((x.Heard)).map q1d)]
theorem qk5:∀x y:Voter,q39 x=q39 y->x=y|⟨a0,a1,⟨a2,a3,a4⟩,a5,a6,a7,a8⟩,⟨b0,b1,⟨b2,b3,b4⟩,b5,b6,b7,b8⟩,h=>by simp only[q39,D.agg.injEq,List.cons.injEq,and_true]at h;obtain⟨h0,h1,h2,h3,h4,h5,h6,h7,h8⟩:=h;have e0:a0=b0:=q2f h0;have e1:a1=b1:=q2f h1;have e2:a2=b2:=q2f h2;have e3:a3=b3:=q17 q9i h3;have e4:a4=b4:=q17 q5t h4;have e5:a5=b5:=q17 q4p h5;have e6:a6=b6:=q17 q4p h6;have e7:a7=b7:=q17 q4p h7;have e8:a8=b8:=q17 qd0 h8;rw[e0,e1,e2,e3,e4,e5,e6,e7,e8]
def qiu(x:Voter):List Lv:=[.i .i64 x.Node,.i .i64 x.Seq,.i .i64 x.Trust.Threshold,.l .i64 x.Trust.Nodes,.l .Trust x.Trust.Inner,.l .Claim x.Votes,.l .Claim x.Accepts,.l .Claim x.Confirms,.l .Message x.Heard]
def q8r:List Lv->Option Voter
 |[.i .i64 a0,.i .i64 a1,.i .i64 a2,l3,l4,l5,l6,l7,l8]=>match asL .i64 l3,asL .Trust l4,asL .Claim l5,asL .Claim l6,asL .Claim l7,asL .Message l8 with|some m3,some m4,some m5,some m6,some m7,some m8=>some (Voter.mk a0 a1 (Trust.mk a2 m3 m4) m5 m6 m7 m8)|_,_,_,_,_,_=>none
 |_=>none
theorem y6d(cs:List Lv)(x:Voter)(h:q8r cs=some x):qiu x=cs:=by
 unfold q8r at h;split at h
 .split at h;·rename_i m3 m4 m5 m6 m7 m8 h3 h4 h5 h6 h7 h8;cases q2n h3;cases q2n h4;cases q2n h5;cases q2n h6;cases q2n h7;cases q2n h8;cases h;rfl
  .cases h
 .cases h
def qd7(x:List (Voter)):D:=.list (x.map q39)
theorem qti(x y:List (Voter))(h:qd7 x=qd7 y):x=y:=q17 qk5 h
def qee(x:List (Voter)):List Lv:=[.l .Voter x]
def qah:List Lv->Option (List (Voter))|[x]=>asL .Voter x|_=>none
theorem qz0:∀(cs:List Lv)(x:List (Voter)),qah cs=some x->qee x=cs|[y],x,h=>by rw[q2n (c:=.Voter) (x:=y) (xs:=x) h];rfl|[],x,h=>by have h':(none:Option (List (Voter)))=some x:=h;cases h'|_::_::_,x,h=>by have h':(none:Option (List (Voter)))=some x:=h;cases h'
def qgl(x:List (Play)):D:=.list (x.map q1l)
theorem y0a(x y:List (Play))(h:qgl x=qgl y):x=y:=q17 qy0 h
def qh4(x:List (Play)):List Lv:=[.l .Play x]
def qce:List Lv->Option (List (Play))|[x]=>asL .Play x|_=>none
theorem y4f:∀(cs:List Lv)(x:List (Play)),qce cs=some x->qh4 x=cs|[y],x,h=>by rw[q2n (c:=.Play) (x:=y) (xs:=x) h];rfl|[],x,h=>by have h':(none:Option (List (Play)))=some x:=h;cases h'|_::_::_,x,h=>by have h':(none:Option (List (Play)))=some x:=h;cases h'
def q3q(x:Config):D:=.agg [.list (((x.Members)).map q1o)]
theorem qyw:∀x y:Config,q3q x=q3q y->x=y|⟨a0⟩,⟨b0⟩,h=>by simp only[q3q,D.agg.injEq,List.cons.injEq,and_true]at h;have h0:=h;have e0:a0=b0:=q17 qfr h0;rw[e0]
def qa4(x:Config):List Lv:=[.l .Member x.Members]
def q7r:List Lv->Option Config
 |[l0]=>match asL .Member l0 with|some m0=>some (Config.mk m0)|_=>none
 |_=>none
theorem y18(cs:List Lv)(x:Config)(h:q7r cs=some x):qa4 x=cs:=by
 unfold q7r at h;split at h
 .split at h;·rename_i m0 h0;cases q2n h0;cases h;rfl
  .cases h
 .cases h
def q2y(x:Meeting):D:=.agg [.list (((x.Voters)).map q39),.v (.int .i64 (x.Stopped)),.v (.int .i64 (x.Ill))]
theorem qto:∀x y:Meeting,q2y x=q2y y->x=y|⟨a0,a1,a2⟩,⟨b0,b1,b2⟩,h=>by simp only[q2y,D.agg.injEq,List.cons.injEq,and_true]at h;obtain⟨h0,h1,h2⟩:=h;have e0:a0=b0:=q17 qk5 h0;have e1:a1=b1:=q2f h1;have e2:a2=b2:=q2f h2;rw[e0,e1,e2]
def q91(x:Meeting):List Lv:=[.l .Voter x.Voters,.i .i64 x.Stopped,.i .i64 x.Ill]
def q6u:List Lv->Option Meeting
 |[l0,.i .i64 a1,.i .i64 a2]=>match asL .Voter l0 with|some m0=>some (Meeting.mk m0 a1 a2)|_=>none
 |_=>none
theorem qzw(cs:List Lv)(x:Meeting)(h:q6u cs=some x):q91 x=cs:=by
 unfold q6u at h;split at h
 .split at h;·rename_i m0 h0;cases q2n h0;cases h;rfl
  .cases h
 .cases h
def encT:(c:TC)->Ty c->D|.i64=>q23|.b=>enc_b|.l_i64=>qix|.Claim=>q0h|.l_Claim=>qdm|.Tape=>qik|.Trust=>q0z|.l_Trust=>q41|.Message=>q1d|.l_Message=>q9h|.Member=>q1o|.l_Member=>qbj|.Play=>q1l|.Voter=>q39|.l_Voter=>qd7|.l_Play=>qgl|.Config=>q3q|.Meeting=>q2y
def ydp:(c:TC)->Ty c->List Lv|.i64=>qr4|.b=>y3d|.l_i64=>qjy|.Claim=>qj3|.l_Claim=>qfn|.Tape=>qm2|.Trust=>qcu|.l_Trust=>qev|.Message=>qey|.l_Message=>qbi|.Member=>qhx|.l_Member=>qcd|.Play=>qge|.Voter=>qiu|.l_Voter=>qee|.l_Play=>qh4|.Config=>qa4|.Meeting=>q91
def y7k:(c:TC)->List Lv->Option (Ty c)|.i64=>qdd|.b=>qj0|.l_i64=>qdp|.Claim=>q8q|.l_Claim=>qac|.Tape=>qab|.Trust=>q9c|.l_Trust=>qb6|.Message=>q6o|.l_Message=>q80|.Member=>q7p|.l_Member=>q9p|.Play=>qao|.Voter=>q8r|.l_Voter=>qah|.l_Play=>qce|.Config=>q7r|.Meeting=>q6u
def aggF:TC->Bool|.i64=>false|.b=>false|.l_i64=>false|.Claim=>true|.l_Claim=>false|.Tape=>true|.Trust=>true|.l_Trust=>false|.Message=>true|.l_Message=>false|.Member=>true|.l_Member=>false|.Play=>true|.Voter=>true|.l_Voter=>false|.l_Play=>false|.Config=>true|.Meeting=>true
def sizeF:TC->Nat|.i64=>1|.b=>1|.l_i64=>1|.Claim=>2|.l_Claim=>1|.Tape=>2|.Trust=>3|.l_Trust=>1|.Message=>7|.l_Message=>1|.Member=>4|.l_Member=>1|.Play=>15|.Voter=>9|.l_Voter=>1|.l_Play=>1|.Config=>1|.Meeting=>3
def y4g:List (TypeId×TC×TypeId):=[(22,.i64,3),(25,.Member,111),(28,.Play,70),(31,.Voter,59),(34,.i64,35),(44,.Meeting,33),(51,.Claim,66),(54,.Trust,56),(57,.Message,68),(83,.Config,27),(85,.l_Play,28),(86,.l_Trust,54),(212,.l_Claim,51)]
def y7t:List (TypeId×List (Option TC)):=[(22,[some .i64]),(25,[some .Member]),(26,[some .Member]),(27,[some .Member]),(28,[some .Play]),(31,[some .Voter]),(32,[some .Voter,none,none]),(33,[some .Voter,none,none]),(34,[some .i64]),(44,[some .Meeting]),(51,[some .Claim]),(54,[some .Trust]),(55,[none,some .i64,some .Trust]),(56,[none,some .i64,some .Trust]),(57,[some .Message]),(58,[none,none,none,some .i64,some .Trust,some .Claim,some .Claim,some .Claim,some .Message]),(59,[none,none,none,some .i64,some .Trust,some .Claim,some .Claim,some .Claim,some .Message]),(67,[none,none,none,some .i64,some .Trust,some .Claim,some .Claim]),(68,[none,none,none,some .i64,some .Trust,some .Claim,some .Claim]),(69,[none,none,none,none,none,none,some .i64,some .Trust,none,none,none,some .i64,some .Trust,some .Claim,some .Claim]),(70,[none,none,none,none,none,none,some .i64,some .Trust,none,none,none,some .i64,some .Trust,some .Claim,some .Claim]),(83,[some .Config]),(85,[some .l_Play]),(86,[some .l_Trust]),(95,[some .i64,none]),(96,[some .i64,none]),(110,[none,none,some .i64,some .Trust]),(111,[none,none,some .i64,some .Trust]),(144,[some .Voter,none,none,some .Play]),(145,[some .Voter,none,none,some .Play]),(212,[some .l_Claim])]
def elemF:List (TypeId×TC×TypeId)->TypeId->Option TC|[],_=>none|(u,c,_)::r,t=>if u=t then some c else elemF r t
def sig:Sig:={TC:=TC,Ty:=Ty,enc:=encT,cells:=ydp,ofCells:=y7k,agg:=aggF,size:=sizeF,elem:=elemF y4g,lists:=look1 [] y7t}
theorem qwe(P:Program):∀(tab:List (TypeId×TC×TypeId)),(tab.all fun p=>q2m P p.1==some p.2.2&&tyAgg P p.2.2==some (aggF p.2.1)&&q0p P p.2.2==some (sizeF p.2.1))=true->∀t c,elemF tab t=some c->∃e,q2m P t=some e/\tyAgg P e=some (aggF c)/\q0p P e=some (sizeF c)
 |[],_,_,_,h=>by cases h|(u,d,e)::r,ha,t,c,h=>by
  simp only[List.all_cons,aT,beq_iff_eq]at ha;simp only[elemF]at h;split at h;·rename_i hu;cases h;subst hu;exact⟨e,ha.1.1.1,ha.1.1.2,ha.1.2⟩
  .exact qwe P r ha.2 t c h
theorem qvf(x:Trust):sig.enc .Trust x=(packT (S:=sig) true (qcu x)).toD:=by cases x;show q0z _=_;simp only[q0z,q2w];rfl
theorem sigOk:sig.Ok Tryz.prog where
 enc_eq:=fun c x=>by cases c<;>first|rfl|exact qvf x
 of_eq:=fun c cs x h=>by
  have:sig.cells c x=cs:=by
   cases c;·exact yii cs x h
   .exact of_b cs x h
   .exact y6m cs x h
   .exact y7v cs x h
   .exact qzk cs x h
   .exact yd0 cs x h
   .exact y6l cs x h
   .exact qzf cs x h
   .exact y0b cs x h
   .exact qsy cs x h
   .exact y1p cs x h
   .exact quv cs x h
   .exact ycd cs x h
   .exact y6d cs x h
   .exact qz0 cs x h
   .exact y4f cs x h
   .exact y18 cs x h
   .exact qzw cs x h
  rw[this]
 inj:=fun c x y h=>by
  cases c;·exact q9i x y h
  .exact inj_b x y h
  .exact y0m x y h
  .exact q4p x y h
  .exact qug x y h
  .exact y61 x y h
  .exact q5t x y h
  .exact qva x y h
  .exact qd0 x y h
  .exact qou x y h
  .exact qfr x y h
  .exact qrw x y h
  .exact qy0 x y h
  .exact qk5 x y h
  .exact qti x y h
  .exact y0a x y h
  .exact qyw x y h
  .exact qto x y h
 len:=fun c x=>by cases c<;>rfl
 pos:=fun c=>by cases c<;>decide
 one:=fun c h=>by cases c<;>first|rfl|cases h
 elem:=qwe Tryz.prog y4g (by kernel_rfl)
def yeo:List (Nat×List (OT sig)):=[(9,[.lf .b]),(36,[.lf .b]),(18,[.lf .b]),(37,[.lf .b]),(38,[.lf .b]),(11,[.ptr 0 0]),(25,[.ag .Config]),(26,[.lf (.i .i64)]),(27,[.ref 1]),(67,[.ag .Config]),(13,[.ag .Meeting,.lf (.l .i64),.lf (.i .i64)]),(28,[.lf .b]),(70,[.ref 1,.ref 1]),(56,[.lf (.i .i64)]),(41,[.ag .Meeting,.lf (.i .i64)]),(87,[.lf (.i .i64)]),(29,[.lf (.i .i64)]),(91,[.lf (.i .i64)]),(39,[.ag .Play]),(40,[.ag .Config]),(88,[.ag .Claim]),(89,[.ag .Trust]),(90,[.ag .Message]),(73,[.lf (.l .Claim)]),(83,[.lf (.i .i64)]),(84,[.lf .b]),(85,[.lf .b]),(86,[.lf .b]),(134,[.lf .b]),(71,[.lf (.i .i64)]),(72,[.ag .Trust]),(125,[.ag .Trust]),(128,[.lf (.i .i64)]),(129,[.lf (.i .i64)]),(174,[.ag .Trust]),(82,[.lf (.i .i64)]),(213,[.lf (.l .i64)]),(133,[.lf (.i .i64)]),(57,[.ag .Meeting,.lf (.i .i64)]),(58,[.ag .Meeting]),(113,[.lf (.i .i64)]),(114,[.lf (.i .i64),.ag .Voter,.lf (.i .i64)]),(115,[.ref 0]),(51,[.lf .b]),(162,[.lf .b]),(92,[.lf .b]),(163,[.ag .Voter,.lf (.i .i64)]),(165,[.ag .Message]),(164,[.ag .Voter,.lf (.i .i64)]),(137,[.lf (.i .i64)]),(106,[.lf .b]),(166,[.ag .Voter,.lf (.i .i64)]),(151,[.lf .b]),(136,[.lf .b]),(105,[.lf .b]),(189,[.lf .b]),(143,[.lf .b]),(150,[.lf .b]),(200,[.ag .Voter]),(201,[.lf (.l .Claim)]),(202,[.ag .Voter]),(155,[.ag .Message]),(208,[.ag .Message]),(203,[.lf (.i .i64),.lf .b]),(206,[.ref 0]),(207,[.lf (.l .Message)]),(179,[.lf (.i .i64)]),(180,[.lf (.i .i64)]),(181,[.lf (.i .i64)]),(152,[.lf (.i .i64)]),(194,[.lf .b]),(192,[.lf .b]),(147,[.lf .b]),(178,[.lf .b]),(148,[.lf .b]),(188,[.lf (.i .i64)]),(191,[.lf .b]),(138,[.ag .Trust]),(116,[.ref 0]),(228,[.lf (.l .Claim)]),(229,[.ag .Voter]),(156,[.lf .b]),(214,[.lf .b]),(216,[.lf (.i .i64),.lf (.i .i64)]),(221,[.lf .b]),(222,[.lf .b]),(220,[.lf (.i .i64)]),(139,[.ref 0]),(242,[.ref 0]),(241,[.lf (.l .Claim)]),(243,[.ag .Config]),(244,[.ag .Claim,.lf .b]),(234,[.lf (.i .i64)]),(251,[.ref 0]),(253,[]),(254,[.lf (.l .Claim)]),(257,[.lf (.l .Claim)]),(126,[.ag .Trust]),(127,[.ag .Trust]),(93,[.ag .Trust]),(94,[.ag .Voter,.lf (.i .i64)]),(135,[.lf (.i .i64)]),(177,[.lf .b]),(43,[.ag .Meeting,.lf (.l .i64),.lf (.i .i64)]),(42,[.ag .Meeting,.lf (.i .i64)]),(35,[.lf (.i .i64)]),(24,[.lf (.l .Claim)]),(176,[.lf (.i .i64),.lf (.i .i64)]),(96,[.ag .Trust]),(107,[.lf .b]),(153,[.lf (.i .i64)]),(204,[.lf (.i .i64)]),(205,[.lf (.i .i64)]),(230,[.lf .b]),(193,[.lf .b]),(190,[.lf (.i .i64)]),(219,[.lf (.i .i64)]),(199,[.lf .b]),(146,[.lf .b]),(149,[.lf .b]),(256,[.ag .Trust]),(259,[.lf (.i .i64)]),(246,[.lf (.i .i64)]),(258,[.lf .b]),(260,[.lf (.i .i64)]),(268,[.lf .b]),(225,[.lf (.i .i64)]),(249,[.lf (.i .i64)]),(265,[.lf .b]),(239,[.lf (.i .i64),.lf (.l .i64)]),(215,[.lf .b]),(252,[.lf .b]),(31,[.lf .b]),(48,[.ag .Meeting,.lf (.i .i64)]),(49,[.ag .Meeting,.lf (.i .i64)]),(50,[.lf (.i .i64),.lf (.i .i64),.lf .b]),(17,[.lf (.i .i64),.lf (.i .i64),.lf .b]),(32,[.lf .b]),(52,[.lf .b]),(14,[.ag .Meeting,.lf (.i .i64)]),(53,[.ag .Meeting,.lf (.i .i64)]),(103,[.lf (.l .i64)]),(109,[.lf .b]),(34,[.lf .b]),(95,[.ag .Voter,.lf (.i .i64)]),(81,[.lf .b]),(33,[.lf .b]),(79,[.lf (.i .i64)]),(80,[.lf .b]),(117,[.ag .Message]),(108,[.lf .b]),(245,[.lf .b]),(269,[.lf (.l .Claim)]),(261,[.lf (.l .Claim)]),(238,[.lf (.i .i64),.lf .b]),(44,[.lf (.l .l_Trust),.lf (.i .i64)]),(45,[.lf (.l .l_Trust),.lf (.i .i64)]),(46,[.lf .b]),(47,[.lf .b]),(77,[.lf .b]),(23,[.lf .b]),(78,[.lf .b]),(132,[.lf .b]),(22,[.lf .b]),(59,[.ag .Meeting,.lf .b]),(110,[.lf .b]),(154,[.lf .b]),(157,[.lf .b]),(250,[.lf .b]),(131,[.lf .b]),(104,[.lf .b]),(140,[.lf .b]),(175,[.lf (.i .i64)]),(97,[.ag .Voter,.lf (.i .i64)]),(99,[.ag .Message]),(98,[.ag .Voter,.lf (.i .i64)]),(101,[.lf .b]),(21,[.lf (.l .Claim)]),(144,[.lf .b]),(66,[.lf .b]),(102,[.ag .Meeting]),(100,[.ag .Voter,.lf (.i .i64)]),(142,[.ag .Voter]),(141,[.lf (.l .Claim)]),(145,[.lf .b]),(182,[.lf (.l .Claim)]),(184,[.lf (.l .Message)]),(183,[.lf .b]),(186,[.ag .Config]),(187,[.lf (.i .i64)]),(185,[.lf .b]),(75,[.lf (.i .i64)]),(130,[.lf (.l .i64)]),(218,[.lf (.i .i64)]),(217,[.lf .b]),(235,[.lf .b]),(120,[.lf .b]),(20,[.lf (.l .i64)])]
def yco:List (Nat×List (List (OT sig))):=[(11,[[.lf (.l .i64),.lf (.i .i64)]]),(27,[[.own .Play false]]),(70,[[.own .Member false]]),(115,[[.own .Voter false]]),(206,[[.own .Message false]]),(116,[[.own .Claim false]]),(139,[[.own .i64 false]]),(242,[[.own .Claim false]])]
noncomputable def tn:TEn:={E:=env,S:=sig,res:=look1 [] yeo,news:=look1 [] yco,outs:=fun f=>if List.contains [207,254] f then some [[.undef]]else none,cut:=fun f id=>List.contains [(49,5),(49,8),(49,17),(49,35),(49,40)] (f,id)}
def qe8(fn:Func):Code:=match fn.body with|some c=>c|none=>.skip
def q08(fn:Func)(p:List Nat):Code:=qld p (qe8 fn)
def yea(fn:Func)(p ms:List Nat):List Fr:=qki p (qe8 fn) ms []
abbrev o0':OSpec sig:=⟨[.lf .b],[]⟩
abbrev o1':OSpec sig:=⟨[.lf (.i .i64)],[]⟩
abbrev o2':OSpec sig:=⟨[.ag .Meeting,.lf (.i .i64)],[]⟩
abbrev o3':OSpec sig:=⟨[.lf (.l .Claim)],[]⟩
abbrev o4':OSpec sig:=⟨[.ag .Trust],[[.lf (.l .i64),.lf (.i .i64)]]⟩
abbrev o5':OSpec sig:=⟨[.ag .Voter],[]⟩
abbrev o6':OSpec sig:=⟨[.ag .Voter,.lf (.i .i64)],[]⟩
abbrev o7':OSpec sig:=⟨[.lf (.i .i64),.lf (.i .i64),.lf .b],[]⟩
abbrev o8':OSpec sig:=⟨[.lf (.l .i64)],[]⟩
abbrev o9':OSpec sig:=⟨[.ag .Trust],[]⟩
abbrev o10':OSpec sig:=⟨[.ag .Config],[[.lf (.l .i64),.lf (.i .i64)]]⟩
abbrev o11':OSpec sig:=⟨[.lf (.i .i64)],[[.lf (.l .i64),.lf (.i .i64)]]⟩
abbrev o12':OSpec sig:=⟨[.ag .Config],[]⟩
abbrev o13':OSpec sig:=⟨[.ag .Message],[]⟩
abbrev o14':OSpec sig:=⟨[.ag .Meeting,.lf (.l .i64),.lf (.i .i64)],[]⟩
abbrev o15':OSpec sig:=⟨[.ag .Meeting],[]⟩
abbrev o16':OSpec sig:=⟨[.lf .b],[[.lf (.i .i64),.lf (.i .i64)]]⟩
abbrev o17':OSpec sig:=⟨[.lf (.i .i64),.lf .b],[]⟩
abbrev o18':OSpec sig:=⟨[.lf .b],[[.lf (.i .i64),.lf (.i .i64),.lf (.i .i64),.lf (.l .i64),.lf (.l .Trust),.lf (.l .Claim),.lf (.l .Claim),.lf (.l .Claim),.lf (.l .Message)]]⟩
abbrev o19':OSpec sig:=⟨[.lf (.i .i64)],[[.lf (.i .i64),.lf (.i .i64)]]⟩
abbrev o20':OSpec sig:=⟨[.lf (.i .i64),.lf (.i .i64)],[]⟩
abbrev o21':OSpec sig:=⟨[.lf (.i .i64)],[[.lf (.i .i64),.lf (.i .i64),.lf (.i .i64),.lf (.l .i64),.lf (.l .Trust),.lf (.l .Claim),.lf (.l .Claim),.lf (.l .Claim),.lf (.l .Message)]]⟩
abbrev o22':OSpec sig:=⟨[.ref 1],[[.lf (.l .i64),.lf (.i .i64)],[.own .Play false]]⟩
abbrev o23':OSpec sig:=⟨[.lf (.l .i64)],[[.lf (.l .i64),.lf (.i .i64)]]⟩
abbrev o24':OSpec sig:=⟨[.ag .Meeting,.lf .b],[]⟩
abbrev o25':OSpec sig:=⟨[.ref 0],[[.own .Claim false]]⟩
abbrev o26':OSpec sig:=⟨[.ref 1,.ref 1],[[.lf (.l .i64),.lf (.i .i64)],[.own .Member false]]⟩
abbrev o27':OSpec sig:=⟨[.lf (.l .Claim)],[[.lf (.l .i64),.lf (.i .i64)]]⟩
abbrev o28':OSpec sig:=⟨[.ag .Claim,.lf .b],[]⟩
abbrev o29':OSpec sig:=⟨[.lf (.i .i64)],[[.own .Claim false]]⟩
abbrev o30':OSpec sig:=⟨[.lf .b],[[.lf (.i .i64)]]⟩
abbrev o31':OSpec sig:=⟨[.lf (.i .i64)],[[.lf (.i .i64)]]⟩
abbrev o32':OSpec sig:=⟨[.lf (.i .i64),.lf (.l .i64)],[]⟩
abbrev o33':OSpec sig:=⟨[.ptr 0 0],[[.lf (.l .i64),.lf (.i .i64)]]⟩
abbrev o34':OSpec sig:=⟨[.ag .Play],[[.lf (.l .i64),.lf (.i .i64)]]⟩
abbrev o35':OSpec sig:=⟨[.ag .Claim],[[.lf (.l .i64),.lf (.i .i64)]]⟩
abbrev o36':OSpec sig:=⟨[.ag .Message],[[.lf (.l .i64),.lf (.i .i64)]]⟩
abbrev o37':OSpec sig:=⟨[.lf (.i .i64),.ag .Voter,.lf (.i .i64)],[]⟩
def eL{α:Type}(b a:Option α):Prop:=∀r,a=some r->b=some r
theorem cL{f:FuncId}{fn:Func}{vs:List (TL sig)}{hs:THeap sig}(o:OSpec sig)(hf:Tryz.prog.funcs[f]?=some fn){p:Option o.Out}(hok:env.ok f=true:=by kernel_rfl)(hb:fn.body=some (qe8 fn):=by kernel_rfl)(hn0:(decide (vs.length<=fn.ntmps)&&(q7t Tryz.prog fn (qe8 fn)).isNone&&(env.lib f).isNone)=true:=by kernel_rfl)(h:te tn ⟨f,fn,hs.length⟩ o 100000 (qe8 fn) [] ⟨bindT 0 vs,hs⟩=p:=by kernel_rfl):eL (callC tn f vs hs o) p:=y6j (T:=tn) sigOk 100000 hok hf hb hn0 h
theorem gL{F:Fx}(o:OSpec sig)(b:Code){c:Code}{K:List Fr}{s:TSt sig}{p:Option o.Out}(hc:c=.loop b:=by kernel_rfl)(h:te tn F o 100000 b (.loop b s.heap.length::K) s=p:=by kernel_rfl):eL (goC tn F o c K s) p:=qys (T:=tn) sigOk 100000 hc h
end Go.Proofs.YtdmfjabikomgiaaGreat
