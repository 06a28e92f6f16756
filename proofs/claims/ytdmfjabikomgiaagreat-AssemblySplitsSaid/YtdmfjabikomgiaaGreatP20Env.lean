/- The seat's program for the machines. -/
import Derived.Test.YtdmfjabikomgiaaGreatP20An
import Derived.Test.YtdmfjabikomgiaaGreatMachT
import Derived.Test.YtdmfjabikomgiaaGreatChecked
namespace Go.Proofs.YtdmfjabikomgiaaGreat
open Go Go.Ab
def look1{α:Type}(d:α):List (Nat×α)->Nat->α|[],_=>d|(k,v)::r,t=>if k=t then v else look1 d r t
def an:An:={flag:=fun f t=>if(look1 [] yge f).contains t then .keep else .view,clear:=fun f=>look1 [] (look1 [] ycy f),mode:=fun f=>look1 0 (look1 [] yg3 f),order:=fun f=>look1 [] (look1 [] ycr f),own:=fun f=>anOwn.contains f}
def lastF:Nat:=285
def badF:List Nat:=[2,3,4,5,6,7,8,9,12,14,15,16,19,27,30,31,36,37,38,39,40,44,45,46,47,48,52,53,59,60,61,62,63,68,69,72,73,77,83,84,85,86,88,89,90,109,110,118,119,123,124,131,134,154,157,167,172,173,209,212,231,232,233,247,255,262,263,266,267,270,271,272,273,274,275,276,277,278,279,280,281,282,283,284,285]
def okF(h:Nat):Bool:=decide (2<=h/\h<=lastF)&&!badF.contains h
noncomputable def y36:List (Nat×Option (List AV->Heap->Option (AV×Heap))):=[(148,some q3y),(207,some (q8c 7)),(242,some (q8z 2)),(253,some (qcs 190)),(254,some (q6t 2))]
noncomputable def env:Env0:={P:=Tryz.prog,glob:=fun _=>none,an:=an,ok:=okF,lib:=look1 none y36}
structure Trust where
 Threshold:Int
 Nodes:List (Int)Inner:List (Trust)
structure Claim where
 Topic:Int
 Value:Int
structure Tape where l:List (Int)at_:Int
structure Member where
 Declared:Bool
 Trust:Trust
structure Message where
 Node:Int
 Seq:Int
 Trust:Trust
 Votes:List (Claim)Accepts:List (Claim)
structure Config where Members:List (Member)
structure Play where
 Kind:Int
 From:Int
 To:Int
 Claim:Claim
 Trust:Trust
 Message:Message
structure Voter where
 Node:Int
 Seq:Int
 Trust:Trust
 Votes:List (Claim)Accepts:List (Claim)Confirms:List (Claim)Heard:List (Message)
structure Meeting where
 Voters:List (Voter)Stopped:Int
 Ill:Int
inductive TC where|i64|l_i64|b|Trust|l_Trust|Claim|l_Claim|Tape|Member|l_Member|Message|l_Message|Config|Play|Voter|l_Voter|Meeting deriving DecidableEq
def Ty:TC->Type|.i64=>Int|.l_i64=>List (Int)|.b=>Bool|.Trust=>Trust|.l_Trust=>List (Trust)|.Claim=>Claim|.l_Claim=>List (Claim)|.Tape=>Tape|.Member=>Member|.l_Member=>List (Member)|.Message=>Message|.l_Message=>List (Message)|.Config=>Config|.Play=>Play|.Voter=>Voter|.l_Voter=>List (Voter)|.Meeting=>Meeting
abbrev Lv:=Leaf TC Ty
def asL(c:TC):Lv->Option (List (Ty c))|.l c' xs=>if h:c'=c then some (h▸xs)else none|_=>none
theorem q2m{c:TC}{x:Lv}{xs:List (Ty c)}(h:asL c x=some xs):x=.l c xs:=by cases x with
 |l c' ys=>
  simp only[asL]at h;split at h;·rename_i hc;subst hc;cases h;rfl
  .cases h|_=>cases h
def q74(x:Int):D:=.v (.int .i64 x)
theorem qa3(x y:Int)(h:q74 x=q74 y):x=y:=q2e h
def qr9(x:Int):List Lv:=[.i .i64 x]
def qdx:List Lv->Option (Int)|[.i .i64 x]=>some x|_=>none
theorem yiu(cs:List Lv)(x:Int)(h:qdx cs=some x):qr9 x=cs:=by
 unfold qdx at h;split at h;·cases h;rfl
 .cases h
def qm3(x:List (Int)):D:=.list (x.map q74)
theorem y5a(x y:List (Int))(h:qm3 x=qm3 y):x=y:=q1a qa3 h
def qk6(x:List (Int)):List Lv:=[.l .i64 x]
def qg1:List Lv->Option (List (Int))|[x]=>asL .i64 x|_=>none
theorem y87:∀(cs:List Lv)(x:List (Int)),qg1 cs=some x->qk6 x=cs|[y],x,h=>by rw[q2m (c:=.i64) (x:=y) (xs:=x) h];rfl|[],x,h=>by have h':(none:Option (List (Int)))=some x:=h;cases h'|_::_::_,x,h=>by have h':(none:Option (List (Int)))=some x:=h;cases h'
def enc_b(x:Bool):D:=.v (.bool x)
theorem inj_b(x y:Bool)(h:enc_b x=enc_b y):x=y:=qw5 h
def y56(x:Bool):List Lv:=[.b x]
def qkz:List Lv->Option (Bool)|[.b x]=>some x|_=>none
theorem of_b(cs:List Lv)(x:Bool)(h:qkz cs=some x):y56 x=cs:=by
 unfold qkz at h;split at h;·cases h;rfl
 .cases h
mutual
def q2q : Trust -> D
 | ⟨a0, a1, a2⟩ => .agg [.v (.int .i64 a0), .list ((a1).map q74), .list (q44 a2)]
def q44 : List Trust -> List D
 | [] => []
 | x :: r => q2q x :: q44 r
end
theorem qex:∀l:List Trust,q44 l=l.map q2q|[]=>rfl|x::r=>by simp only[q44,qex r,List.map_cons]
mutual
theorem q60 : ∀ x y : Trust, q2q x = q2q y -> x = y
 | ⟨a0, a1, a2⟩, ⟨b0, b1, b2⟩, h => by
  simp only [q2q, D.agg.injEq, List.cons.injEq, and_true] at h;obtain ⟨h0, h1, h2⟩ := h;have e0 : a0 = b0 := q2e h0;have e1 : a1 = b1 := q1a qa3 h1;have e2 : a2 = b2 := qnm _ _ (D.list.inj h2);rw [e0, e1, e2]
theorem qnm : ∀ x y : List Trust, q44 x = q44 y -> x = y
 | [], [], _ => rfl
 | [], _ :: _, h => by simp [q44] at h
 | _ :: _, [], h => by simp [q44] at h
 | x :: r, y :: r', h => by
  simp only [q44, List.cons.injEq] at h;rw [q60 x y h.1, qnm r r' h.2]
end
def qeb(x:Trust):List Lv:=[.i .i64 x.Threshold,.l .i64 x.Nodes,.l .Trust x.Inner]
def q9t:List Lv->Option Trust
 |[.i .i64 a0,l1,l2]=>match asL .i64 l1,asL .Trust l2 with|some m1,some m2=>some (Trust.mk a0 m1 m2)|_,_=>none
 |_=>none
theorem y89(cs:List Lv)(x:Trust)(h:q9t cs=some x):qeb x=cs:=by
 unfold q9t at h;split at h
 .split at h;·rename_i m1 m2 h1 h2;cases q2m h1;cases q2m h2;cases h;rfl
  .cases h
 .cases h
def qdy(x:List (Trust)):D:=.list (x.map q2q)
theorem qv6(x y:List (Trust))(h:qdy x=qdy y):x=y:=q1a q60 h
def qfc(x:List (Trust)):List Lv:=[.l .Trust x]
def qb5:List Lv->Option (List (Trust))|[x]=>asL .Trust x|_=>none
theorem y0j:∀(cs:List Lv)(x:List (Trust)),qb5 cs=some x->qfc x=cs|[y],x,h=>by rw[q2m (c:=.Trust) (x:=y) (xs:=x) h];rfl|[],x,h=>by have h':(none:Option (List (Trust)))=some x:=h;cases h'|_::_::_,x,h=>by have h':(none:Option (List (Trust)))=some x:=h;cases h'
def q0n(x:Claim):D:=.agg [.v (.int .i64 (x.Topic)),.v (.int .i64 (x.Value))]
theorem q4g:∀x y:Claim,q0n x=q0n y->x=y|⟨a0,a1⟩,⟨b0,b1⟩,h=>by simp only[q0n,D.agg.injEq,List.cons.injEq,and_true]at h;obtain⟨h0,h1⟩:=h;have e0:a0=b0:=q2e h0;have e1:a1=b1:=q2e h1;rw[e0,e1]
def ql8(x:Claim):List Lv:=[.i .i64 x.Topic,.i .i64 x.Value]
def q9q:List Lv->Option Claim|[.i .i64 a0,.i .i64 a1]=>some (Claim.mk a0 a1)|_=>none
theorem y7h(cs:List Lv)(x:Claim)(h:q9q cs=some x):ql8 x=cs:=by
 unfold q9q at h;split at h;·cases h;rfl
 .cases h
def qeh(x:List (Claim)):D:=.list (x.map q0n)
theorem quj(x y:List (Claim))(h:qeh x=qeh y):x=y:=q1a q4g h
def qg4(x:List (Claim)):List Lv:=[.l .Claim x]
def qb6:List Lv->Option (List (Claim))|[x]=>asL .Claim x|_=>none
theorem qzw:∀(cs:List Lv)(x:List (Claim)),qb6 cs=some x->qg4 x=cs|[y],x,h=>by rw[q2m (c:=.Claim) (x:=y) (xs:=x) h];rfl|[],x,h=>by have h':(none:Option (List (Claim)))=some x:=h;cases h'|_::_::_,x,h=>by have h':(none:Option (List (Claim)))=some x:=h;cases h'
def qj6(x:Tape):D:=.agg [.list (((x.l)).map q74),.v (.int .i64 (x.at_))]
theorem y7f:∀x y:Tape,qj6 x=qj6 y->x=y|⟨a0,a1⟩,⟨b0,b1⟩,h=>by simp only[qj6,D.agg.injEq,List.cons.injEq,and_true]at h;obtain⟨h0,h1⟩:=h;have e0:a0=b0:=q1a qa3 h0;have e1:a1=b1:=q2e h1;rw[e0,e1]
def qmm(x:Tape):List Lv:=[.l .i64 x.l,.i .i64 x.at_]
def qbr:List Lv->Option Tape
 |[l0,.i .i64 a1]=>match asL .i64 l0 with|some m0=>some (Tape.mk m0 a1)|_=>none
 |_=>none
theorem yda(cs:List Lv)(x:Tape)(h:qbr cs=some x):qmm x=cs:=by
 unfold qbr at h;split at h
 .split at h;·rename_i m0 h0;cases q2m h0;cases h;rfl
  .cases h
 .cases h
def q6r(x:Member):D:=.agg [.v (.bool (x.Declared)),.v (.int .i64 (x.Trust.Threshold)),.list (((x.Trust.Nodes)).map q74),.list (((x.Trust.Inner)).map q2q)]
theorem qgn:∀x y:Member,q6r x=q6r y->x=y|⟨a0,⟨a1,a2,a3⟩⟩,⟨b0,⟨b1,b2,b3⟩⟩,h=>by simp only[q6r,D.agg.injEq,List.cons.injEq,and_true]at h;obtain⟨h0,h1,h2,h3⟩:=h;have e0:a0=b0:=qw5 h0;have e1:a1=b1:=q2e h1;have e2:a2=b2:=q1a qa3 h2;have e3:a3=b3:=q1a q60 h3;rw[e0,e1,e2,e3]
def qi6(x:Member):List Lv:=[.b x.Declared,.i .i64 x.Trust.Threshold,.l .i64 x.Trust.Nodes,.l .Trust x.Trust.Inner]
def q87:List Lv->Option Member
 |[.b a0,.i .i64 a1,l2,l3]=>match asL .i64 l2,asL .Trust l3 with|some m2,some m3=>some (Member.mk a0 (Trust.mk a1 m2 m3))|_,_=>none
 |_=>none
theorem y4s(cs:List Lv)(x:Member)(h:q87 cs=some x):qi6 x=cs:=by
 unfold q87 at h;split at h
 .split at h;·rename_i m2 m3 h2 h3;cases q2m h2;cases q2m h3;cases h;rfl
  .cases h
 .cases h
def qb9(x:List (Member)):D:=.list (x.map q6r)
theorem qta(x y:List (Member))(h:qb9 x=qb9 y):x=y:=q1a qgn h
def qdi(x:List (Member)):List Lv:=[.l .Member x]
def qam:List Lv->Option (List (Member))|[x]=>asL .Member x|_=>none
theorem qv8:∀(cs:List Lv)(x:List (Member)),qam cs=some x->qdi x=cs|[y],x,h=>by rw[q2m (c:=.Member) (x:=y) (xs:=x) h];rfl|[],x,h=>by have h':(none:Option (List (Member)))=some x:=h;cases h'|_::_::_,x,h=>by have h':(none:Option (List (Member)))=some x:=h;cases h'
def q1u(x:Message):D:=.agg [.v (.int .i64 (x.Node)),.v (.int .i64 (x.Seq)),.v (.int .i64 (x.Trust.Threshold)),.list (((x.Trust.Nodes)).map q74),.list (((x.Trust.Inner)).map q2q),.list (((x.Votes)).map q0n),.list (((x.Accepts)).map q0n)]
theorem qdn:∀x y:Message,q1u x=q1u y->x=y|⟨a0,a1,⟨a2,a3,a4⟩,a5,a6⟩,⟨b0,b1,⟨b2,b3,b4⟩,b5,b6⟩,h=>by simp only[q1u,D.agg.injEq,List.cons.injEq,and_true]at h;obtain⟨h0,h1,h2,h3,h4,h5,h6⟩:=h;have e0:a0=b0:=q2e h0;have e1:a1=b1:=q2e h1;have e2:a2=b2:=q2e h2;have e3:a3=b3:=q1a qa3 h3;have e4:a4=b4:=q1a q60 h4;have e5:a5=b5:=q1a q4g h5;have e6:a6=b6:=q1a q4g h6;rw[e0,e1,e2,e3,e4,e5,e6]
def qfl(x:Message):List Lv:=[.i .i64 x.Node,.i .i64 x.Seq,.i .i64 x.Trust.Threshold,.l .i64 x.Trust.Nodes,.l .Trust x.Trust.Inner,.l .Claim x.Votes,.l .Claim x.Accepts]
def q7e:List Lv->Option Message
 |[.i .i64 a0,.i .i64 a1,.i .i64 a2,l3,l4,l5,l6]=>match asL .i64 l3,asL .Trust l4,asL .Claim l5,asL .Claim l6 with|some m3,some m4,some m5,some m6=>some (Message.mk a0 a1 (Trust.mk a2 m3 m4) m5 m6)|_,_,_,_=>none
 |_=>none
theorem y04(cs:List Lv)(x:Message)(h:q7e cs=some x):qfl x=cs:=by
 unfold q7e at h;split at h
 .split at h;·rename_i m3 m4 m5 m6 h3 h4 h5 h6;cases q2m h3;cases q2m h4;cases q2m h5;cases q2m h6;cases h;rfl
  .cases h
 .cases h
def q97(x:List (Message)):D:=.list (x.map q1u)
theorem qpc(x y:List (Message))(h:q97 x=q97 y):x=y:=q1a qdn h
def qc7(x:List (Message)):List Lv:=[.l .Message x]
def q8l:List Lv->Option (List (Message))|[x]=>asL .Message x|_=>none
theorem qqx:∀(cs:List Lv)(x:List (Message)),q8l cs=some x->qc7 x=cs|[y],x,h=>by rw[q2m (c:=.Message) (x:=y) (xs:=x) h];rfl|[],x,h=>by have h':(none:Option (List (Message)))=some x:=h;cases h'|_::_::_,x,h=>by have h':(none:Option (List (Message)))=some x:=h;cases h'
def qce(x:Config):D:=.agg [.list (((x.Members)).map q6r)]
theorem qzd:∀x y:Config,qce x=qce y->x=y|⟨a0⟩,⟨b0⟩,h=>by simp only[qce,D.agg.injEq,List.cons.injEq,and_true]at h;have h0:=h;have e0:a0=b0:=q1a qgn h0;rw[e0]
def qic(x:Config):List Lv:=[.l .Member x.Members]
def q89:List Lv->Option Config
 |[l0]=>match asL .Member l0 with|some m0=>some (Config.mk m0)|_=>none
 |_=>none
theorem y2f(cs:List Lv)(x:Config)(h:q89 cs=some x):qic x=cs:=by
 unfold q89 at h;split at h
 .split at h;·rename_i m0 h0;cases q2m h0;cases h;rfl
  .cases h
 .cases h
def qj1(x:Play):D:=.agg [.v (.int .i64 (x.Kind)),.v (.int .i64 (x.From)),.v (.int .i64 (x.To)),.v (.int .i64 (x.Claim.Topic)),.v (.int .i64 (x.Claim.Value)),.v (.int .i64 (x.Trust.Threshold)),.list (((x.Trust.Nodes)).map q74),.list (((x.Trust.Inner)).map q2q),.v (.int .i64 (x.Message.Node)),.v (.int .i64 (x.Message.Seq)),.v (.int .i64 (x.Message.Trust.Threshold)),.list (((x.Message.Trust.Nodes)).map q74),.list (((x.Message.Trust.Inner)).map q2q),.list (((x.Message.Votes)).map q0n),.list (((x.Message.Accepts)).map q0n)]
theorem y88:∀x y:Play,qj1 x=qj1 y->x=y|⟨a0,a1,a2,⟨a3,a4⟩,⟨a5,a6,a7⟩,⟨a8,a9,⟨a10,a11,a12⟩,a13,a14⟩⟩,⟨b0,b1,b2,⟨b3,b4⟩,⟨b5,b6,b7⟩,⟨b8,b9,⟨b10,b11,b12⟩,b13,b14⟩⟩,h=>by simp only[qj1,D.agg.injEq,List.cons.injEq,and_true]at h;obtain⟨h0,h1,h2,h3,h4,h5,h6,h7,h8,h9,h10,h11,h12,h13,h14⟩:=h;have e0:a0=b0:=q2e h0;have e1:a1=b1:=q2e h1;have e2:a2=b2:=q2e h2;have e3:a3=b3:=q2e h3;have e4:a4=b4:=q2e h4;have e5:a5=b5:=q2e h5;have e6:a6=b6:=q1a qa3 h6;have e7:a7=b7:=q1a q60 h7;have e8:a8=b8:=q2e h8;have e9:a9=b9:=q2e h9;have e10:a10=b10:=q2e h10;have e11:a11=b11:=q1a qa3 h11;have e12:a12=b12:=q1a q60 h12;have e13:a13=b13:=q1a q4g h13;have e14:a14=b14:=q1a q4g h14;rw[e0,e1,e2,e3,e4,e5,e6,e7,e8,e9,e10,e11,e12,e13,e14]
def qna(x:Play):List Lv:=[.i .i64 x.Kind,.i .i64 x.From,.i .i64 x.To,.i .i64 x.Claim.Topic,.i .i64 x.Claim.Value,.i .i64 x.Trust.Threshold,.l .i64 x.Trust.Nodes,.l .Trust x.Trust.Inner,.i .i64 x.Message.Node,.i .i64 x.Message.Seq,.i .i64 x.Message.Trust.Threshold,.l .i64 x.Message.Trust.Nodes,.l .Trust x.Message.Trust.Inner,.l .Claim x.Message.Votes,.l .Claim x.Message.Accepts]
def qb1:List Lv->Option Play
 |[.i .i64 a0,.i .i64 a1,.i .i64 a2,.i .i64 a3,.i .i64 a4,.i .i64 a5,l6,l7,.i .i64 a8,.i .i64 a9,.i .i64 a10,l11,l12,l13,l14]=>match asL .i64 l6,asL .Trust l7,asL .i64 l11,asL .Trust l12,asL .Claim l13,asL .Claim l14 with|some m6,some m7,some m11,some m12,some m13,some m14=>some (Play.mk a0 a1 a2 (Claim.mk a3 a4) (Trust.mk a5 m6 m7) (Message.mk a8 a9 (Trust.mk a10 m11 m12) m13 m14))|_,_,_,_,_,_=>none
 |_=>none
theorem ye0(cs:List Lv)(x:Play)(h:qb1 cs=some x):qna x=cs:=by
 unfold qb1 at h;split at h
 .split at h;·rename_i m6 m7 m11 m12 m13 m14 h6 h7 h11 h12 h13 h14;cases q2m h6;cases q2m h7;cases q2m h11;cases q2m h12;cases q2m h13;cases q2m h14;cases h;rfl
  .cases h
 .cases h
def q8v(x:Voter):D:=.agg [.v (.int .i64 (x.Node)),.v (.int .i64 (x.Seq)),.v (.int .i64 (x.Trust.Threshold)),.list (((x.Trust.Nodes)).map q74),.list (((x.Trust.Inner)).map q2q),.list (((x.Votes)).map q0n),.list (((x.Accepts)).map q0n),.list (((x.Confirms)).map q0n),.list (((x.Heard)).map q1u)]
theorem qk3:∀x y:Voter,q8v x=q8v y->x=y|⟨a0,a1,⟨a2,a3,a4⟩,a5,a6,a7,a8⟩,⟨b0,b1,⟨b2,b3,b4⟩,b5,b6,b7,b8⟩,h=>by simp only[q8v,D.agg.injEq,List.cons.injEq,and_true]at h;obtain⟨h0,h1,h2,h3,h4,h5,h6,h7,h8⟩:=h;have e0:a0=b0:=q2e h0;have e1:a1=b1:=q2e h1;have e2:a2=b2:=q2e h2;have e3:a3=b3:=q1a qa3 h3;have e4:a4=b4:=q1a q60 h4;have e5:a5=b5:=q1a q4g h5;have e6:a6=b6:=q1a q4g h6;have e7:a7=b7:=q1a q4g h7;have e8:a8=b8:=q1a qdn h8;rw[e0,e1,e2,e3,e4,e5,e6,e7,e8]
def qm0(x:Voter):List Lv:=[.i .i64 x.Node,.i .i64 x.Seq,.i .i64 x.Trust.Threshold,.l .i64 x.Trust.Nodes,.l .Trust x.Trust.Inner,.l .Claim x.Votes,.l .Claim x.Accepts,.l .Claim x.Confirms,.l .Message x.Heard]
def q9y:List Lv->Option Voter
 |[.i .i64 a0,.i .i64 a1,.i .i64 a2,l3,l4,l5,l6,l7,l8]=>match asL .i64 l3,asL .Trust l4,asL .Claim l5,asL .Claim l6,asL .Claim l7,asL .Message l8 with|some m3,some m4,some m5,some m6,some m7,some m8=>some (Voter.mk a0 a1 (Trust.mk a2 m3 m4) m5 m6 m7 m8)|_,_,_,_,_,_=>none
 |_=>none
theorem y6k(cs:List Lv)(x:Voter)(h:q9y cs=some x):qm0 x=cs:=by
 unfold q9y at h;split at h
 .split at h;·rename_i m3 m4 m5 m6 m7 m8 h3 h4 h5 h6 h7 h8;cases q2m h3;cases q2m h4;cases q2m h5;cases q2m h6;cases q2m h7;cases q2m h8;cases h;rfl
  .cases h
 .cases h
def qe6(x:List (Voter)):D:=.list (x.map q8v)
theorem qtk(x y:List (Voter))(h:qe6 x=qe6 y):x=y:=q1a qk3 h
def qfw(x:List (Voter)):List Lv:=[.l .Voter x]
def qbx:List Lv->Option (List (Voter))|[x]=>asL .Voter x|_=>none
theorem y01:∀(cs:List Lv)(x:List (Voter)),qbx cs=some x->qfw x=cs|[y],x,h=>by rw[q2m (c:=.Voter) (x:=y) (xs:=x) h];rfl|[],x,h=>by have h':(none:Option (List (Voter)))=some x:=h;cases h'|_::_::_,x,h=>by have h':(none:Option (List (Voter)))=some x:=h;cases h'
def qa6(x:Meeting):D:=.agg [.list (((x.Voters)).map q8v),.v (.int .i64 (x.Stopped)),.v (.int .i64 (x.Ill))]
theorem qvo:∀x y:Meeting,qa6 x=qa6 y->x=y|⟨a0,a1,a2⟩,⟨b0,b1,b2⟩,h=>by simp only[qa6,D.agg.injEq,List.cons.injEq,and_true]at h;obtain⟨h0,h1,h2⟩:=h;have e0:a0=b0:=q1a qk3 h0;have e1:a1=b1:=q2e h1;have e2:a2=b2:=q2e h2;rw[e0,e1,e2]
def qes(x:Meeting):List Lv:=[.l .Voter x.Voters,.i .i64 x.Stopped,.i .i64 x.Ill]
def q7g:List Lv->Option Meeting
 |[l0,.i .i64 a1,.i .i64 a2]=>match asL .Voter l0 with|some m0=>some (Meeting.mk m0 a1 a2)|_=>none
 |_=>none
theorem y0b(cs:List Lv)(x:Meeting)(h:q7g cs=some x):qes x=cs:=by
 unfold q7g at h;split at h
 .split at h;·rename_i m0 h0;cases q2m h0;cases h;rfl
  .cases h
 .cases h
def encT:(c:TC)->Ty c->D|.i64=>q74|.l_i64=>qm3|.b=>enc_b|.Trust=>q2q|.l_Trust=>qdy|.Claim=>q0n|.l_Claim=>qeh|.Tape=>qj6|.Member=>q6r|.l_Member=>qb9|.Message=>q1u|.l_Message=>q97|.Config=>qce|.Play=>qj1|.Voter=>q8v|.l_Voter=>qe6|.Meeting=>qa6
def yjm:(c:TC)->Ty c->List Lv|.i64=>qr9|.l_i64=>qk6|.b=>y56|.Trust=>qeb|.l_Trust=>qfc|.Claim=>ql8|.l_Claim=>qg4|.Tape=>qmm|.Member=>qi6|.l_Member=>qdi|.Message=>qfl|.l_Message=>qc7|.Config=>qic|.Play=>qna|.Voter=>qm0|.l_Voter=>qfw|.Meeting=>qes
def y6v:(c:TC)->List Lv->Option (Ty c)|.i64=>qdx|.l_i64=>qg1|.b=>qkz|.Trust=>q9t|.l_Trust=>qb5|.Claim=>q9q|.l_Claim=>qb6|.Tape=>qbr|.Member=>q87|.l_Member=>qam|.Message=>q7e|.l_Message=>q8l|.Config=>q89|.Play=>qb1|.Voter=>q9y|.l_Voter=>qbx|.Meeting=>q7g
def aggF:TC->Bool|.i64=>false|.l_i64=>false|.b=>false|.Trust=>true|.l_Trust=>false|.Claim=>true|.l_Claim=>false|.Tape=>true|.Member=>true|.l_Member=>false|.Message=>true|.l_Message=>false|.Config=>true|.Play=>true|.Voter=>true|.l_Voter=>false|.Meeting=>true
def sizeF:TC->Nat|.i64=>1|.l_i64=>1|.b=>1|.Trust=>3|.l_Trust=>1|.Claim=>2|.l_Claim=>1|.Tape=>2|.Member=>4|.l_Member=>1|.Message=>7|.l_Message=>1|.Config=>1|.Play=>15|.Voter=>9|.l_Voter=>1|.Meeting=>3
def y68:List (TypeId×TC×TypeId):=[(22,.i64,3),(25,.Member,111),(28,.Play,70),(31,.Voter,59),(34,.i64,35),(44,.Meeting,33),(51,.Claim,66),(54,.Trust,56),(57,.Message,68),(83,.Config,27),(86,.l_Trust,54),(212,.l_Claim,51)]
def y7j:List (TypeId×List (Option TC)):=[(22,[some .i64]),(25,[some .Member]),(26,[some .Member]),(27,[some .Member]),(28,[some .Play]),(31,[some .Voter]),(32,[some .Voter,none,none]),(33,[some .Voter,none,none]),(34,[some .i64]),(44,[some .Meeting]),(51,[some .Claim]),(54,[some .Trust]),(55,[none,some .i64,some .Trust]),(56,[none,some .i64,some .Trust]),(57,[some .Message]),(58,[none,none,none,some .i64,some .Trust,some .Claim,some .Claim,some .Claim,some .Message]),(59,[none,none,none,some .i64,some .Trust,some .Claim,some .Claim,some .Claim,some .Message]),(67,[none,none,none,some .i64,some .Trust,some .Claim,some .Claim]),(68,[none,none,none,some .i64,some .Trust,some .Claim,some .Claim]),(69,[none,none,none,none,none,none,some .i64,some .Trust,none,none,none,some .i64,some .Trust,some .Claim,some .Claim]),(70,[none,none,none,none,none,none,some .i64,some .Trust,none,none,none,some .i64,some .Trust,some .Claim,some .Claim]),(83,[some .Config]),(85,[none]),(86,[some .l_Trust]),(95,[some .i64,none]),(96,[some .i64,none]),(110,[none,none,some .i64,some .Trust]),(111,[none,none,some .i64,some .Trust]),(144,[some .Voter,none,none,some .Play]),(145,[some .Voter,none,none,some .Play]),(212,[some .l_Claim])]
def elemF:List (TypeId×TC×TypeId)->TypeId->Option TC|[],_=>none|(u,c,_)::r,t=>if u=t then some c else elemF r t
def sig:Sig:={TC:=TC,Ty:=Ty,enc:=encT,cells:=yjm,ofCells:=y6v,agg:=aggF,size:=sizeF,elem:=elemF y68,lists:=look1 [] y7j}
theorem qx2(P:Program):∀(tab:List (TypeId×TC×TypeId)),(tab.all fun p=>q2h P p.1==some p.2.2&&tyAgg P p.2.2==some (aggF p.2.1)&&q0l P p.2.2==some (sizeF p.2.1))=true->∀t c,elemF tab t=some c->∃e,q2h P t=some e/\tyAgg P e=some (aggF c)/\q0l P e=some (sizeF c)
 |[],_,_,_,h=>by cases h|(u,d,e)::r,ha,t,c,h=>by
  simp only[List.all_cons,aT,beq_iff_eq]at ha;simp only[elemF]at h;split at h;·rename_i hu;cases h;subst hu;exact⟨e,ha.1.1.1,ha.1.1.2,ha.1.2⟩
  .exact qx2 P r ha.2 t c h
theorem quy(x:Trust):sig.enc .Trust x=(packT (S:=sig) true (qeb x)).toD:=by cases x;show q2q _=_;simp only[q2q,qex];rfl
theorem sigOk:sig.Ok Tryz.prog where
 enc_eq:=fun c x=>by cases c<;>first|rfl|exact quy x
 of_eq:=fun c cs x h=>by
  have:sig.cells c x=cs:=by
   cases c;·exact yiu cs x h
   .exact y87 cs x h
   .exact of_b cs x h
   .exact y89 cs x h
   .exact y0j cs x h
   .exact y7h cs x h
   .exact qzw cs x h
   .exact yda cs x h
   .exact y4s cs x h
   .exact qv8 cs x h
   .exact y04 cs x h
   .exact qqx cs x h
   .exact y2f cs x h
   .exact ye0 cs x h
   .exact y6k cs x h
   .exact y01 cs x h
   .exact y0b cs x h
  rw[this]
 inj:=fun c x y h=>by
  cases c;·exact qa3 x y h
  .exact y5a x y h
  .exact inj_b x y h
  .exact q60 x y h
  .exact qv6 x y h
  .exact q4g x y h
  .exact quj x y h
  .exact y7f x y h
  .exact qgn x y h
  .exact qta x y h
  .exact qdn x y h
  .exact qpc x y h
  .exact qzd x y h
  .exact y88 x y h
  .exact qk3 x y h
  .exact qtk x y h
  .exact qvo x y h
 len:=fun c x=>by cases c<;>rfl
 pos:=fun c=>by cases c<;>decide
 one:=fun c h=>by cases c<;>first|rfl|cases h
 elem:=qx2 Tryz.prog y68 (by kernel_rfl)
def yka:List (Nat×List (OT sig)):=[(10,[.lf .b]),(11,[.ptr 0 0]),(25,[.ag .Config]),(26,[.lf (.i .i64)]),(54,[.lf .b,.lf (.i .i64)]),(55,[.lf (.l .Play),.lf (.i .i64)]),(18,[.lf .b]),(43,[.ag .Meeting,.lf (.l .i64),.lf (.i .i64)]),(17,[.lf (.i .i64),.lf (.i .i64),.lf .b]),(70,[.ref 1,.ref 1]),(56,[.lf (.i .i64)]),(74,[.lf (.i .i64)]),(65,[.ag .Config]),(64,[.lf .b,.lf (.i .i64)]),(41,[.ag .Meeting,.lf (.i .i64)]),(111,[.lf (.i .i64),.lf (.i .i64),.lf (.i .i64)]),(112,[]),(67,[.ag .Config]),(13,[.ag .Meeting,.lf (.l .i64),.lf (.i .i64)]),(28,[.lf .b]),(42,[.ag .Meeting,.lf (.i .i64)]),(32,[.lf .b]),(87,[.lf (.i .i64)]),(29,[.lf (.i .i64)]),(35,[.lf (.i .i64)]),(76,[.lf (.i .i64)]),(81,[.lf .b]),(121,[.lf (.i .i64),.lf (.i .i64)]),(91,[.lf (.i .i64)]),(158,[.lf (.i .i64)]),(160,[.ag .Config]),(159,[.lf (.i .i64),.lf (.i .i64),.lf (.i .i64)]),(103,[.lf (.l .i64)]),(169,[.lf (.i .i64)]),(168,[.lf (.l .i64)]),(195,[.lf (.i .i64)]),(196,[.lf (.i .i64),.lf (.i .i64)]),(50,[.lf (.i .i64),.lf (.i .i64),.lf .b]),(34,[.lf .b]),(51,[.lf .b]),(71,[.lf (.i .i64)]),(49,[.ag .Meeting,.lf (.i .i64)]),(125,[.ag .Trust]),(126,[.ag .Trust]),(127,[.ag .Trust]),(174,[.ag .Trust]),(82,[.lf (.i .i64)]),(213,[.lf (.l .i64)]),(129,[.lf (.i .i64)]),(128,[.lf (.i .i64)]),(133,[.lf (.i .i64)]),(122,[.ag .Trust]),(171,[.ag .Trust]),(92,[.lf .b]),(93,[.ag .Trust]),(94,[.ag .Voter,.lf (.i .i64)]),(136,[.lf .b]),(137,[.lf (.i .i64)]),(138,[.ag .Trust]),(178,[.lf .b]),(179,[.lf (.i .i64)]),(180,[.lf (.i .i64)]),(181,[.lf (.i .i64)]),(139,[.ref 0]),(214,[.lf .b]),(216,[.lf (.i .i64),.lf (.i .i64)]),(234,[.lf (.i .i64)]),(161,[]),(57,[.ag .Meeting,.lf (.i .i64)]),(113,[.lf (.i .i64)]),(114,[.lf (.i .i64),.ag .Voter,.lf (.i .i64)]),(115,[.ref 0]),(162,[.lf .b]),(163,[.ag .Voter,.lf (.i .i64)]),(165,[.ag .Message]),(164,[.ag .Voter,.lf (.i .i64)]),(106,[.lf .b]),(166,[.ag .Voter,.lf (.i .i64)]),(151,[.lf .b]),(105,[.lf .b]),(189,[.lf .b]),(143,[.lf .b]),(150,[.lf .b]),(200,[.ag .Voter]),(201,[.lf (.l .Claim)]),(202,[.ag .Voter]),(155,[.ag .Message]),(208,[.ag .Message]),(203,[.lf (.i .i64),.lf .b]),(206,[.ref 0]),(207,[.lf (.l .Message)]),(152,[.lf (.i .i64)]),(194,[.lf .b]),(192,[.lf .b]),(147,[.lf .b]),(148,[.lf .b]),(188,[.lf (.i .i64)]),(191,[.lf .b]),(116,[.ref 0]),(228,[.lf (.l .Claim)]),(229,[.ag .Voter]),(156,[.lf .b]),(221,[.lf .b]),(222,[.lf .b]),(220,[.lf (.i .i64)]),(242,[.ref 0]),(241,[.lf (.l .Claim)]),(243,[.ag .Config]),(244,[.ag .Claim,.lf .b]),(251,[.ref 0]),(253,[]),(254,[.lf (.l .Claim)]),(257,[.lf (.l .Claim)]),(58,[.ag .Meeting]),(95,[.ag .Voter,.lf (.i .i64)]),(78,[.lf .b]),(79,[.lf (.i .i64)]),(132,[.lf .b]),(22,[.lf .b]),(33,[.lf .b]),(80,[.lf .b]),(170,[.lf .b]),(75,[.lf (.i .i64)]),(20,[.lf (.l .i64)]),(130,[.lf (.l .i64)]),(135,[.lf (.i .i64)]),(177,[.lf .b]),(197,[.ag .Trust]),(198,[.ag .Trust]),(227,[.ag .Trust]),(210,[.lf (.i .i64)]),(224,[.lf .b]),(223,[.lf (.i .i64),.lf .b]),(226,[.lf (.i .i64)]),(225,[.lf (.i .i64)]),(237,[.lf .b]),(238,[.lf (.i .i64),.lf .b]),(236,[.lf (.i .i64)]),(239,[.lf (.i .i64),.lf (.l .i64)]),(249,[.lf (.i .i64)]),(248,[.lf (.i .i64)]),(264,[.lf (.i .i64)]),(107,[.lf .b]),(153,[.lf (.i .i64)]),(176,[.lf (.i .i64),.lf (.i .i64)]),(211,[.lf (.i .i64)]),(215,[.lf .b]),(193,[.lf .b]),(204,[.lf (.i .i64)]),(205,[.lf (.i .i64)]),(230,[.lf .b]),(190,[.lf (.i .i64)]),(219,[.lf (.i .i64)]),(199,[.lf .b]),(146,[.lf .b]),(149,[.lf .b]),(256,[.ag .Trust]),(259,[.lf (.i .i64)]),(246,[.lf (.i .i64)]),(258,[.lf .b]),(260,[.lf (.i .i64)]),(268,[.lf .b]),(265,[.lf .b]),(252,[.lf .b]),(96,[.ag .Trust]),(140,[.lf .b]),(175,[.lf (.i .i64)]),(120,[.lf .b]),(240,[.lf (.i .i64)]),(250,[.lf .b]),(104,[.lf .b]),(108,[.lf .b]),(245,[.lf .b]),(269,[.lf (.l .Claim)]),(261,[.lf (.l .Claim)]),(117,[.ag .Message]),(101,[.lf .b]),(66,[.lf .b]),(144,[.lf .b]),(97,[.ag .Voter,.lf (.i .i64)]),(99,[.ag .Message]),(98,[.ag .Voter,.lf (.i .i64)]),(21,[.lf (.l .Claim)]),(24,[.lf (.l .Claim)]),(145,[.lf .b]),(102,[.ag .Meeting]),(100,[.ag .Voter,.lf (.i .i64)]),(142,[.ag .Voter]),(141,[.lf (.l .Claim)]),(182,[.lf (.l .Claim)]),(184,[.lf (.l .Message)]),(183,[.lf .b]),(186,[.ag .Config]),(187,[.lf (.i .i64)]),(185,[.lf .b]),(23,[.lf .b]),(218,[.lf (.i .i64)]),(217,[.lf .b]),(235,[.lf .b])]
def ydb:List (Nat×List (List (OT sig))):=[(11,[[.lf (.l .i64),.lf (.i .i64)]]),(70,[[.own .Member false]]),(139,[[.own .i64 false]]),(115,[[.own .Voter false]]),(206,[[.own .Message false]]),(116,[[.own .Claim false]]),(242,[[.own .Claim false]])]
noncomputable def tn:TEn:={E:=env,S:=sig,res:=look1 [] yka,news:=look1 [] ydb,outs:=fun f=>if List.contains [207,254] f then some [[.undef]]else none,cut:=fun f id=>List.contains [(49,5),(49,8),(49,17),(49,35),(49,40)] (f,id)}
def qf5(fn:Func):Code:=match fn.body with|some c=>c|none=>.skip
def q0a(fn:Func)(p:List Nat):Code:=qjl p (qf5 fn)
def yij(fn:Func)(p ms:List Nat):List Fr:=qkl p (qf5 fn) ms []
abbrev o0':OSpec sig:=⟨[.lf .b],[]⟩
abbrev o1':OSpec sig:=⟨[.lf (.i .i64)],[]⟩
abbrev o2':OSpec sig:=⟨[.ag .Trust],[]⟩
abbrev o3':OSpec sig:=⟨[.lf (.l .Claim)],[]⟩
abbrev o4':OSpec sig:=⟨[.ag .Meeting,.lf (.i .i64)],[]⟩
abbrev o5':OSpec sig:=⟨[.lf (.l .i64)],[]⟩
abbrev o6':OSpec sig:=⟨[.ag .Voter],[]⟩
abbrev o7':OSpec sig:=⟨[.ag .Voter,.lf (.i .i64)],[]⟩
abbrev o8':OSpec sig:=⟨[.ag .Config],[]⟩
abbrev o9':OSpec sig:=⟨[.ag .Trust],[[.lf (.l .i64),.lf (.i .i64)]]⟩
abbrev o10':OSpec sig:=⟨[.lf (.i .i64),.lf (.i .i64),.lf .b],[]⟩
abbrev o11':OSpec sig:=⟨[.lf (.i .i64),.lf (.i .i64)],[]⟩
abbrev o12':OSpec sig:=⟨[],[[.lf (.l .Voter),.lf (.i .i64),.lf (.i .i64),.own .Play false]]⟩
abbrev o13':OSpec sig:=⟨[.lf (.i .i64),.lf .b],[]⟩
abbrev o14':OSpec sig:=⟨[.lf (.i .i64)],[[.lf (.l .i64),.lf (.i .i64)]]⟩
abbrev o15':OSpec sig:=⟨[.ag .Message],[]⟩
abbrev o16':OSpec sig:=⟨[.ag .Meeting,.lf (.l .i64),.lf (.i .i64)],[]⟩
abbrev o17':OSpec sig:=⟨[.lf .b],[[.lf (.i .i64),.lf (.i .i64)]]⟩
abbrev o18':OSpec sig:=⟨[.lf .b],[[.lf (.i .i64),.lf (.i .i64),.lf (.i .i64),.lf (.l .i64),.lf (.l .Trust),.lf (.l .Claim),.lf (.l .Claim),.lf (.l .Claim),.lf (.l .Message)]]⟩
abbrev o19':OSpec sig:=⟨[.lf (.i .i64)],[[.lf (.i .i64),.lf (.i .i64)]]⟩
abbrev o20':OSpec sig:=⟨[.lf (.i .i64)],[[.lf (.i .i64),.lf (.i .i64),.lf (.i .i64),.lf (.l .i64),.lf (.l .Trust),.lf (.l .Claim),.lf (.l .Claim),.lf (.l .Claim),.lf (.l .Message)]]⟩
abbrev o21':OSpec sig:=⟨[.ag .Meeting],[]⟩
abbrev o22':OSpec sig:=⟨[.ag .Config],[[.lf (.l .i64),.lf (.i .i64)]]⟩
abbrev o23':OSpec sig:=⟨[.lf (.l .i64)],[[.lf (.l .i64),.lf (.i .i64)]]⟩
abbrev o24':OSpec sig:=⟨[.ref 0],[[.own .Claim false]]⟩
abbrev o25':OSpec sig:=⟨[.lf .b,.lf (.i .i64)],[]⟩
abbrev o26':OSpec sig:=⟨[.ref 1,.ref 1],[[.lf (.l .i64),.lf (.i .i64)],[.own .Member false]]⟩
abbrev o27':OSpec sig:=⟨[.lf (.i .i64),.lf (.i .i64),.lf (.i .i64)],[]⟩
abbrev o28':OSpec sig:=⟨[.ag .Claim,.lf .b],[]⟩
abbrev o29':OSpec sig:=⟨[.lf (.i .i64)],[[.own .Claim false]]⟩
abbrev o30':OSpec sig:=⟨[.lf (.i .i64),.lf (.l .i64)],[]⟩
abbrev o31':OSpec sig:=⟨[.lf .b],[[.lf (.i .i64)]]⟩
abbrev o32':OSpec sig:=⟨[.lf (.i .i64)],[[.lf (.i .i64)]]⟩
abbrev o33':OSpec sig:=⟨[.ptr 0 0],[[.lf (.l .i64),.lf (.i .i64)]]⟩
abbrev o34':OSpec sig:=⟨[.lf (.l .Play),.lf (.i .i64)],[]⟩
abbrev o35':OSpec sig:=⟨[.lf (.i .i64),.ag .Voter,.lf (.i .i64)],[]⟩
def eL{α:Type}(b a:Option α):Prop:=∀r,a=some r->b=some r
theorem cL{f:FuncId}{fn:Func}{vs:List (TL sig)}{hs:THeap sig}(o:OSpec sig)(hf:Tryz.prog.funcs[f]?=some fn){p:Option o.Out}(hok:env.ok f=true:=by kernel_rfl)(hb:fn.body=some (qf5 fn):=by kernel_rfl)(hn0:(decide (vs.length<=fn.ntmps)&&(q83 Tryz.prog fn (qf5 fn)).isNone&&(env.seek f).isNone&&(env.lib f).isNone)=true:=by kernel_rfl)(h:te tn ⟨f,fn,hs.length⟩ o 100000 (qf5 fn) [] ⟨bindT 0 vs,hs⟩=p:=by kernel_rfl):eL (callC tn f vs hs o) p:=y6o (T:=tn) sigOk 100000 hok hf hb hn0 h
theorem gL{F:Fx}(o:OSpec sig)(b:Code){c:Code}{K:List Fr}{s:TSt sig}{p:Option o.Out}(hc:c=.loop b:=by kernel_rfl)(h:te tn F o 100000 b (.loop b s.heap.length::K) s=p:=by kernel_rfl):eL (goC tn F o c K s) p:=qzb (T:=tn) sigOk 100000 hc h
end Go.Proofs.YtdmfjabikomgiaaGreat
