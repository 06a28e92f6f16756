/- The seat's program for the machines. -/
import Derived.Test.YtglokalgdbegeaaGreatA22An
import Derived.Test.YtglokalgdbegeaaGreatMachT
import Derived.Test.YtglokalgdbegeaaGreatChecked
namespace Go.Proofs.YtglokalgdbegeaaGreat
open Go Go.Ab
def look1{α:Type}(d:α):List (Nat×α)→Nat→α|[],_=>d|(k,v)::r,t=>if k=t then v else look1 d r t
def an:An:={flag:=fun f t=>if(look1 [] yh0 f).contains t then .keep else .view,clear:=fun f=>look1 [] (look1 [] yam f),mode:=fun f=>look1 0 (look1 [] yfx f),order:=fun f=>look1 [] (look1 [] yc1 f),own:=fun f=>anOwn.contains f}
def lastF:Nat:=225
def badF:List Nat:=[2,3,5,6,7,11,28,29,32,33,34,35,36,37,38,40,41,42,44,45,46,47,48,49,51,52,53,54,76,77,85,86,87,88,90,91,93,96,115,116,124,125,126,127,128,129,130,156,159,160,162,173,174,182,183,185,194,199,209,213,216,217]
def okF(h:Nat):Bool:=decide (2≤h∧h≤lastF)&&!badF.contains h
noncomputable def y0b:List (Nat×Option (List AV→Heap→Option (AV×Heap))):=[(72,some (q34 7)),(145,some (q34 1)),(167,some q4s)]
noncomputable def env:Env0:={P:=Tryz.prog,glob:=fun _=>none,an:=an,ok:=okF,lib:=look1 none y0b}
structure Trust where
 Threshold:Int
 Nodes:List (Int)Inner:List (Trust)
structure Nomination where
 Node:Int
 Seq:Int
 Trust:Trust
 Votes:List (List UInt8)Accepts:List (List UInt8)
structure Claim where
 Topic:Int
 Value:Int
structure Frac where
 Num:Int
 Den:Int
structure Tape where l:List (Int)at_:Int
structure Member where
 Declared:Bool
 Trust:Trust
structure Nominator where
 Node:Int
 Slot:Int
 Round:Int
 Seq:Int
 Trust:Trust
 Own:List UInt8
 Votes:List (List UInt8)Accepts:List (List UInt8)Candidates:List (List UInt8)Heard:List (Nomination)
structure Message where
 Node:Int
 Seq:Int
 Trust:Trust
 Votes:List (Claim)Accepts:List (Claim)
structure Config where Members:List (Member)
inductive TC where|i64|l_i64|b|Trust|l_Trust|s|l_s|Nomination|l_Nomination|Claim|l_Claim|Frac|Tape|Member|l_Member|Nominator|Message|Config deriving DecidableEq
def Ty:TC→Type|.i64=>Int|.l_i64=>List (Int)|.b=>Bool|.Trust=>Trust|.l_Trust=>List (Trust)|.s=>List UInt8|.l_s=>List (List UInt8)|.Nomination=>Nomination|.l_Nomination=>List (Nomination)|.Claim=>Claim|.l_Claim=>List (Claim)|.Frac=>Frac|.Tape=>Tape|.Member=>Member|.l_Member=>List (Member)|.Nominator=>Nominator|.Message=>Message|.Config=>Config
abbrev Lv:=Leaf TC Ty
def asL(c:TC):Lv→Option (List (Ty c))|.l c' xs=>if h:c'=c then some (h▸xs)else none|_=>none
theorem q2s{c:TC}{x:Lv}{xs:List (Ty c)}(h:asL c x=some xs):x=.l c xs:=by cases x with
 |l c' ys=>
  simp only[asL]at h;split at h;·rename_i hc;subst hc;cases h;rfl
  ·cases h|_=>cases h
def q7c(x:Int):D:=.v (.int .i64 x)
theorem qa4(x y:Int)(h:q7c x=q7c y):x=y:=q30 h
def qrg(x:Int):List Lv:=[.i .i64 x]
def qcx:List Lv→Option (Int)|[.i .i64 x]=>some x|_=>none
theorem ye8(cs:List Lv)(x:Int)(h:qcx cs=some x):qrg x=cs:=by
 unfold qcx at h;split at h;·cases h;rfl
 ·cases h
def qjv(x:List (Int)):D:=.list (x.map q7c)
theorem y4n(x y:List (Int))(h:qjv x=qjv y):x=y:=q17 qa4 h
def qje(x:List (Int)):List Lv:=[.l .i64 x]
def qf4:List Lv→Option (List (Int))|[x]=>asL .i64 x|_=>none
theorem y70:∀(cs:List Lv)(x:List (Int)),qf4 cs=some x→qje x=cs|[y],x,h=>by rw[q2s (c:=.i64) (x:=y) (xs:=x) h];rfl|[],x,h=>by have h':(none:Option (List (Int)))=some x:=h;cases h'|_::_::_,x,h=>by have h':(none:Option (List (Int)))=some x:=h;cases h'
def enc_b(x:Bool):D:=.v (.bool x)
theorem inj_b(x y:Bool)(h:enc_b x=enc_b y):x=y:=qwf h
def y06(x:Bool):List Lv:=[.b x]
def qj5:List Lv→Option (Bool)|[.b x]=>some x|_=>none
theorem of_b(cs:List Lv)(x:Bool)(h:qj5 cs=some x):y06 x=cs:=by
 unfold qj5 at h;split at h;·cases h;rfl
 ·cases h
mutual
def q2r : Trust → D
 | ⟨a0, a1, a2⟩ => .agg [.v (.int .i64 a0), .list ((a1).map q7c), .list (q3l a2)]
def q3l : List Trust → List D
 | [] => []
 | x :: r => q2r x :: q3l r
end
theorem qf0:∀l:List Trust,q3l l=l.map q2r|[]=>rfl|x::r=>by simp only[q3l,qf0 r,List.map_cons]
mutual
theorem q6u : ∀ x y : Trust, q2r x = q2r y → x = y
 | ⟨a0, a1, a2⟩, ⟨b0, b1, b2⟩, h => by
  simp only [q2r, D.agg.injEq, List.cons.injEq, and_true] at h;obtain ⟨h0, h1, h2⟩ := h;have e0 : a0 = b0 := q30 h0;have e1 : a1 = b1 := q17 qa4 h1;have e2 : a2 = b2 := qm5 _ _ (D.list.inj h2);rw [e0, e1, e2]
theorem qm5 : ∀ x y : List Trust, q3l x = q3l y → x = y
 | [], [], _ => rfl
 | [], _ :: _, h => by simp [q3l] at h
 | _ :: _, [], h => by simp [q3l] at h
 | x :: r, y :: r', h => by
  simp only [q3l, List.cons.injEq] at h;rw [q6u x y h.1, qm5 r r' h.2]
end
def qd4(x:Trust):List Lv:=[.i .i64 x.Threshold,.l .i64 x.Nodes,.l .Trust x.Inner]
def q8n:List Lv→Option Trust
 |[.i .i64 a0,l1,l2]=>match asL .i64 l1,asL .Trust l2 with|some m1,some m2=>some (Trust.mk a0 m1 m2)|_,_=>none
 |_=>none
theorem y5j(cs:List Lv)(x:Trust)(h:q8n cs=some x):qd4 x=cs:=by
 unfold q8n at h;split at h
 ·split at h;·rename_i m1 m2 h1 h2;cases q2s h1;cases q2s h2;cases h;rfl
  ·cases h
 ·cases h
def qct(x:List (Trust)):D:=.list (x.map q2r)
theorem qsq(x y:List (Trust))(h:qct x=qct y):x=y:=q17 q6u h
def qef(x:List (Trust)):List Lv:=[.l .Trust x]
def qay:List Lv→Option (List (Trust))|[x]=>asL .Trust x|_=>none
theorem qy1:∀(cs:List Lv)(x:List (Trust)),qay cs=some x→qef x=cs|[y],x,h=>by rw[q2s (c:=.Trust) (x:=y) (xs:=x) h];rfl|[],x,h=>by have h':(none:Option (List (Trust)))=some x:=h;cases h'|_::_::_,x,h=>by have h':(none:Option (List (Trust)))=some x:=h;cases h'
def enc_s(x:List UInt8):D:=.v (.string ⟨⟨x⟩⟩)
theorem inj_s(x y:List UInt8)(h:enc_s x=enc_s y):x=y:=y0s h
def y2m(x:List UInt8):List Lv:=[.s x]
def qir:List Lv→Option (List UInt8)|[.s x]=>some x|_=>none
theorem of_s(cs:List Lv)(x:List UInt8)(h:qir cs=some x):y2m x=cs:=by
 unfold qir at h;split at h;·cases h;rfl
 ·cases h
def qtn(x:List (List UInt8)):D:=.list (x.map enc_s)
theorem ybs(x y:List (List UInt8))(h:qtn x=qtn y):x=y:=q17 inj_s h
def qsa(x:List (List UInt8)):List Lv:=[.l .s x]
def qkd:List Lv→Option (List (List UInt8))|[x]=>asL .s x|_=>none
theorem ye9:∀(cs:List Lv)(x:List (List UInt8)),qkd cs=some x→qsa x=cs|[y],x,h=>by rw[q2s (c:=.s) (x:=y) (xs:=x) h];rfl|[],x,h=>by have h':(none:Option (List (List UInt8)))=some x:=h;cases h'|_::_::_,x,h=>by have h':(none:Option (List (List UInt8)))=some x:=h;cases h'
def q0y(x:Nomination):D:=.agg [.v (.int .i64 (x.Node)),.v (.int .i64 (x.Seq)),.v (.int .i64 (x.Trust.Threshold)),.list (((x.Trust.Nodes)).map q7c),.list (((x.Trust.Inner)).map q2r),.list (((x.Votes)).map enc_s),.list (((x.Accepts)).map enc_s)]
theorem q7h:∀x y:Nomination,q0y x=q0y y→x=y|⟨a0,a1,⟨a2,a3,a4⟩,a5,a6⟩,⟨b0,b1,⟨b2,b3,b4⟩,b5,b6⟩,h=>by simp only[q0y,D.agg.injEq,List.cons.injEq,and_true]at h;obtain⟨h0,h1,h2,h3,h4,h5,h6⟩:=h;have e0:a0=b0:=q30 h0;have e1:a1=b1:=q30 h1;have e2:a2=b2:=q30 h2;have e3:a3=b3:=q17 qa4 h3;have e4:a4=b4:=q17 q6u h4;have e5:a5=b5:=q17 inj_s h5;have e6:a6=b6:=q17 inj_s h6;rw[e0,e1,e2,e3,e4,e5,e6]
def q9r(x:Nomination):List Lv:=[.i .i64 x.Node,.i .i64 x.Seq,.i .i64 x.Trust.Threshold,.l .i64 x.Trust.Nodes,.l .Trust x.Trust.Inner,.l .s x.Votes,.l .s x.Accepts]
def q4f:List Lv→Option Nomination
 |[.i .i64 a0,.i .i64 a1,.i .i64 a2,l3,l4,l5,l6]=>match asL .i64 l3,asL .Trust l4,asL .s l5,asL .s l6 with|some m3,some m4,some m5,some m6=>some (Nomination.mk a0 a1 (Trust.mk a2 m3 m4) m5 m6)|_,_,_,_=>none
 |_=>none
theorem qoi(cs:List Lv)(x:Nomination)(h:q4f cs=some x):q9r x=cs:=by
 unfold q4f at h;split at h
 ·split at h;·rename_i m3 m4 m5 m6 h3 h4 h5 h6;cases q2s h3;cases q2s h4;cases q2s h5;cases q2s h6;cases h;rfl
  ·cases h
 ·cases h
def q5h(x:List (Nomination)):D:=.list (x.map q0y)
theorem qho(x y:List (Nomination))(h:q5h x=q5h y):x=y:=q17 q7h h
def q76(x:List (Nomination)):List Lv:=[.l .Nomination x]
def q5m:List Lv→Option (List (Nomination))|[x]=>asL .Nomination x|_=>none
theorem qjg:∀(cs:List Lv)(x:List (Nomination)),q5m cs=some x→q76 x=cs|[y],x,h=>by rw[q2s (c:=.Nomination) (x:=y) (xs:=x) h];rfl|[],x,h=>by have h':(none:Option (List (Nomination)))=some x:=h;cases h'|_::_::_,x,h=>by have h':(none:Option (List (Nomination)))=some x:=h;cases h'
def q6e(x:Claim):D:=.agg [.v (.int .i64 (x.Topic)),.v (.int .i64 (x.Value))]
theorem qea:∀x y:Claim,q6e x=q6e y→x=y|⟨a0,a1⟩,⟨b0,b1⟩,h=>by simp only[q6e,D.agg.injEq,List.cons.injEq,and_true]at h;obtain⟨h0,h1⟩:=h;have e0:a0=b0:=q30 h0;have e1:a1=b1:=q30 h1;rw[e0,e1]
def qjm(x:Claim):List Lv:=[.i .i64 x.Topic,.i .i64 x.Value]
def q8w:List Lv→Option Claim|[.i .i64 a0,.i .i64 a1]=>some (Claim.mk a0 a1)|_=>none
theorem y5i(cs:List Lv)(x:Claim)(h:q8w cs=some x):qjm x=cs:=by
 unfold q8w at h;split at h;·cases h;rfl
 ·cases h
def qcv(x:List (Claim)):D:=.list (x.map q6e)
theorem qtu(x y:List (Claim))(h:qcv x=qcv y):x=y:=q17 qea h
def qez(x:List (Claim)):List Lv:=[.l .Claim x]
def qak:List Lv→Option (List (Claim))|[x]=>asL .Claim x|_=>none
theorem qy3:∀(cs:List Lv)(x:List (Claim)),qak cs=some x→qez x=cs|[y],x,h=>by rw[q2s (c:=.Claim) (x:=y) (xs:=x) h];rfl|[],x,h=>by have h':(none:Option (List (Claim)))=some x:=h;cases h'|_::_::_,x,h=>by have h':(none:Option (List (Claim)))=some x:=h;cases h'
def qi4(x:Frac):D:=.agg [.v (.int .i64 (x.Num)),.v (.int .i64 (x.Den))]
theorem y5a:∀x y:Frac,qi4 x=qi4 y→x=y|⟨a0,a1⟩,⟨b0,b1⟩,h=>by simp only[qi4,D.agg.injEq,List.cons.injEq,and_true]at h;obtain⟨h0,h1⟩:=h;have e0:a0=b0:=q30 h0;have e1:a1=b1:=q30 h1;rw[e0,e1]
def qmi(x:Frac):List Lv:=[.i .i64 x.Num,.i .i64 x.Den]
def qa3:List Lv→Option Frac|[.i .i64 a0,.i .i64 a1]=>some (Frac.mk a0 a1)|_=>none
theorem yb9(cs:List Lv)(x:Frac)(h:qa3 cs=some x):qmi x=cs:=by
 unfold qa3 at h;split at h;·cases h;rfl
 ·cases h
def qhy(x:Tape):D:=.agg [.list (((x.l)).map q7c),.v (.int .i64 (x.at_))]
theorem y4z:∀x y:Tape,qhy x=qhy y→x=y|⟨a0,a1⟩,⟨b0,b1⟩,h=>by simp only[qhy,D.agg.injEq,List.cons.injEq,and_true]at h;obtain⟨h0,h1⟩:=h;have e0:a0=b0:=q17 qa4 h0;have e1:a1=b1:=q30 h1;rw[e0,e1]
def qlt(x:Tape):List Lv:=[.l .i64 x.l,.i .i64 x.at_]
def qb4:List Lv→Option Tape
 |[l0,.i .i64 a1]=>match asL .i64 l0 with|some m0=>some (Tape.mk m0 a1)|_=>none
 |_=>none
theorem yau(cs:List Lv)(x:Tape)(h:qb4 cs=some x):qlt x=cs:=by
 unfold qb4 at h;split at h
 ·split at h;·rename_i m0 h0;cases q2s h0;cases h;rfl
  ·cases h
 ·cases h
def q63(x:Member):D:=.agg [.v (.bool (x.Declared)),.v (.int .i64 (x.Trust.Threshold)),.list (((x.Trust.Nodes)).map q7c),.list (((x.Trust.Inner)).map q2r)]
theorem qfy:∀x y:Member,q63 x=q63 y→x=y|⟨a0,⟨a1,a2,a3⟩⟩,⟨b0,⟨b1,b2,b3⟩⟩,h=>by simp only[q63,D.agg.injEq,List.cons.injEq,and_true]at h;obtain⟨h0,h1,h2,h3⟩:=h;have e0:a0=b0:=qwf h0;have e1:a1=b1:=q30 h1;have e2:a2=b2:=q17 qa4 h2;have e3:a3=b3:=q17 q6u h3;rw[e0,e1,e2,e3]
def qgp(x:Member):List Lv:=[.b x.Declared,.i .i64 x.Trust.Threshold,.l .i64 x.Trust.Nodes,.l .Trust x.Trust.Inner]
def q7j:List Lv→Option Member
 |[.b a0,.i .i64 a1,l2,l3]=>match asL .i64 l2,asL .Trust l3 with|some m2,some m3=>some (Member.mk a0 (Trust.mk a1 m2 m3))|_,_=>none
 |_=>none
theorem y2r(cs:List Lv)(x:Member)(h:q7j cs=some x):qgp x=cs:=by
 unfold q7j at h;split at h
 ·split at h;·rename_i m2 m3 h2 h3;cases q2s h2;cases q2s h3;cases h;rfl
  ·cases h
 ·cases h
def qag(x:List (Member)):D:=.list (x.map q63)
theorem qs8(x y:List (Member))(h:qag x=qag y):x=y:=q17 qfy h
def qc7(x:List (Member)):List Lv:=[.l .Member x]
def q9p:List Lv→Option (List (Member))|[x]=>asL .Member x|_=>none
theorem qu1:∀(cs:List Lv)(x:List (Member)),q9p cs=some x→qc7 x=cs|[y],x,h=>by rw[q2s (c:=.Member) (x:=y) (xs:=x) h];rfl|[],x,h=>by have h':(none:Option (List (Member)))=some x:=h;cases h'|_::_::_,x,h=>by have h':(none:Option (List (Member)))=some x:=h;cases h'
def q5z(x:Nominator):D:=.agg [.v (.int .i64 (x.Node)),.v (.int .i64 (x.Slot)),.v (.int .i64 (x.Round)),.v (.int .i64 (x.Seq)),.v (.int .i64 (x.Trust.Threshold)),.list (((x.Trust.Nodes)).map q7c),.list (((x.Trust.Inner)).map q2r),.v (.string ⟨⟨(x.Own)⟩⟩),.list (((x.Votes)).map enc_s),.list (((x.Accepts)).map enc_s),.list (((x.Candidates)).map enc_s),.list (((x.Heard)).map q0y)]
theorem qp7:∀x y:Nominator,q5z x=q5z y→x=y|⟨a0,a1,a2,a3,⟨a4,a5,a6⟩,a7,a8,a9,a10,a11⟩,⟨b0,b1,b2,b3,⟨b4,b5,b6⟩,b7,b8,b9,b10,b11⟩,h=>by simp only[q5z,D.agg.injEq,List.cons.injEq,and_true]at h;obtain⟨h0,h1,h2,h3,h4,h5,h6,h7,h8,h9,h10,h11⟩:=h;have e0:a0=b0:=q30 h0;have e1:a1=b1:=q30 h1;have e2:a2=b2:=q30 h2;have e3:a3=b3:=q30 h3;have e4:a4=b4:=q30 h4;have e5:a5=b5:=q17 qa4 h5;have e6:a6=b6:=q17 q6u h6;have e7:a7=b7:=y0s h7;have e8:a8=b8:=q17 inj_s h8;have e9:a9=b9:=q17 inj_s h9;have e10:a10=b10:=q17 inj_s h10;have e11:a11=b11:=q17 q7h h11;rw[e0,e1,e2,e3,e4,e5,e6,e7,e8,e9,e10,e11]
def qa0(x:Nominator):List Lv:=[.i .i64 x.Node,.i .i64 x.Slot,.i .i64 x.Round,.i .i64 x.Seq,.i .i64 x.Trust.Threshold,.l .i64 x.Trust.Nodes,.l .Trust x.Trust.Inner,.s x.Own,.l .s x.Votes,.l .s x.Accepts,.l .s x.Candidates,.l .Nomination x.Heard]
def q4x:List Lv→Option Nominator
 |[.i .i64 a0,.i .i64 a1,.i .i64 a2,.i .i64 a3,.i .i64 a4,l5,l6,.s a7,l8,l9,l10,l11]=>match asL .i64 l5,asL .Trust l6,asL .s l8,asL .s l9,asL .s l10,asL .Nomination l11 with|some m5,some m6,some m8,some m9,some m10,some m11=>some (Nominator.mk a0 a1 a2 a3 (Trust.mk a4 m5 m6) a7 m8 m9 m10 m11)|_,_,_,_,_,_=>none
 |_=>none
theorem qrd(cs:List Lv)(x:Nominator)(h:q4x cs=some x):qa0 x=cs:=by
 unfold q4x at h;split at h
 ·split at h;·rename_i m5 m6 m8 m9 m10 m11 h5 h6 h8 h9 h10 h11;cases q2s h5;cases q2s h6;cases q2s h8;cases q2s h9;cases q2s h10;cases q2s h11;cases h;rfl
  ·cases h
 ·cases h
def q93(x:Message):D:=.agg [.v (.int .i64 (x.Node)),.v (.int .i64 (x.Seq)),.v (.int .i64 (x.Trust.Threshold)),.list (((x.Trust.Nodes)).map q7c),.list (((x.Trust.Inner)).map q2r),.list (((x.Votes)).map q6e),.list (((x.Accepts)).map q6e)]
theorem qtv:∀x y:Message,q93 x=q93 y→x=y|⟨a0,a1,⟨a2,a3,a4⟩,a5,a6⟩,⟨b0,b1,⟨b2,b3,b4⟩,b5,b6⟩,h=>by simp only[q93,D.agg.injEq,List.cons.injEq,and_true]at h;obtain⟨h0,h1,h2,h3,h4,h5,h6⟩:=h;have e0:a0=b0:=q30 h0;have e1:a1=b1:=q30 h1;have e2:a2=b2:=q30 h2;have e3:a3=b3:=q17 qa4 h3;have e4:a4=b4:=q17 q6u h4;have e5:a5=b5:=q17 qea h5;have e6:a6=b6:=q17 qea h6;rw[e0,e1,e2,e3,e4,e5,e6]
def qe6(x:Message):List Lv:=[.i .i64 x.Node,.i .i64 x.Seq,.i .i64 x.Trust.Threshold,.l .i64 x.Trust.Nodes,.l .Trust x.Trust.Inner,.l .Claim x.Votes,.l .Claim x.Accepts]
def q6k:List Lv→Option Message
 |[.i .i64 a0,.i .i64 a1,.i .i64 a2,l3,l4,l5,l6]=>match asL .i64 l3,asL .Trust l4,asL .Claim l5,asL .Claim l6 with|some m3,some m4,some m5,some m6=>some (Message.mk a0 a1 (Trust.mk a2 m3 m4) m5 m6)|_,_,_,_=>none
 |_=>none
theorem qy2(cs:List Lv)(x:Message)(h:q6k cs=some x):qe6 x=cs:=by
 unfold q6k at h;split at h
 ·split at h;·rename_i m3 m4 m5 m6 h3 h4 h5 h6;cases q2s h3;cases q2s h4;cases q2s h5;cases q2s h6;cases h;rfl
  ·cases h
 ·cases h
def qbq(x:Config):D:=.agg [.list (((x.Members)).map q63)]
theorem qzg:∀x y:Config,qbq x=qbq y→x=y|⟨a0⟩,⟨b0⟩,h=>by simp only[qbq,D.agg.injEq,List.cons.injEq,and_true]at h;have h0:=h;have e0:a0=b0:=q17 qfy h0;rw[e0]
def qgs(x:Config):List Lv:=[.l .Member x.Members]
def q7d:List Lv→Option Config
 |[l0]=>match asL .Member l0 with|some m0=>some (Config.mk m0)|_=>none
 |_=>none
theorem y0q(cs:List Lv)(x:Config)(h:q7d cs=some x):qgs x=cs:=by
 unfold q7d at h;split at h
 ·split at h;·rename_i m0 h0;cases q2s h0;cases h;rfl
  ·cases h
 ·cases h
def encT:(c:TC)→Ty c→D|.i64=>q7c|.l_i64=>qjv|.b=>enc_b|.Trust=>q2r|.l_Trust=>qct|.s=>enc_s|.l_s=>qtn|.Nomination=>q0y|.l_Nomination=>q5h|.Claim=>q6e|.l_Claim=>qcv|.Frac=>qi4|.Tape=>qhy|.Member=>q63|.l_Member=>qag|.Nominator=>q5z|.Message=>q93|.Config=>qbq
def ycy:(c:TC)→Ty c→List Lv|.i64=>qrg|.l_i64=>qje|.b=>y06|.Trust=>qd4|.l_Trust=>qef|.s=>y2m|.l_s=>qsa|.Nomination=>q9r|.l_Nomination=>q76|.Claim=>qjm|.l_Claim=>qez|.Frac=>qmi|.Tape=>qlt|.Member=>qgp|.l_Member=>qc7|.Nominator=>qa0|.Message=>qe6|.Config=>qgs
def y5m:(c:TC)→List Lv→Option (Ty c)|.i64=>qcx|.l_i64=>qf4|.b=>qj5|.Trust=>q8n|.l_Trust=>qay|.s=>qir|.l_s=>qkd|.Nomination=>q4f|.l_Nomination=>q5m|.Claim=>q8w|.l_Claim=>qak|.Frac=>qa3|.Tape=>qb4|.Member=>q7j|.l_Member=>q9p|.Nominator=>q4x|.Message=>q6k|.Config=>q7d
def aggF:TC→Bool|.i64=>false|.l_i64=>false|.b=>false|.Trust=>true|.l_Trust=>false|.s=>false|.l_s=>false|.Nomination=>true|.l_Nomination=>false|.Claim=>true|.l_Claim=>false|.Frac=>true|.Tape=>true|.Member=>true|.l_Member=>false|.Nominator=>true|.Message=>true|.Config=>true
def sizeF:TC→Nat|.i64=>1|.l_i64=>1|.b=>1|.Trust=>3|.l_Trust=>1|.s=>1|.l_s=>1|.Nomination=>7|.l_Nomination=>1|.Claim=>2|.l_Claim=>1|.Frac=>2|.Tape=>2|.Member=>4|.l_Member=>1|.Nominator=>12|.Message=>7|.Config=>1
def y39:List (TypeId×TC×TypeId):=[(22,.i64,3),(26,.Trust,28),(33,.Nominator,37),(34,.s,9),(35,.Nomination,55),(44,.Member,51),(140,.Message,143),(141,.Claim,184)]
def y7a:List (TypeId×List (Option TC)):=[(22,[some .i64]),(26,[some .Trust]),(27,[none,some .i64,some .Trust]),(28,[none,some .i64,some .Trust]),(33,[some .Nominator]),(34,[some .s]),(35,[some .Nomination]),(36,[none,none,none,none,none,some .i64,some .Trust,none,some .s,some .s,some .s,some .Nomination]),(37,[none,none,none,none,none,some .i64,some .Trust,none,some .s,some .s,some .s,some .Nomination]),(44,[some .Member]),(45,[some .Member]),(46,[some .Member]),(50,[none,none,some .i64,some .Trust]),(51,[none,none,some .i64,some .Trust]),(54,[none,none,none,some .i64,some .Trust,some .s,some .s]),(55,[none,none,none,some .i64,some .Trust,some .s,some .s]),(76,[none]),(79,[some .i64,none]),(80,[some .i64,none]),(105,[none]),(140,[some .Message]),(141,[some .Claim]),(142,[none,none,none,some .i64,some .Trust,some .Claim,some .Claim]),(143,[none,none,none,some .i64,some .Trust,some .Claim,some .Claim])]
def elemF:List (TypeId×TC×TypeId)→TypeId→Option TC|[],_=>none|(u,c,_)::r,t=>if u=t then some c else elemF r t
def sig:Sig:={TC:=TC,Ty:=Ty,enc:=encT,cells:=ycy,ofCells:=y5m,agg:=aggF,size:=sizeF,elem:=elemF y39,lists:=look1 [] y7a}
theorem qxb(P:Program):∀(tab:List (TypeId×TC×TypeId)),(tab.all fun p=>q29 P p.1==some p.2.2&&tyAgg P p.2.2==some (aggF p.2.1)&&q0k P p.2.2==some (sizeF p.2.1))=true→∀t c,elemF tab t=some c→∃e,q29 P t=some e∧tyAgg P e=some (aggF c)∧q0k P e=some (sizeF c)
 |[],_,_,_,h=>by cases h|(u,d,e)::r,ha,t,c,h=>by
  simp only[List.all_cons,aT,beq_iff_eq]at ha;simp only[elemF]at h;split at h;·rename_i hu;cases h;subst hu;exact⟨e,ha.1.1.1,ha.1.1.2,ha.1.2⟩
  ·exact qxb P r ha.2 t c h
theorem qup(x:Trust):sig.enc .Trust x=(packT (S:=sig) true (qd4 x)).toD:=by cases x;show q2r _=_;simp only[q2r,qf0];rfl
theorem sigOk:sig.Ok Tryz.prog where
 enc_eq:=fun c x=>by cases c<;>first|rfl|exact qup x
 of_eq:=fun c cs x h=>by
  have:sig.cells c x=cs:=by
   cases c;·exact ye8 cs x h
   ·exact y70 cs x h
   ·exact of_b cs x h
   ·exact y5j cs x h
   ·exact qy1 cs x h
   ·exact of_s cs x h
   ·exact ye9 cs x h
   ·exact qoi cs x h
   ·exact qjg cs x h
   ·exact y5i cs x h
   ·exact qy3 cs x h
   ·exact yb9 cs x h
   ·exact yau cs x h
   ·exact y2r cs x h
   ·exact qu1 cs x h
   ·exact qrd cs x h
   ·exact qy2 cs x h
   ·exact y0q cs x h
  rw[this]
 inj:=fun c x y h=>by
  cases c;·exact qa4 x y h
  ·exact y4n x y h
  ·exact inj_b x y h
  ·exact q6u x y h
  ·exact qsq x y h
  ·exact inj_s x y h
  ·exact ybs x y h
  ·exact q7h x y h
  ·exact qho x y h
  ·exact qea x y h
  ·exact qtu x y h
  ·exact y5a x y h
  ·exact y4z x y h
  ·exact qfy x y h
  ·exact qs8 x y h
  ·exact qp7 x y h
  ·exact qtv x y h
  ·exact qzg x y h
 len:=fun c x=>by cases c<;>rfl
 pos:=fun c=>by cases c<;>decide
 one:=fun c h=>by cases c<;>first|rfl|cases h
 elem:=qxb Tryz.prog y39 (by kernel_rfl)
def yck:List (Nat×List (OT sig)):=[(4,[.lf .b]),(8,[.ptr 0 0]),(15,[.ag .Config]),(10,[.lf (.i .i64)]),(16,[.lf (.i .i64)]),(17,[.lf (.i .i64),.lf (.i .i64)]),(59,[.ref 1,.ref 1]),(61,[.lf (.i .i64),.lf (.i .i64)]),(62,[.lf (.i .i64)]),(9,[.lf (.i .i64)]),(111,[.lf (.i .i64)]),(112,[.lf .b,.lf (.i .i64)]),(113,[.lf (.l .i64),.lf (.i .i64)]),(148,[.lf (.i .i64)]),(60,[.lf (.i .i64)]),(149,[.lf (.i .i64)]),(151,[.ag .Config]),(150,[.lf .b,.lf (.i .i64)]),(152,[.lf (.i .i64)]),(154,[.lf (.i .i64)]),(153,[.lf (.l .i64)]),(176,[.lf (.i .i64)]),(66,[.lf .b]),(178,[.lf (.i .i64),.lf (.i .i64)]),(196,[.lf (.i .i64)]),(18,[.lf .s]),(12,[.ag .Nominator,.lf (.i .i64)]),(55,[.lf .b]),(56,[.lf (.i .i64)]),(58,[.ag .Nominator]),(57,[.ag .Nominator]),(97,[.lf (.i .i64)]),(98,[.lf (.i .i64)]),(99,[.lf (.i .i64)]),(102,[.lf (.l .s)]),(103,[.ag .Config]),(104,[.lf .s,.lf .b]),(100,[.ag .Trust]),(101,[.ref 0]),(134,[.lf .b]),(137,[.lf (.i .i64),.lf (.i .i64)]),(139,[.lf (.i .i64),.lf (.i .i64)]),(140,[.lf (.l .i64)]),(71,[.ref 0]),(65,[.ag .Nomination]),(141,[.lf (.l .s)]),(138,[.ref 0]),(163,[.lf (.i .i64)]),(164,[.lf (.i .i64)]),(27,[.ag .Trust]),(108,[.ag .Trust]),(109,[.ag .Trust]),(74,[.ag .Trust]),(75,[.lf (.i .i64)]),(117,[.lf (.l .i64)]),(118,[.lf (.i .i64)]),(119,[.lf (.i .i64)]),(120,[.lf (.i .i64)]),(155,[.lf .b]),(181,[.lf .b,.lf (.i .i64)]),(197,[.lf .b]),(24,[.lf (.l .i64)]),(83,[.lf .b]),(110,[.lf (.i .i64)]),(123,[.lf .b]),(21,[.lf .b]),(179,[.ag .Trust]),(198,[.ag .Trust]),(180,[.lf (.i .i64)]),(161,[.lf (.i .i64)]),(184,[.lf (.l .i64)]),(19,[.ag .Nominator,.lf (.i .i64)]),(30,[.lf .b]),(63,[.ag .Nominator]),(78,[.lf .b]),(79,[.lf .b]),(80,[.lf .b]),(92,[.lf .b]),(89,[.lf .b]),(121,[.lf (.i .i64)]),(131,[.lf .b]),(132,[.lf .b]),(20,[.ag .Nomination]),(22,[.ag .Nomination]),(23,[.ag .Nominator,.lf (.i .i64)]),(13,[.lf (.l .Nominator),.lf .b]),(64,[.ag .Nomination]),(67,[.lf (.l .s)]),(43,[.lf .b]),(68,[.lf (.i .i64),.lf .b]),(72,[.lf (.l .Nomination)]),(105,[.lf (.l .s)]),(144,[.lf (.i .i64),.lf .b]),(145,[.lf (.l .s)]),(142,[.ag .Config]),(106,[.lf (.i .i64),.lf (.i .i64)]),(82,[.lf .b]),(143,[.lf .b]),(122,[.lf .b]),(171,[.lf .b]),(172,[.lf .b]),(147,[.lf (.i .i64)]),(146,[.lf .b]),(158,[.lf (.i .i64)]),(191,[.lf .b]),(192,[.lf (.i .i64)]),(193,[.lf .b]),(175,[.lf (.i .i64),.lf (.l .i64)]),(165,[.lf (.i .i64)]),(166,[]),(167,[.lf (.l .s)]),(189,[.lf (.i .i64)]),(188,[]),(210,[.lf (.i .i64)]),(135,[.lf .b]),(136,[.lf .b]),(157,[.lf (.i .i64),.lf (.i .i64)]),(177,[.lf .b]),(215,[.lf (.i .i64)]),(73,[.lf .b]),(50,[.lf (.i .i64)]),(70,[.lf (.i .i64)]),(95,[.lf (.i .i64)]),(94,[.lf (.i .i64)]),(114,[.lf .b]),(133,[.lf .b]),(81,[.lf .b]),(25,[.lf .s,.lf .b]),(26,[.lf .b]),(14,[.lf .b]),(69,[.lf (.i .i64)]),(107,[.lf .b]),(168,[.lf .b]),(169,[.ag .Trust]),(170,[.lf .b]),(190,[.lf .b]),(195,[.lf (.i .i64),.lf .b]),(186,[.lf .b]),(187,[.lf (.i .u32)]),(200,[.ag .Frac,.lf .b]),(218,[.lf .b]),(224,[.lf (.i .i64)]),(201,[]),(202,[]),(203,[]),(204,[.lf (.i .i64),.lf (.i .i64)]),(205,[]),(206,[.lf .b]),(207,[.lf (.i .i64)]),(208,[.lf (.i .i64),.lf .b]),(220,[.lf (.i .u64)]),(222,[.lf (.i .i64)]),(223,[.lf (.i .i64)]),(225,[.lf (.i .i64),.lf (.i .i64)]),(211,[.lf .b]),(212,[.lf (.i .i64)]),(214,[.lf .b]),(219,[]),(221,[.lf (.i .u64)]),(31,[.lf .b]),(84,[.lf .b]),(39,[.lf .b])]
def yaw:List (Nat×List (List (OT sig))):=[(8,[[.lf (.l .i64),.lf (.i .i64)]]),(59,[[.own .Member false]]),(101,[[.own .s false]]),(71,[[.own .Nomination false]]),(138,[[.own .i64 false]])]
noncomputable def tn:TEn:={E:=env,S:=sig,res:=look1 [] yck,news:=look1 [] yaw,outs:=fun f=>if List.contains [72,145,167] f then some [[.undef]]else none,cut:=fun _ _=>false}
def qh8(fn:Func):Code:=match fn.body with|some c=>c|none=>.skip
def q08(fn:Func)(p:List Nat):Code:=qil p (qh8 fn)
def yd2(fn:Func)(p ms:List Nat):List Fr:=qjo p (qh8 fn) ms []
abbrev o0':OSpec sig:=⟨[.lf .b],[]⟩
abbrev o1':OSpec sig:=⟨[.lf (.i .i64)],[]⟩
abbrev o2':OSpec sig:=⟨[],[[.own .s false]]⟩
abbrev o3':OSpec sig:=⟨[.lf (.i .i64),.lf (.i .i64)],[]⟩
abbrev o4':OSpec sig:=⟨[.lf (.l .i64)],[]⟩
abbrev o5':OSpec sig:=⟨[.ag .Trust],[[.lf (.l .i64),.lf (.i .i64)]]⟩
abbrev o6':OSpec sig:=⟨[.ag .Trust],[]⟩
abbrev o7':OSpec sig:=⟨[.lf (.i .i64),.lf .b],[[.own .s false]]⟩
abbrev o8':OSpec sig:=⟨[.lf (.l .s)],[]⟩
abbrev o9':OSpec sig:=⟨[.ag .Config],[]⟩
abbrev o10':OSpec sig:=⟨[.ag .Nominator],[]⟩
abbrev o11':OSpec sig:=⟨[.lf (.i .i64),.lf .b],[]⟩
abbrev o12':OSpec sig:=⟨[.lf .b],[[.own .s false]]⟩
abbrev o13':OSpec sig:=⟨[.lf (.i .i64)],[[.own .s false]]⟩
abbrev o14':OSpec sig:=⟨[.lf .s,.lf .b],[]⟩
abbrev o15':OSpec sig:=⟨[.lf (.l .Nominator),.lf .b],[]⟩
abbrev o16':OSpec sig:=⟨[.ag .Config],[[.lf (.l .i64),.lf (.i .i64)]]⟩
abbrev o17':OSpec sig:=⟨[.lf (.i .i64)],[[.lf (.l .i64),.lf (.i .i64)]]⟩
abbrev o18':OSpec sig:=⟨[.lf .b,.lf (.i .i64)],[]⟩
abbrev o19':OSpec sig:=⟨[.ag .Nominator,.lf (.i .i64)],[]⟩
abbrev o20':OSpec sig:=⟨[.ag .Nomination],[]⟩
abbrev o21':OSpec sig:=⟨[.lf (.l .i64)],[[.lf (.l .i64),.lf (.i .i64)]]⟩
abbrev o22':OSpec sig:=⟨[.ref 1,.ref 1],[[.lf (.l .i64),.lf (.i .i64)],[.own .Member false]]⟩
abbrev o23':OSpec sig:=⟨[.lf (.l .i64),.lf (.i .i64)],[]⟩
abbrev o24':OSpec sig:=⟨[.lf .b],[[.lf (.i .i64),.lf (.i .i64),.lf (.i .i64),.lf (.i .i64),.lf (.i .i64),.lf (.l .i64),.lf (.l .Trust),.lf .s,.lf (.l .s),.lf (.l .s),.lf (.l .s),.lf (.l .Nomination)]]⟩
abbrev o25':OSpec sig:=⟨[.lf (.i .i64)],[[.lf (.i .i64),.lf (.i .i64),.lf (.i .i64),.lf (.i .i64),.lf (.i .i64),.lf (.l .i64),.lf (.l .Trust),.lf .s,.lf (.l .s),.lf (.l .s),.lf (.l .s),.lf (.l .Nomination)]]⟩
abbrev o26':OSpec sig:=⟨[.lf (.l .s)],[[.lf (.l .i64),.lf (.i .i64)]]⟩
abbrev o27':OSpec sig:=⟨[.lf (.i .i64),.lf (.l .i64)],[]⟩
abbrev o28':OSpec sig:=⟨[.ag .Frac,.lf .b],[]⟩
abbrev o29':OSpec sig:=⟨[.lf (.i .i64)],[[.own .s false],[.lf (.i .i64)]]⟩
abbrev o30':OSpec sig:=⟨[.ptr 0 0],[[.lf (.l .i64),.lf (.i .i64)]]⟩
abbrev o31':OSpec sig:=⟨[.lf .s],[[.lf (.l .i64),.lf (.i .i64)]]⟩
abbrev o32':OSpec sig:=⟨[.ag .Nomination],[[.lf (.l .i64),.lf (.i .i64)]]⟩
abbrev o33':OSpec sig:=⟨[.lf (.i .i64),.lf (.i .i64)],[[.own .s false]]⟩
abbrev o34':OSpec sig:=⟨[.lf (.i .i64),.lf (.i .i64)],[[.own .s false],[.lf (.i .i64)]]⟩
abbrev o35':OSpec sig:=⟨[.lf (.i .u64)],[[.lf (.i .u64)]]⟩
def eL{α:Type}(b a:Option α):Prop:=∀r,a=some r→b=some r
theorem cL{f:FuncId}{fn:Func}{vs:List (TL sig)}{hs:THeap sig}(o:OSpec sig)(hf:Tryz.prog.funcs[f]?=some fn){p:Option o.Out}(hok:env.ok f=true:=by kernel_rfl)(hb:fn.body=some (qh8 fn):=by kernel_rfl)(hn0:(decide (vs.length≤fn.ntmps)&&(q7l Tryz.prog fn (qh8 fn)).isNone&&(env.seek f).isNone&&(env.lib f).isNone)=true:=by kernel_rfl)(h:te tn ⟨f,fn,hs.length⟩ o 100000 (qh8 fn) [] ⟨bindT 0 vs,hs⟩=p:=by kernel_rfl):eL (callC tn f vs hs o) p:=y6o (T:=tn) sigOk 100000 hok hf hb hn0 h
theorem gL{F:Fx}(o:OSpec sig)(b:Code){c:Code}{K:List Fr}{s:TSt sig}{p:Option o.Out}(hc:c=.loop b:=by kernel_rfl)(h:te tn F o 100000 b (.loop b s.heap.length::K) s=p:=by kernel_rfl):eL (goC tn F o c K s) p:=qxz (T:=tn) sigOk 100000 hc h
end Go.Proofs.YtglokalgdbegeaaGreat
