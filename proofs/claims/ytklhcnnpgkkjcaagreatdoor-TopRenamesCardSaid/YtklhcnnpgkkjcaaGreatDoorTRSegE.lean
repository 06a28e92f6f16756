/- Laws of the printed functions. -/
import Derived.Test.YtklhcnnpgkkjcaaGreatDoorTRSegD
import Derived.Test.YtklhcnnpgkkjcaaGreatDoorRows
import Derived.ProofKit
import Derived.LaidMore
import Derived.OpenShut
import Derived.Stop.Joined
namespace Go.Proofs.YtklhcnnpgkkjcaaGreatDoor
open Go Go.Ab Go.Sort
variable {a b ill k q s x y z : Nat} {c : Config}
theorem nz:a≠0↔∃i,a.testBit i=true:=⟨y64,fun⟨i,hi⟩e=>by rw[e,Nat.zero_testBit]at hi;cases hi⟩
theorem qyp:a&&&b≠0↔∃i,a.testBit i=true/\b.testBit i=true:=by rw[nz];simp only[Nat.testBit_and,aT]
theorem qs4:ndiff a b≠0↔∃i,a.testBit i=true/\b.testBit i=false:=by rw[nz];simp only[q04,aT,Bool.not_eq_true']
def full(c:Config):Nat:=2^c.Members.length-1
theorem qra{i:Nat}:(full c).testBit i=decide (i<c.Members.length):=by rw[full,Nat.testBit_two_pow_sub_one]
theorem qew(hn:c.Members.length<=10):full c<1024:=by have:=pow10 hn;unfold full;omega
theorem q6z:s<2^c.Members.length↔Sub s (full c):=q2w
theorem qho(hn:c.Members.length<=10):Sub (decl c) (full c):=q6z.1 (qc8 hn)
structure PairOk(n:Nat)(lo hi:Config):Prop where
 lok:ConfOk n lo
 hik:ConfOk n hi
 len:lo.Members.length=hi.Members.length
 dec:decl lo=decl hi
 imp:∀k s,(decl lo).testBit k=true->s<1024->sat s (tr hi k)=true->sat s (tr lo k)=true
variable {n : Nat} {lo hi : Config}
theorem PairOk.self(h:ConfOk n c):PairOk n c c:=⟨h,h,rfl,rfl,fun _ _ _ _ h=>h⟩
theorem PairOk.fullEq(h:PairOk n lo hi):full lo=full hi:=by unfold full;rw[h.len]
theorem qrl(h:PairOk n lo hi)(hq:q30 hi q):q30 lo q:=⟨hq.1,by rw[h.dec];exact hq.2.1,fun k hk=>h.imp k q (by rw[h.dec];exact hq.2.1 k hk) (y8e hq) (hq.2.2 k hk)⟩
theorem qrk(h:Sub s z){t:Trust}(hs:sat s t=true):sat z t=true:=qyk (qx6 h) t hs
theorem ycl(ha:q30 c a)(hb:q30 c b):q30 c (a|||b):=by
 refine⟨fun e=>ha.1 (Nat.le_zero.1 (e▸(Nat.left_le_or:a<=a|||b))),ha.2.1.or hb.2.1,fun k hk=>?_⟩;rw[Nat.testBit_or,Bool.or_eq_true]at hk;rcases hk with hk|hk;·exact qrk Sub.left (ha.2.2 k hk)
 .exact qrk Sub.right (hb.2.2 k hk)
def QL(c:Config)(b y:Nat):Prop:=y≠0/\Sub y (decl c)/\(∀i,y.testBit i=true->b.testBit i=false)/\∀k,y.testBit k=true->sat (y|||b) (tr c k)=true
theorem yd9:q30 (delC b c) y↔QL c b y:=by
 constructor;·intro h;have hd:∀i,y.testBit i=true->b.testBit i=false:=fun i hi=>(q4m.1 (h.2.1 i hi)).2;have h':=(qpr (y8e h) hd).1 h;exact⟨h'.1,h'.2.1,hd,h'.2.2⟩
 .rintro⟨h1,h2,h3,h4⟩;exact(qpr (h2.lt (qlw c)) h3).2 ⟨h1,h2,h4⟩
theorem qcc{d:Nat}(hbd:Sub b d)(h:QL c b y)(h0:ndiff y d≠0):QL c d (ndiff y d):=by
 refine⟨h0,fun i hi=>h.2.1 i ?_,fun i hi=>?_,fun k hk=>?_⟩;·rw[q04,aT]at hi;exact hi.1
 .rw[q04,aT,Bool.not_eq_true']at hi;exact hi.2
 .rw[q04,aT]at hk;rw[qw7];refine qrk (fun i hi=>?_) (h.2.2.2 k hk.1);rw[Nat.testBit_or,Bool.or_eq_true]at hi⊢;exact hi.imp id (hbd i)
theorem y7y(h:q30 c q):QL c 0 q:=⟨h.1,h.2.1,fun i _=>Nat.zero_testBit i,fun k hk=>by rw[Nat.or_zero];exact h.2.2 k hk⟩
theorem qlf(b:Nat):Sub 0 b:=fun i hi=>by rw[Nat.zero_testBit]at hi;cases hi
theorem qsk(h:q30 c q)(hd:∀i,q.testBit i=true->b.testBit i=false):QL c b q:=⟨h.1,h.2.1,hd,fun k hk=>qrk Sub.left (h.2.2 k hk)⟩
theorem qcu(hn:c.Members.length<=10):q4x c b=true↔∃x y,QL c b x/\QL c b y/\x&&&y=0:=by unfold q4x;rw[y6n (by rw[qxi];exact hn)];simp only[yd9]
theorem qqm(hn:c.Members.length<=10)(h:q4x c b=false)(hx:QL c b x)(hy:QL c b y):∃i,x.testBit i=true/\y.testBit i=true:=by apply qyp.1;intro e;rw[(qcu hn).2 ⟨x,y,hx,hy,e⟩]at h;cases h
def qms(c:Config)(b:Nat):Bool:=ndiff (full c) b==0||quoB c (ndiff (full c) b)
def isB(lo hi:Config)(b:Nat):Bool:=qms hi b&&!q4x lo b
theorem y1k(hn:c.Members.length<=10)(b:Nat):ndiff (full c) b<1024:=q96 (qew hn)
theorem qmh(hn:c.Members.length<=10):qms c b=true↔ndiff (full c) b=0\/q30 c (ndiff (full c) b):=by unfold qms;rw[Bool.or_eq_true,beq_iff_eq,qqj (y1k hn b)]
theorem ConfOk.le10(h:ConfOk n c)(hn:n<=10):c.Members.length<=10:=Nat.le_trans h.le hn
theorem qi4(h:PairOk n lo hi)(hn:n<=10):isB lo hi b=true↔(ndiff (full lo) b=0\/q30 hi (ndiff (full lo) b))/\q4x lo b=false:=by unfold isB;rw[aT,qmh (h.hik.le10 hn),<-h.fullEq,Bool.not_eq_true']
theorem q4o:ndiff a b=0↔Sub a b:=by rw[<-qd1,subB,beq_iff_eq]
theorem y67(h:PairOk n lo hi)(hn:n<=10):isB lo hi (full lo)=true:=by rw[qi4 h hn];refine⟨.inl (q4o.2 (Sub.refl _)),?_⟩;rw[<-Bool.not_eq_true,qcu (h.lok.le10 hn)];rintro⟨x,_,⟨h1,h2,h3,_⟩,_⟩;obtain⟨i,hi⟩:=nz.1 h1;have:=qho (h.lok.le10 hn) i (h2 i hi);rw[h3 i hi]at this;cases this
theorem meets(h:PairOk n lo hi)(hn:n<=10)(hx:isB lo hi x=true)(hy:isB lo hi y=true)(hill:q4x lo ill=false)(ix:Sub ill x)(iy:Sub ill y)(lx:Sub x (full lo))(ly:Sub y (full lo)):isB lo hi (x&&&y)=true:=by
 have hle:=h.lok.le10 hn;obtain⟨ax,sx⟩:=(qi4 h hn).1 hx;obtain⟨ay,sy⟩:=(qi4 h hn).1 hy;rcases ax with ax|ax;·rw[show x&&&y=y from(Sub.and_right x y).antisymm (fun i hi=>by rw[Nat.testBit_and,q4o.1 ax i (ly i hi),hi];rfl)];exact hy
 rcases ay with ay|ay;·rw[show x&&&y=x from(Sub.and_left x y).antisymm (fun i hi=>by rw[Nat.testBit_and,q4o.1 ay i (lx i hi),hi];rfl)];exact hx
 have hU:ndiff (full lo) (x&&&y)=ndiff (full lo) x|||ndiff (full lo) y:=by apply Nat.eq_of_testBit_eq;intro i;simp only[Nat.testBit_or,q04,Nat.testBit_and];cases(full lo).testBit i<;>cases x.testBit i<;>cases y.testBit i<;>rfl
 rw[qi4 h hn,hU];refine⟨.inr (ycl ax ay),?_⟩;have bx:∀i,(ndiff (full lo) x).testBit i=true->x.testBit i=false:=fun i hi=>by rw[q04,aT,Bool.not_eq_true']at hi;exact hi.2
 have by':∀i,(ndiff (full lo) y).testBit i=true->y.testBit i=false:=fun i hi=>by rw[q04,aT,Bool.not_eq_true']at hi;exact hi.2
 have off:∀{a b:Nat},Sub a b->∀i,b.testBit i=false->a.testBit i=false:=fun{a b}hs i hi=>by cases ha:a.testBit i with|false=>rfl|true=>rw[hs i ha]at hi;cases hi
 obtain⟨m,m1,m2⟩:=qqm hle hill (qsk (qrl h ax) fun i hi=>off ix i (bx i hi)) (qsk (qrl h ay) fun i hi=>off iy i (by' i hi));have claim:∀A,QL lo (x&&&y) A->ndiff A x≠0:=by intro A hA h0;have hsub:=q4o.1 h0;obtain⟨i,hi⟩:=nz.1 hA.1;have hxy:=hA.2.2.1 i hi;rw[Nat.testBit_and,hsub i hi,tA']at hxy;have hAy:=qcc (Sub.and_right x y) hA (qs4.2 ⟨i,hi,hxy⟩);have hUy:=qcc (qlf y) (y7y (qrl h ax)) (qs4.2 ⟨m,m1,by' m m2⟩);obtain⟨j,j1,j2⟩:=qqm hle sy hAy hUy;rw[q04,aT]at j1 j2;have:=bx j j2.1;rw[hsub j j1.1]at this;cases this
 rw[<-Bool.not_eq_true,qcu hle];rintro⟨A,B,hA,hB,hAB⟩;obtain⟨j,j1,j2⟩:=qqm hle sx (qcc (Sub.and_left x y) hA (claim A hA)) (qcc (Sub.and_left x y) hB (claim B hB));rw[q04,aT]at j1 j2;exact qyp.2 ⟨j,j1.1,j2.1⟩ hAB
def alls(lo hi:Config)(ill:Nat):List Nat:=(q1y (full lo)).filter fun b=>ndiff ill b==0&&isB lo hi b
theorem q58:b∈alls lo hi ill↔Sub b (full lo)/\Sub ill b/\isB lo hi b=true:=by unfold alls;rw[List.mem_filter,q0x,aT,beq_iff_eq,q4o]
theorem y48(h:PairOk n lo hi)(hn:n<=10)(hill:Sub ill (full lo)):full lo∈alls lo hi ill:=q58.2 ⟨Sub.refl _,hill,y67 h hn⟩
def ands:List Nat->Nat->Nat:=fun l a=>l.foldl (fun a b=>a&&&b) a
theorem qll:∀(l:List Nat)(a:Nat),Sub (ands l a) a/\∀b∈l,Sub (ands l a) b
 |[],a=>⟨Sub.refl _,fun b hb=>by cases hb⟩|x::l,a=>by
  obtain⟨h1,h2⟩:=qll l (a&&&x);refine⟨h1.trans (Sub.and_left _ _),fun b hb=>?_⟩;rcases List.mem_cons.1 hb with rfl|hb;·exact h1.trans (Sub.and_right _ _)
  .exact h2 b hb
theorem qlu{p:Nat->Prop}(hp:∀a b,p a->p b->p (a&&&b)):∀(l:List Nat)(a:Nat),p a->(∀b∈l,p b)->p (ands l a)|[],_,ha,_=>ha|x::l,a,ha,h=>qlu hp l (a&&&x) (hp a x ha (h x (by simp))) (fun b hb=>h b (by simp[hb]))
theorem y9s:∀(l:List Nat)(a:Nat),Sub z a->(∀b∈l,Sub z b)->Sub z (ands l a):=fun l a ha h=>qlu (p:=fun b=>Sub z b) (fun a b ha hb i hi=>by rw[Nat.testBit_and,ha i hi,hb i hi];rfl) l a ha h
def bef(lo hi:Config)(ill:Nat):Nat:=if q4x lo ill then full lo else ands (alls lo hi ill) (full lo)
theorem y8d(h:PairOk n lo hi)(hn:n<=10)(hill:Sub ill (full lo))(hs:q4x lo ill=false):bef lo hi ill∈alls lo hi ill:=by unfold bef;rw[hs];exact qlu (p:=fun b=>b∈alls lo hi ill) (fun a b ha hb=>by obtain⟨a1,a2,a3⟩:=q58.1 ha;obtain⟨b1,b2,b3⟩:=q58.1 hb;exact q58.2 ⟨(Sub.and_left _ _).trans a1,fun i hi=>by rw[Nat.testBit_and,a2 i hi,b2 i hi];rfl,meets h hn a3 b3 hs a2 b2 a1 b1⟩) _ _ (y48 h hn hill) fun b hb=>hb
theorem qzo(h:PairOk n lo hi)(hn:n<=10)(hill:Sub ill (full lo))(h0:ndiff (full lo) (bef lo hi ill)≠0):q4x lo ill=false/\q30 hi (ndiff (full lo) (bef lo hi ill)):=by cases hs:q4x lo ill with|true=>exfalso;apply h0;rw[q4o];unfold bef;rw[hs];exact Sub.refl _|false=>obtain⟨_,_,hb⟩:=q58.1 (y8d h hn hill hs);exact⟨rfl,((qi4 h hn).1 hb).1.resolve_left h0⟩
theorem ya7(h:ConfOk n c)(_hn:n<=10)(hk:(decl c).testBit k=true):Sub (uses (tr c k)) (full c):=by obtain⟨m,m1,m2,m3⟩:=qg4 hk;have:=(h.good m (List.mem_of_getElem? m1) m3).2;rw[m2];exact q6z.1 (qpc _ this)
theorem y6v(h:ConfOk n c)(hn:n<=10)(hk:(decl c).testBit k=true)(hs:∀i,(full c).testBit i=true->s.testBit i=z.testBit i):sat s (tr c k)=sat z (tr c k):=by apply y79;intro j hj;obtain⟨i,rfl,hi,hb⟩:=ybt hj;rw[qbx hi,qbx hi];exact hs i (ya7 h hn hk i hb)
theorem follows(h:PairOk n lo hi)(hn:n<=10){g:Nat}(hill:Sub ill (full lo))(hg:q30 lo g)(h0:g&&&ndiff (full lo) (bef lo hi ill)≠0)(hx:Sub (g&&&ndiff (full lo) (bef lo hi ill)) x)(hne:¬Sub (ndiff (full lo) (bef lo hi ill)) x):∃v,(ndiff (full lo) (bef lo hi ill)).testBit v=true/\x.testBit v=false/\blk lo v (ndiff (full lo) (bef lo hi ill)&&&x)=true:=by
 have hle:=h.lok.le10 hn;have ha0:ndiff (full lo) (bef lo hi ill)≠0:=by obtain⟨i,_,h2⟩:=qyp.1 h0;exact nz.2 ⟨i,h2⟩
 obtain⟨hs,hq⟩:=qzo h hn hill ha0;have hb:=y8d h hn hill hs;obtain⟨_,_,hbi⟩:=q58.1 hb;have hsb:=((qi4 h hn).1 hbi).2;generalize hB:bef lo hi ill=b at*;apply Classical.byContradiction;intro hno;have hno':∀v,(ndiff (full lo) b).testBit v=true->x.testBit v=false->blk lo v (ndiff (full lo) b&&&x)=false:=fun v h1 h2=>by cases hk:blk lo v (ndiff (full lo) b&&&x)with|false=>rfl|true=>exact absurd ⟨v,h1,h2,hk⟩ hno
 have hdec:Sub (ndiff (full lo) b) (decl lo):=by rw[h.dec];exact hq.2.1
 have hW0:ndiff (ndiff (full lo) b) x≠0:=fun e=>hne (q4o.1 e);have hW:QL lo b (ndiff (ndiff (full lo) b) x):=by
  refine⟨hW0,fun i hi=>hdec i ?_,fun i hi=>?_,fun k hk=>?_⟩;·rw[q04,aT]at hi;exact hi.1
  .rw[q04,q04]at hi;simp only[aT,Bool.not_eq_true']at hi;exact hi.1.2
  .rw[q04 (ndiff (full lo) b) x,aT,Bool.not_eq_true']at hk;have hkd:=hdec k hk.1;have:=hno' k hk.1 hk.2;unfold blk at this;rw[hkd,tA',Bool.not_eq_false']at this;rw[<-this];apply y6v h.lok hn hkd;intro i hi;have h10:(1023:Nat).testBit i=true:=by rw[qra,dT']at hi;rw[qwa,dT'];omega
   rw[Nat.testBit_or,Nat.testBit_or,q04,q04,q04,Nat.testBit_and,q04,qfm,hi,h10];by_cases hki:k=i;·subst hki;rw[hk.2];have:=hk.1;rw[q04,hi,tA']at this;simp[this]
   .rw[decide_eq_false hki];cases b.testBit i<;>cases x.testBit i<;>rfl
 have hgl:=qcc (qlf b) (y7y hg) (by obtain⟨i,h1,h2⟩:=qyp.1 h0;rw[q04,aT,Bool.not_eq_true']at h2;exact qs4.2 ⟨i,h1,h2.2⟩);obtain⟨i,i1,i2⟩:=qqm hle hsb hW hgl;rw[q04,aT,Bool.not_eq_true']at i1;rw[q04,aT]at i2;have:=hx i (by rw[Nat.testBit_and,i2.1,i1.1];rfl);rw[i1.2]at this;cases this
end Go.Proofs.YtklhcnnpgkkjcaaGreatDoor
namespace Go.Proofs.YtklhcnnpgkkjcaaGreatDoor
open Go Go.Ab Go.Sort
end Go.Proofs.YtklhcnnpgkkjcaaGreatDoor
namespace Go.Proofs.YtklhcnnpgkkjcaaGreatDoor
open Go Go.Ab Go.Sort
variable {c hi lo : Config} {i s : Nat} {m : Member}
theorem qcv(hn:c.Members.length<=10):z5b c=some ((full c:Nat):Int):=by apply ydg;rw[q13 (by omega),q5b hn];rfl
theorem qlg(h:c.Members[i]?=some m)(hi:i<10):(decl c).testBit i=m.Declared:=by rw[Bool.eq_iff_iff,q5v];exact⟨fun⟨_,m',h1,h2⟩=>by rw[h]at h1;cases h1;exact h2,fun h2=>⟨hi,m,h,h2⟩⟩
theorem qs6(h:c.Members[i]?=some m):tr c i=m.Trust:=by unfold tr;rw[h];rfl
theorem ValidC.mem(h:ValidC c)(hm:c.Members[i]?=some m)(hd:m.Declared=true):valid m.Trust=true/\uses m.Trust<2^c.Members.length:=by have:=h.2 m (List.mem_of_getElem? hm);unfold MemV at this;rwa [if_pos hd]at this
def impK(lo hi:Config)(k:Nat):Bool:=!(decl lo).testBit k||impB (tr hi k) (tr lo k)
def impsB(lo hi:Config):Bool:=(List.range' 0 lo.Members.length).all (impK lo hi)
def pairE(lo hi:Config):Int:=if cerr lo≠0 then cerr lo else if cerr hi≠0 then cerr hi else if lo.Members.length≠hi.Members.length then 1 else if decl lo≠decl hi then 1 else if 7<lo.Members.length then 3 else if impsB lo hi=true then 0 else 14
theorem qct(h:pairE lo hi=0):ValidC lo/\ValidC hi/\lo.Members.length=hi.Members.length/\decl lo=decl hi/\lo.Members.length<=7:=by
 unfold pairE at h;split at h;·rename_i h1;exact absurd h h1
 .rename_i h1;split at h;·rename_i h2;exact absurd h h2
  .rename_i h2;split at h;·cases h
   .rename_i h3;split at h;·cases h
    .rename_i h4;split at h;·cases h
     .rename_i h5;exact⟨q51.1 (Classical.not_not.1 h1),q51.1 (Classical.not_not.1 h2),Classical.not_not.1 h3,Classical.not_not.1 h4,by omega⟩
theorem y2i{n:Nat}(h:PairOk n lo hi)(hn:n<=7):pairE lo hi=0:=by have h1:=(h.lok.valid (by omega)).cerr;have h2:=(h.hik.valid (by omega)).cerr;have hle:=h.lok.le;unfold pairE;rw[h1,h2,if_neg (by simp),if_neg (by simp),if_neg (by rw[h.len];simp),if_neg (by rw[h.dec];simp),if_neg (by omega),if_pos];unfold impsB;rw[List.all_eq_true];intro k _;unfold impK;cases hd:(decl lo).testBit k with|false=>rfl|true=>simp only[nT,Bool.false_or];exact y5u.2 fun s hs=>h.imp k s hd hs
theorem qtw{lo hi:Config}(hv:ValidC lo)(hw:ValidC hi)(hl:lo.Members.length=hi.Members.length)(hd:decl lo=decl hi):∀(n i:Nat),i+n=lo.Members.length->z3x hi.Members ((hi.Members.length:Nat):Int) (i:Int) lo.Members hi.Members=some (if(List.range' i n).all (impK lo hi)=true then 0 else 14)|0,i,h=>by apply y8c;rw[q02 (by omega)];rfl|n+1,i,h=>by have hle:=hv.1;have ih:=qtw hv hw hl hd n (i+1) (by omega);have g1:lo.Members[i]?=some lo.Members[i]:=List.getElem?_eq_getElem (by omega);have g2:hi.Members[i]?=some (hi.Members[i]'(by omega)):=List.getElem?_eq_getElem (by omega);apply y8c;rw[q0b (by omega)];simp only[cT];rw[q37 (by omega) (by rw[tN];exact g2)];have e1:=qlg g1 (by omega);have e2:=qlg g2 (by omega);rw[hd,e2]at e1;rw[List.range'_succ,List.all_cons,q0d (by omega),ih];cases hdec:(hi.Members[i]'(by omega)).Declared with
  |false=>
   have:impK lo hi i=true:=by unfold impK;rw[hd,e2,hdec];rfl
   rw[this];rfl|true=>
   rw[hdec]at e1;obtain⟨z,hz⟩:=y0y (hw.mem g2 hdec).1 (hv.mem g1 e1.symm).1;have:impK lo hi i=impB (hi.Members[i]'(by omega)).Trust lo.Members[i].Trust:=by unfold impK;rw[hd,e2,hdec,qs6 g1,qs6 g2];simp only[nT,Bool.false_or]
   simp only[nT,cF];rw[q37 (by omega) (by rw[tN];exact g1),hz,this];simp only[bS];cases impB (hi.Members[i]'(by omega)).Trust lo.Members[i].Trust<;>rfl
theorem y3k(hs:q23 lo)(hs':q23 hi):z7l lo hi=some (pairE lo hi):=by
 have h1:=hs.1;have h2:=hs'.1;apply ybh;rw[qd9 hs];simp only[bS];unfold pairE;by_cases e1:cerr lo=0
 .rw[e1,q0v,if_neg (by simp),qd9 hs'];simp only[cF,bS];by_cases e2:cerr hi=0
  .rw[e2,q0v,if_neg (by simp)];simp only[cF];by_cases e3:lo.Members.length=hi.Members.length
   .rw[e3,q0v,if_neg (by simp),q7q lo h1,q7q hi h2];simp only[cF,bS];by_cases e4:decl lo=decl hi
    .rw[<-e4,q0v,if_neg (by simp)];simp only[cF];by_cases e5:7<hi.Members.length;·rw[q0b (by omega),if_pos e5];rfl
     .rw[q02 (by omega),if_neg e5];simp only[cF];have:=qtw (q51.1 e1) (q51.1 e2) e3 e4 lo.Members.length 0 (by omega);exact this
    .rw[q4b (by omega),if_pos e4];rfl
   .rw[q4b (by omega),if_pos e3];rfl
  .rw[q4b e2,if_pos e2];rfl
 .rw[q4b e1,if_pos e1];rfl
theorem qmv(hc:q23 c)(z:Int):z5v c z=some (askE c z):=by
 apply ydh;rw[qd9 hc];simp only[bS,askE];by_cases he:cerr c=0
 .rw[he,q0v];simp only[cF,ne_eq,not_true,if_false];by_cases h0:z<0;·rw[q0b h0,if_pos h0];rfl
  .rw[q02 (by omega),if_neg h0,qcv (q51.1 he).1];simp only[cF,bS,full];by_cases h1:((2^c.Members.length-1:Nat):Int)<z;·rw[q0b h1,if_pos h1];rfl
   .rw[q02 (by omega),if_neg h1];rfl
 .rw[q4b he];simp[he]
def qxx(c:Config)(z:Int):Bool×Int:=if askE c z=0 then(!q4x c z.toNat,0)else(false,askE c z)
def avaR(c:Config)(z:Int):Bool×Int:=if askE c z=0 then(qms c z.toNat,0)else(false,askE c z)
theorem qsn(hc:q23 c)(z:Int):z56 c z=some (qxx c z):=by
 apply ybu;rw[qmv hc];simp only[bS,qxx];by_cases h:askE c z=0;·obtain⟨hv,s,rfl,hs⟩:=qc6 h;rw[h,q0v,y2g (q8m hv.1 hs) c hv.bears];simp only[bS,cF,if_true];rw[qsl (qd8 s hv).small (qd8 s hv).cerr];rfl
 .rw[q4b h,if_neg h];rfl
theorem qws(hn:c.Members.length<=10)(hs:s<2^c.Members.length):q3i .i64 ((full c:Nat):Int) ((s:Nat):Int)=((ndiff (full c) s:Nat):Int):=by have:=qew hn;have:=q8m hn hs;rw[q2z (by omega) (by omega)]
theorem y2b(hc:q23 c)(z:Int):z6d c z=some (avaR c z):=by
 apply ycy;rw[qmv hc];simp only[bS,avaR];by_cases h:askE c z=0;·obtain⟨hv,s,rfl,hs⟩:=qc6 h;rw[h,q0v,qcv hv.1];simp only[bS,cF,if_true];rw[qws hv.1 hs,qfi,tN];unfold qms;cases h0:(ndiff (full c) s==0)with|true=>simp|false=>simp only[cF,Bool.false_or];rw[qiz (y1k hv.1 s) hv.small];rfl
 .rw[q4b h,if_neg h];rfl
def dE(lo hi:Config)(z:Int):Int:=if pairE lo hi=0 then askE lo z else pairE lo hi
theorem y60(hs:q23 lo)(hs':q23 hi)(z:Int):z7v lo hi z=some (dE lo hi z):=by
 apply ybp;rw[y3k hs hs'];simp only[bS,dE];by_cases h:pairE lo hi=0;·rw[h,q0v,qmv hs];rfl
 .rw[q4b h,if_neg h];rfl
theorem y1a{z:Int}(h:dE lo hi z=0):pairE lo hi=0/\∃s:Nat,z=(s:Int)/\s<2^lo.Members.length:=by
 unfold dE at h;split at h;·rename_i h1;exact⟨h1,(qc6 h).2⟩
 .rename_i h1;exact absurd h h1
theorem y8m(h:pairE lo hi=0)(hs:s<2^lo.Members.length):dE lo hi (s:Int)=0:=by unfold dE;rw[if_pos h,qfy (qct h).1 hs]
theorem qq5(hv:ValidC c)(hs:s<2^c.Members.length):qxx c (s:Int)=(!q4x c s,0):=by unfold qxx;rw[if_pos (qfy hv hs)];rfl
theorem y5r(hv:ValidC c)(hs:s<2^c.Members.length):avaR c (s:Int)=(qms c s,0):=by unfold avaR;rw[if_pos (qfy hv hs)];rfl
theorem yba(h:pairE lo hi=0)(hs:s<2^lo.Members.length):z8d lo hi (s:Int)=some (isB lo hi s):=by obtain⟨hv,hw,hl,_,_⟩:=qct h;apply ycr;rw[y2b hw.small,y5r hw (by rw[<-hl];exact hs)];simp only[bS,isB];cases qms hi s with|false=>rfl|true=>simp only[nT,cF,tA'];rw[qsn hv.small,qq5 hv hs];rfl
theorem y3z{lo hi:Config}(h:pairE lo hi=0){ill:Nat}(hill:ill<2^lo.Members.length){l:List Nat}(hl:l.length<=1024)(hm:∀s∈l,s<2^lo.Members.length):∀(suf pre:List Nat),l=pre++suf->z3w (ill:Int) ((pre.filter fun b=>ndiff ill b==0&&isB lo hi b).map Int.ofNat) (l.map Int.ofNat) ((l.length:Nat):Int) ((pre.length:Nat):Int) lo.Members hi.Members=some ((l.filter fun b=>ndiff ill b==0&&isB lo hi b).map Int.ofNat,0)
 |[],pre,e=>by rw[List.append_nil]at e;subst e;apply y8r;rw[q02 (Int.le_refl _)];rfl|b::suf,pre,e=>by
  have hn:=(qct h).1.1;have hd:(l.map Int.ofNat).drop pre.length=(b:Int)::suf.map Int.ofNat:=q57 (by rw[e];simp);have hlt:pre.length<l.length:=by rw[e];simp
  have hb:=hm b (by rw[e];simp);have hb':=q8m hn hb;have hi':=q8m hn hill;have hfl:=List.length_filter_le (fun b=>ndiff ill b==0&&isB lo hi b) pre;have ih:=y3z h hill hl hm suf (pre++[b]) (by rw[e];simp);rw[List.filter_append,List.map_append,List.length_append]at ih;apply y8r;rw[q0b (by omega)];simp only[cT,q0k hd];rw[q2z (by omega) (by omega),qfi,q0d (by omega)];cases h1:(ndiff ill b==0)with|false=>rw[List.filter_cons,h1]at ih;simp only[Bool.false_and,fT,if_false,List.filter_nil,List.map_nil,List.append_nil]at ih;exact ih|true=>simp only[cT];rw[show Config.mk lo.Members=lo from rfl,show Config.mk hi.Members=hi from rfl,yba h hb];simp only[bS];cases h2:isB lo hi b with|false=>rw[List.filter_cons,h1,h2]at ih;simp only[tA',fT,if_false,List.filter_nil,List.map_nil,List.append_nil]at ih;exact ih|true=>rw[List.filter_cons,h1,h2]at ih;simp only[tA',if_true,List.filter_nil]at ih;rw[q0p (by simp[q0a];omega)];exact ih
def allR(lo hi:Config)(z:Int):LI×Int:=if dE lo hi z=0 then((alls lo hi z.toNat).map Int.ofNat,0)else([],dE lo hi z)
theorem qwu(h:s∈q1y (full c)):s<2^c.Members.length:=q6z.2 (q0x.1 h)
theorem y9l(hs:q23 lo)(hs':q23 hi)(z:Int):z83 lo hi z=some (allR lo hi z):=by
 apply yan;rw[y60 hs hs'];simp only[bS,allR];by_cases h:dE lo hi z=0;·obtain⟨h0,s,rfl,hlt⟩:=y1a h;have hn:=(qct h0).1.1;rw[h,q0v,qcv hn];simp only[cF,bS];rw[qvu (qew hn)];simp only[bS,List.length_map];exact y3z h0 hlt (qq8 (qew hn)) (fun s hs=>qwu hs) _ [] rfl
 .rw[q4b h,if_neg h];rfl
theorem y70(h:pairE lo hi=0)(hs:s<2^lo.Members.length):allR lo hi (s:Int)=((alls lo hi s).map Int.ofNat,0):=by unfold allR;rw[if_pos (y8m h hs)];rfl
theorem y5k(hn:lo.Members.length<=10)(ill:Nat):(alls lo hi ill).length<=1024:=Nat.le_trans (List.length_filter_le _ _) (qq8 (qew hn))
theorem yaa{ill:Nat}(h:s∈alls lo hi ill):s<2^lo.Members.length:=q6z.2 (q58.1 h).1
theorem qk3{c:Config}(hn:c.Members.length<=10):z7s c=some ((full c:Nat):Int):=by apply yd0;rw[q13 (by omega),q5b hn];rfl
def inta(lo hi:Config)(ill:Nat):Nat:=ndiff (full lo) (bef lo hi ill)
theorem y1r(lo hi:Config)(ill:Nat):Sub (bef lo hi ill) (full lo):=by
 unfold bef;split;·exact Sub.refl _
 .exact(qll _ _).1
def ofR(lo hi:Config)(z:Int):Int×Bool×Int:=if dE lo hi z=0 then(((inta lo hi z.toNat:Nat):Int),!q4x lo z.toNat,0)else(0,false,dE lo hi z)
theorem y7m{lo hi:Config}(hn:lo.Members.length<=10){l:List Nat}(hl:l.length<=1024)(hlt:∀s∈l,s<1024):∀(suf:List Nat)(i a:Nat),l.drop i=suf->a<1024->z7w (a:Int) (l.map Int.ofNat) ((l.length:Nat):Int) (i:Int) lo.Members hi.Members=some (((ndiff (full lo) (ands suf a):Nat):Int),true,0)|[],i,a,h,ha=>by have hf:=qew hn;apply y7p;rw[q1h h,show Config.mk lo.Members=lo from rfl,qk3 hn];simp only[cF,bS];rw[q2z (by omega) (by omega)];rfl|b::suf,i,a,h,ha=>by have h1:=q1b h;have hb:=hlt b (List.mem_of_mem_drop (by rw[h];exact List.mem_cons_self));apply y7p;rw[q0l h];simp only[cT,q0k (q57 h)];rw[qli (by omega) (by omega),q0d (by omega)];exact y7m hn hl hlt suf (i+1) (a&&&b) (q0g h) (y55 ha)
theorem yar{lo hi:Config}(hs:q23 lo)(hs':q23 hi)(z:Int):z8y lo hi z=some (ofR lo hi z):=by
 apply yb5;rw[y9l hs hs'];simp only[bS,ofR];by_cases h:dE lo hi z=0;·obtain⟨h0,s,rfl,hlt⟩:=y1a h;obtain⟨hv,hw,hlen,_,_⟩:=qct h0;rw[y70 h0 hlt,qsn hs,qq5 hv hlt,if_pos h];simp only[bS,q0v,cF,Bool.not_not,tN];cases hsp:q4x lo s with
  |true=>
   have:inta lo hi s=0:=by unfold inta bef;rw[hsp];exact q4o.2 (Sub.refl _)
   rw[this];rfl|false=>simp only[cF];rw[qk3 hv.1];simp only[bS,List.length_map];have:=y7m (hi:=hi) hv.1 (y5k (hi:=hi) hv.1 s) (fun x hx=>q8m hv.1 (yaa hx)) (alls lo hi s) 0 (full lo) rfl (qew hv.1);refine Eq.trans this ?_;unfold inta bef;rw[hsp];rfl
 .have:(allR lo hi z)=([],dE lo hi z):=by unfold allR;rw[if_neg h]
  rw[this,if_neg h,q4b h];rfl
def oneR(lo hi:Config)(f:Nat->Nat)(z:Int):Int×Int:=if dE lo hi z=0 then(((f z.toNat:Nat):Int),0)else(0,dE lo hi z)
theorem y82{lo hi:Config}(hs:q23 lo)(hs':q23 hi)(z:Int):z8u lo hi z=some (oneR lo hi (inta lo hi) z):=by apply ycb;rw[yar hs hs'];simp only[bS,ofR,oneR];split<;>rfl
theorem qy7{lo hi:Config}(h:pairE lo hi=0){s:Nat}(hs:s<2^lo.Members.length)(f:Nat->Nat):oneR lo hi f (s:Int)=(((f s:Nat):Int),0):=by unfold oneR;rw[if_pos (y8m h hs)];rfl
variable {n : Nat} {lo hi : Config}
variable {m : Nat} {l : LI} {i : Int}
theorem y3q(hm:m<=1000)(h:q0r l i):∃p j,z6q (m:Int) l i=some (p,l,j)/\p.Perm ((List.range m).map Int.ofNat)/\q0r l j:=by
 have l2:∀(k:Nat)(a:LI)(c:Int)(i:Int),c.toNat=k->c<((a.length:Nat):Int)->a.length<=1000->q0r l i->∃p j,z4a a c l i=some (p,l,j)/\p.Perm a/\q0r l j:=by intro k;induction k with|zero=>intro a c i hk hc ha h;refine⟨a,i,?_,List.Perm.refl _,h⟩;apply qxo;simp only[q02 (show c<=0 by omega),cF]|succ k ih=>
   intro a c i hk hc ha h;obtain⟨v,j,h1,h2,h3,h4⟩:=N_ok (n:=c+1) (by omega) (by omega) h;have hv:v.toNat<a.length:=by omega
   have hcl:c.toNat<a.length:=by omega
   have g1:a[v.toNat]?=some a[v.toNat]:=List.getElem?_eq_getElem hv;have g2:a[c.toNat]?=some a[c.toNat]:=List.getElem?_eq_getElem hcl;have hp:((a.set c.toNat a[v.toNat]).set v.toNat a[c.toNat]).Perm a:=List.set_set_perm hcl hv;obtain⟨p,j',h5,h6,h8⟩:=ih ((a.set c.toNat a[v.toNat]).set v.toNat a[c.toNat]) (c-1) j (by omega) (by simp;omega) (by simpa using ha) h4;refine⟨p,j',?_,h6.trans hp,h8⟩;have hl1:v.toNat<(List.set a c.toNat a[v.toNat]).length:=by simpa using hv
   have g3:(List.set a c.toNat a[v.toNat])[v.toNat]?=some (List.set a c.toNat a[v.toNat])[v.toNat]:=List.getElem?_eq_getElem hl1;apply qxo;rw[q0b (by omega),q3r (by omega) (by omega),h1,qby (by omega) (by omega)];simp only[cT,bS,q37 h2 g1,q37 (show 0<=c by omega) g2,q6l g1,q6l g2,q37 h2 g3,q6l g3];exact h5
 have l1:∀(r k:Nat),k+r=m->∃p j,z49 (m:Int) ((List.range k).map Int.ofNat) (k:Int) l i=some (p,l,j)/\p.Perm ((List.range m).map Int.ofNat)/\q0r l j:=by intro r;induction r with|zero=>
   intro k hk;obtain rfl:k=m:=by omega
   obtain⟨p,j,e1,e2⟩:=l2 ((k:Int)-1).toNat ((List.range k).map Int.ofNat) ((k:Int)-1) i rfl (by simp;omega) (by simpa using hm) h;refine⟨p,j,?_,e2⟩;apply qxz;rw[q02 (by omega),cF,qby (by omega) (by omega)];exact e1|succ r ih=>intro k hk;obtain⟨p,j,e1,e2⟩:=ih (k+1) (by omega);refine⟨p,j,?_,e2⟩;apply qxz;rw[q0b (by omega),cT,q0p (by simp[q0a];omega),q0d (by omega)];rw[<-e1,List.range_succ,List.map_append];rfl
 obtain⟨p,j,e1,e2⟩:=l1 m 0 (by omega);exact⟨p,j,y84 _ _ _ _ e1,e2⟩
theorem y31{c:Config}{n:Nat}(hn:n<=10)(h1:1<=n)(hm:c.Members.length=n){l:LI}:∀(k s:Nat)(i:Int),k<=100->s<2^n->q0r l i->∃(v:Nat)(j:Int),z8h (n:Int) (s:Int) (k:Int) l i c.Members=some ((v:Int),l,j)/\v<2^n/\q0r l j
 |0,s,i,hk,hs,h=>by
  have hp:=pow10 hn;have hp1:=Nat.two_pow_pos n;obtain⟨v,j,g1,g2,g3,g4⟩:=N_ok (n:=2) (by decide) (by decide) h;have hd:=qlw c;have hr:=qv9 c (by omega);have hlt:ndiff (2^n-1) (decl c)<2^n:=q2w.2 fun i hi=>by rw[q04]at hi;cases hx:(2^n-1).testBit i with|true=>rfl|false=>simp[hx]at hi
  have hv:v=0\/v=1:=by omega
  have key:∀w:Nat,mulI .i64 ((ndiff (2^n-1) (decl c):Nat):Int) v=((w:Nat):Int)->w<2^n->∃(v:Nat)(j:Int),z8h (n:Int) (s:Int) ((0:Nat):Int) l i c.Members=some ((v:Int),l,j)/\v<2^n/\q0r l j:=by intro w hw hwl;refine⟨s|||w,j,?_,Nat.or_lt_two_pow hs hwl,g4⟩;apply y8x;rw[q02 (by omega),q13 (by omega),show Config.mk c.Members=c from rfl,hr];simp only[cF,bS];rw[g1];simp only[bS];rw[q5b hn,q2z (by omega) (by omega),hw,qam (by omega) (by omega)]
  rcases hv with rfl|rfl;·refine key 0 ?_ hp1;show mulI .i64 _ 0=_;unfold mulI;rw[Int.mul_zero];exact wrap64 (by omega) (by omega)
  .refine key (ndiff (2^n-1) (decl c)) ?_ hlt;show mulI .i64 _ 1=_;unfold mulI;rw[Int.mul_one];exact wrap64 (by omega) (by omega)|k+1,s,i,hk,hs,h=>by have hp:=pow10 hn;obtain⟨v,j,g1,g2,g3,g4⟩:=N_ok (n:=(n:Int)) (by omega) (by omega) h;obtain⟨w,rfl⟩:=Int.eq_ofNat_of_zero_le g2;have hw:2^w<2^n:=Nat.pow_lt_pow_right (by decide) (by omega);obtain⟨v',j',k1,k2,k3⟩:=y31 hn h1 hm k (s|||2^w) j (by omega) (Nat.or_lt_two_pow hs hw) g4;refine⟨v',j',?_,k2,k3⟩;apply y8x;rw[q0b (by omega),g1];simp only[cT,bS];rw[q13 (by omega),shl1 (by omega) (by omega),tN,qam (by omega) (by omega),qby (by omega) (by omega)];rw[show((k+1:Nat):Int)-1=((k:Nat):Int)by omega];exact k1
theorem ycd{c:Config}(hc:ConfOk m c)(hm:m<=10)(h:q0r l i):∃(v:Nat)(j:Int),z93 c l i=some ((v:Int),l,j)/\v<2^c.Members.length/\q0r l j:=by
 have hle:=hc.le;have hpos:=hc.pos;obtain⟨p,j,g1,g2,g3⟩:=qw0 (ps:=[0,1,1,2,3]) (by decide) (by decide) h;have hpn:∃k:Nat,k<=100/\p=(k:Int):=by
  simp at g2;rcases g2 with rfl|rfl|rfl|rfl;·exact⟨0,by decide,rfl⟩
  .exact⟨1,by decide,rfl⟩
  .exact⟨2,by decide,rfl⟩
  .exact⟨3,by decide,rfl⟩
 obtain⟨k,hk,rfl⟩:=hpn;have hp1:=Nat.two_pow_pos c.Members.length;obtain⟨v,j',k1,k2,k3⟩:=y31 (c:=c) (n:=c.Members.length) (by omega) (by omega) rfl (l:=l) k 0 j hk hp1 g3;refine⟨v,j',?_,k2,k3⟩;apply yc6;rw[g1];simp only[bS];exact k1
variable {m : Int} {i k : Nat}
mutual
def mapT (f : Int -> Int) : Trust -> Trust
 | ⟨t, l, x⟩ => ⟨t, l.map f, mapTs f x⟩
def mapTs (f : Int -> Int) : LT -> LT
 | [] => []
 | x :: r => mapT f x :: mapTs f r
end
theorem qy8(f:Int->Int):∀l,mapTs f l=l.map (mapT f)|[]=>rfl|x::r=>by simp only[mapTs,qy8 f r,List.map_cons]
theorem qj8(f:Int->Int)(t:Trust):mapT f t=⟨t.Threshold,t.Nodes.map f,t.Inner.map (mapT f)⟩:=by cases t;simp only[mapT,qy8]
theorem y5w(f:Int->Int):∀t,size (mapT f t)=size t:=by
 apply Trust.ind;intro t ih;have:∀l:LT,(∀x∈l,size (mapT f x)=size x)->sizes (l.map (mapT f))=sizes l:=by intro l;induction l with|nil=>intro _;rfl|cons y r ihr=>intro h;simp only[List.map_cons,sizes,h y (by simp),ihr fun x hx=>h x (by simp[hx])]
 rw[qj8,q3y,q3y t];simp only[List.length_map,this t.Inner ih]
theorem y4d(f:Int->Int):∀t,depth (mapT f t)=depth t:=by
 apply Trust.ind;intro t ih;have:∀l:LT,(∀x∈l,depth (mapT f x)=depth x)->q34 (l.map (mapT f))=q34 l:=by intro l;induction l with|nil=>intro _;rfl|cons y r ihr=>intro h;simp only[List.map_cons,q34,h y (by simp),ihr fun x hx=>h x (by simp[hx])]
 rw[qj8,q7y,q7y t];simp only[this t.Inner ih]
structure Per(n:Nat)(σ τ:Nat->Nat):Prop where
 sl:∀k,k<n->σ k<n
 tl:∀k,k<n->τ k<n
 ts:∀k,k<n->τ (σ k)=k
 st:∀k,k<n->σ (τ k)=k
def fIr(σ:Nat->Nat)(k:Int):Int:=((σ k.toNat:Nat):Int)
variable {n : Nat} {σ τ : Nat -> Nat}
theorem qgr{t:Trust}(h:below m t=true):(∀x∈t.Nodes,0<=x/\x<m)/\∀x∈t.Inner,below m x=true:=by
 rw[qyd,aT]at h;refine⟨qt7 h.1,?_⟩;have:∀l:LT,q4v m l=true->∀x∈l,below m x=true:=by intro l;induction l with|nil=>intro _ x hx;cases hx|cons y r ih=>
   intro hb x hx;simp only[q4v,aT]at hb;rcases List.mem_cons.1 hx with rfl|hx;·exact hb.1
   .exact ih hb.2 x hx
 exact this _ h.2
theorem qud{m:Int}:∀{l:LT},(∀x∈l,below m x=true)->q4v m l=true|[],_=>rfl|x::r,h=>by simp only[q4v,h x (by simp),qud fun y hy=>h y (List.mem_cons_of_mem _ hy),Bool.and_self]
theorem Per.int(P:Per n σ τ){k:Int}(h:0<=k/\k<(n:Int)):0<=fIr σ k/\fIr σ k<(n:Int):=by have:=P.sl k.toNat (by omega);unfold fIr;omega
theorem Per.belowM(P:Per n σ τ):∀t,below (n:Int) t=true->below (n:Int) (mapT (fIr σ) t)=true:=by
 apply Trust.ind;intro t ih h;obtain⟨h1,h2⟩:=qgr h;rw[qj8];refine q7o (fun x hx=>?_) (qud fun x hx=>?_);·obtain⟨y,hy,rfl⟩:=List.mem_map.1 hx;exact P.int (h1 y hy)
 .obtain⟨y,hy,rfl⟩:=List.mem_map.1 hx;exact ih y hy (h2 y hy)
theorem qmq:∀{l:LT},goods l=true↔∀x∈l,good x=true|[]=>by simp[goods]|x::r=>by simp[goods,qmq (l:=r)]
theorem Per.goodM(P:Per n σ τ)(hn:n<=10):∀t,below (n:Int) t=true->good t=true->good (mapT (fIr σ) t)=true:=by
 apply Trust.ind;intro t ih hb h;obtain⟨b1,b2⟩:=qgr hb;rw[qa1]at h;rw[qj8,qa1];simp only[aT,List.length_map]at h⊢;obtain⟨g1,g2,_,g4,g5⟩:=h;rw[qcq]at g4;refine⟨g1,g2,List.all_eq_true.2 fun x hx=>?_,(qcq _ _).2 ⟨fun x hx=>?_,?_⟩,qmq.2 fun x hx=>?_⟩;·obtain⟨y,hy,rfl⟩:=List.mem_map.1 hx;exact qg5 (m:=(n:Int)) (by omega) (P.int (b1 y hy))
 .obtain⟨y,hy,rfl⟩:=List.mem_map.1 hx;exact⟨qg5 (m:=(n:Int)) (by omega) (P.int (b1 y hy)),by simp[has]⟩
 .rw[List.nodup_iff_pairwise_ne,List.pairwise_map];refine List.Pairwise.imp_of_mem (fun{a b}ha hb' hne e=>hne ?_) (List.nodup_iff_pairwise_ne.1 g4.2);have ha:=b1 a ha;have hb':=b1 b hb';have h1:=P.ts a.toNat (by omega);have h2:=P.ts b.toNat (by omega);have:σ a.toNat=σ b.toNat:=by unfold fIr at e;omega
  rw[this]at h1;omega
 .obtain⟨y,hy,rfl⟩:=List.mem_map.1 hx;exact ih y hy (b2 y hy) (qmq.1 g5 y hy)
structure Mv(n:Nat)(σ:Nat->Nat)(s t:Nat):Prop where
 ls:s<2^n
 lt:t<2^n
 b:∀k,k<n->t.testBit (σ k)=s.testBit k
theorem mkSet:∀(n:Nat)(f:Nat->Bool),∃s,s<2^n/\∀k,k<n->s.testBit k=f k
 |0,_=>⟨0,by decide,fun k h=>by omega⟩|n+1,f=>by
  obtain⟨s,h1,h2⟩:=mkSet n f;have hp:2^(n+1)=2^n+2^n:=by rw[Nat.pow_succ];omega
  have hb:s.testBit n=false:=Nat.testBit_lt_two_pow h1;cases hf:f n with
  |false=>
   refine⟨s,by omega,fun k hk=>?_⟩;by_cases e:k=n;·rw[e,hb,hf]
   .exact h2 k (by omega)|true=>
   refine⟨s|||2^n,Nat.or_lt_two_pow (by omega) (by have:=Nat.two_pow_pos n;omega),fun k hk=>?_⟩;rw[Nat.testBit_or,Nat.testBit_two_pow];by_cases e:k=n;·rw[e,hf];simp
   .rw[h2 k (by omega)];simp[Ne.symm e]
theorem qbf{s n:Nat}(hs:s<2^n)(h:s.testBit i=true):i<n:=by apply Classical.byContradiction;intro hn;have:s.testBit i=false:=Nat.testBit_lt_two_pow (Nat.lt_of_lt_of_le hs (Nat.pow_le_pow_right (n:=2) (by decide) (by omega)));rw[this]at h;cases h
theorem Per.img(P:Per n σ τ){s:Nat}(hs:s<2^n):∃t,Mv n σ s t:=by obtain⟨t,h1,h2⟩:=mkSet n fun i=>s.testBit (τ i);exact⟨t,hs,h1,fun k hk=>by rw[h2 _ (P.sl k hk),P.ts k hk]⟩
theorem Per.pre(_:Per n σ τ){t:Nat}(ht:t<2^n):∃s,Mv n σ s t:=by obtain⟨s,h1,h2⟩:=mkSet n fun k=>t.testBit (σ k);exact⟨s,h1,ht,fun k hk=>(h2 k hk).symm⟩
variable {s t s' t' : Nat}
theorem Mv.bit(P:Per n σ τ)(h:Mv n σ s t)(hi:i<n):t.testBit i=s.testBit (τ i):=by rw[<-h.b _ (P.tl i hi),P.st i hi]
theorem Mv.sub(P:Per n σ τ)(h:Mv n σ s t)(h':Mv n σ s' t'):Sub t t'↔Sub s s':=⟨fun H k hk=>by have hk':=qbf h.ls hk;rw[<-h'.b k hk'];exact H _ (by rw[h.b k hk'];exact hk),fun H i hi=>by have hi':=qbf h.lt hi;rw[h'.bit P hi'];exact H _ (by rw[<-h.bit P hi'];exact hi)⟩
theorem Mv.diff(h:Mv n σ s t)(h':Mv n σ s' t'):Mv n σ (ndiff s s') (ndiff t t'):=⟨qle h.ls,qle h.lt,fun k hk=>by rw[q04,q04,h.b k hk,h'.b k hk]⟩
theorem Mv.an(h:Mv n σ s t)(h':Mv n σ s' t'):Mv n σ (s&&&s') (t&&&t'):=⟨Nat.lt_of_le_of_lt Nat.and_le_left h.ls,Nat.lt_of_le_of_lt Nat.and_le_left h.lt,fun k hk=>by rw[Nat.testBit_and,Nat.testBit_and,h.b k hk,h'.b k hk]⟩
theorem Mv.orr(h:Mv n σ s t)(h':Mv n σ s' t'):Mv n σ (s|||s') (t|||t'):=⟨Nat.or_lt_two_pow h.ls h'.ls,Nat.or_lt_two_pow h.lt h'.lt,fun k hk=>by rw[Nat.testBit_or,Nat.testBit_or,h.b k hk,h'.b k hk]⟩
theorem Mv.zero(n:Nat)(σ:Nat->Nat):Mv n σ 0 0:=⟨Nat.two_pow_pos n,Nat.two_pow_pos n,fun k _=>by rw[Nat.zero_testBit,Nat.zero_testBit]⟩
theorem Mv.uniq(P:Per n σ τ)(h:Mv n σ s t)(h':Mv n σ s t'):t=t':=Sub.antisymm ((h.sub P h').2 (Sub.refl _)) ((h'.sub P h).2 (Sub.refl _))
theorem Mv.inj(P:Per n σ τ)(h:Mv n σ s t)(h':Mv n σ s' t):s=s':=Sub.antisymm ((h.sub P h').1 (Sub.refl _)) ((h'.sub P h).1 (Sub.refl _))
theorem Mv.eq0(P:Per n σ τ)(h:Mv n σ s t):t=0↔s=0:=⟨fun e=>by subst e;exact h.inj P (Mv.zero n σ),fun e=>by subst e;exact h.uniq P (Mv.zero n σ)⟩
theorem Mv.satM(P:Per n σ τ)(hn:n<=10)(h:Mv n σ s t):∀x,below (n:Int) x=true->sat t (mapT (fIr σ) x)=sat s x:=by
 apply Trust.ind;intro x ih hb;obtain⟨b1,b2⟩:=qgr hb;have h1:∀l:LI,(∀k∈l,0<=k/\k<(n:Int))->cnt t (l.map (fIr σ))=cnt s l:=by intro l hl;unfold cnt;rw[List.countP_map];refine List.countP_congr fun k hk=>?_;have hk:=hl k hk;have h2:=P.int hk;have h3:=h.b k.toNat (by omega);simp only[Function.comp_apply,has,h2.1,hk.1,show fIr σ k<10 by omega,show k<10 by omega,decide_true,tA'];rw[<-h3];unfold fIr;rw[tN]
 have h2:∀l:LT,(∀y∈l,sat t (mapT (fIr σ) y)=sat s y)->sats t (l.map (mapT (fIr σ)))=sats s l:=by intro l;induction l with|nil=>intro _;rfl|cons y r ihr=>intro h;simp only[List.map_cons,sats,h y (by simp),ihr fun x hx=>h x (by simp[hx])]
 rw[qj8,qbv,qbv s x];simp only[h1 _ b1,h2 x.Inner fun y hy=>ih y hy (b2 y hy)]
structure Ren(n:Nat)(σ τ:Nat->Nat)(c d:Config):Prop where
 per:Per n σ τ
 n10:n<=10
 lc:c.Members.length=n
 ld:d.Members.length=n
 ok:ConfOk n c
 mem:∀k m,c.Members[k]?=some m->d.Members[σ k]?=some ⟨m.Declared,mapT (fIr σ) m.Trust⟩
variable {c d : Config}
theorem Ren.get(R:Ren n σ τ c d)(hk:k<n):∃m,c.Members[k]?=some m/\m∈c.Members:=⟨c.Members[k]'(by rw[R.lc];exact hk),List.getElem?_eq_getElem _,List.getElem_mem _⟩
theorem qex{x:Member}(h:MemOk m x):below m x.Trust=true:=by
 unfold MemOk at h;split at h;·exact h.2
 .rw[h];rfl
theorem Ren.belowM(R:Ren n σ τ c d)(hk:k<n):below (n:Int) (tr c k)=true:=by obtain⟨m,h1,h2⟩:=R.get hk;rw[qs6 h1];have:=qex (R.ok.mem m h2);rwa [R.lc]at this
theorem Ren.satM(R:Ren n σ τ c d)(h:Mv n σ s t)(hk:k<n):sat t (tr d (σ k))=sat s (tr c k):=by obtain⟨m,h1,_⟩:=R.get hk;have hb:=R.belowM hk;rw[qs6 (R.mem k m h1),<-h.satM R.per R.n10 _ hb,qs6 h1]
theorem Ren.fullM(R:Ren n σ τ c d):Mv n σ (full c) (full d):=by have:=Nat.two_pow_pos n;refine⟨by unfold full;rw[R.lc];omega,by unfold full;rw[R.ld];omega,fun k hk=>?_⟩;rw[qra,qra,R.lc,R.ld,decide_eq_true hk,decide_eq_true (R.per.sl k hk)]
theorem Ren.declM(R:Ren n σ τ c d):Mv n σ (decl c) (decl d):=by
 refine⟨?_,?_,fun k hk=>?_⟩;·rw[<-R.lc];exact q6z.2 (qho (by rw[R.lc];exact R.n10))
 .rw[<-R.ld];exact q6z.2 (qho (by rw[R.ld];exact R.n10))
 .obtain⟨m,h1,_⟩:=R.get hk;have h2:=R.per.sl k hk;have h3:=R.n10;rw[qlg h1 (by omega),qlg (R.mem k m h1) (by omega)]
theorem Ren.confOk(R:Ren n σ τ c d):ConfOk n d:=by
 have hpos:=R.ok.pos;refine⟨by rw[R.ld,<-R.lc];exact hpos,by rw[R.ld];exact Nat.le_refl _,fun x hx=>?_⟩;obtain⟨i,hi,e⟩:=List.getElem_of_mem hx;rw[R.ld]at hi;obtain⟨m,h1,h2⟩:=R.get (R.per.tl i hi);have h3:=R.mem _ m h1;rw[R.per.st i hi,List.getElem?_eq_getElem (by rw[R.ld];exact hi),e]at h3;cases h3;have h4:=R.ok.mem m h2;have h5:=qex h4;rw[R.ld];rw[R.lc]at h4 h5;unfold MemOk at h4⊢;simp only;split at h4;·rename_i hd;rw[if_pos hd];have hv:=h4.1;simp only[valid,aT]at hv;exact⟨by simp only[valid,y4d,y5w,hv.1,hv.2.1,R.per.goodM R.n10 _ h5 hv.2.2,Bool.and_self],R.per.belowM _ h5⟩
 .rename_i hd;rw[if_neg hd,h4];rfl
theorem Ren.quo(R:Ren n σ τ c d)(h:Mv n σ s t):q30 d t↔q30 c s:=by
 unfold q30;rw[Ne,h.eq0 R.per,h.sub R.per R.declM];refine and_congr_right fun _=>and_congr_right fun _=>⟨fun H k hk=>?_,fun H i hi=>?_⟩;·have hk':=qbf h.ls hk;rw[<-R.satM h hk'];exact H _ (by rw[h.b k hk'];exact hk)
 .have hi':=qbf h.lt hi;have:=R.satM h (R.per.tl i hi');rw[R.per.st i hi']at this;rw[this];exact H _ (by rw[<-h.bit R.per hi'];exact hi)
theorem qf5{n s:Nat}(hn:n<=10)(hs:s<2^n):s<1024:=Nat.lt_of_lt_of_le hs (Nat.pow_le_pow_right (n:=2) (by decide) hn)
theorem Ren.greatM(R:Ren n σ τ c d)(h:Mv n σ s t):Mv n σ (q18 c s) (q18 d t):=by
 have hs:=qf5 R.n10 h.ls;have ht:=qf5 R.n10 h.lt;have hl:∀{c:Config}{s:Nat},s<2^n->s<1024->q18 c s<2^n:=fun{c s}h1 h2=>Nat.lt_of_le_of_lt (Nat.le_of_eq (qww.1 ((q4p c h2).trans (Sub.and_left _ _))).symm) (Nat.lt_of_le_of_lt Nat.and_le_right h1);obtain⟨g',hg⟩:=R.per.img (hl (c:=c) h.ls hs);obtain⟨f,hf⟩:=R.per.pre (hl (c:=d) h.lt ht);have h1:Sub g' (q18 d t):=by
  by_cases e:q18 c s=0;·rw[(hg.eq0 R.per).2 e];exact qlf _
  .exact qca d ht ((R.quo hg).2 (q72 c hs e)) ((hg.sub R.per h).2 ((q4p c hs).trans (Sub.and_left _ _)))
 have h2:Sub f (q18 c s):=by
  by_cases e:q18 d t=0;·rw[(hf.eq0 R.per).1 e];exact qlf _
  .exact qca c hs ((R.quo hf).1 (q72 d ht e)) ((hf.sub R.per h).1 ((q4p d ht).trans (Sub.and_left _ _)))
 have h3:=(hg.sub R.per hf).1 h1;have:q18 c s=f:=Sub.antisymm h3 h2;rw[this];exact hf
theorem Ren.halt(R:Ren n σ τ c d)(h:Mv n σ s t):haltB d t=haltB c s:=by have h1:=(R.greatM (R.fullM.diff h)).eq0 R.per;unfold haltB;rw[Bool.eq_iff_iff,beq_iff_eq,beq_iff_eq];exact h1
theorem Ren.ql(R:Ren n σ τ c d)(h:Mv n σ s t)(h':Mv n σ s' t'):QL d t t'↔QL c s s':=by
 unfold QL;rw[Ne,h'.eq0 R.per,h'.sub R.per R.declM];refine and_congr_right fun _=>and_congr_right fun _=>⟨fun H=>⟨fun k hk=>?_,fun k hk=>?_⟩,fun H=>⟨fun i hi=>?_,fun i hi=>?_⟩⟩;·have hk':=qbf h'.ls hk;rw[<-h.b k hk'];exact H.1 _ (by rw[h'.b k hk'];exact hk)
 .have hk':=qbf h'.ls hk;rw[<-R.satM (h'.orr h) hk'];exact H.2 _ (by rw[h'.b k hk'];exact hk)
 .have hi':=qbf h'.lt hi;rw[h.bit R.per hi'];exact H.1 _ (by rw[<-h'.bit R.per hi'];exact hi)
 .have hi':=qbf h'.lt hi;have:=R.satM (h'.orr h) (R.per.tl i hi');rw[R.per.st i hi']at this;rw[this];exact H.2 _ (by rw[<-h'.bit R.per hi'];exact hi)
theorem ql_lt{b y:Nat}(hl:c.Members.length<=10)(h:QL c b y):y<2^c.Members.length:=q6z.2 (h.2.1.trans (qho hl))
theorem Ren.split(R:Ren n σ τ c d)(h:Mv n σ s t):q4x d t=q4x c s:=by
 have e1:c.Members.length<=10:=by rw[R.lc];exact R.n10
 have e2:d.Members.length<=10:=by rw[R.ld];exact R.n10
 rw[Bool.eq_iff_iff,qcu e1,qcu e2];constructor;·rintro⟨x,y,hx,hy,h0⟩;obtain⟨x',mx⟩:=R.per.pre (by have:=ql_lt e2 hx;rwa [R.ld]at this);obtain⟨y',my⟩:=R.per.pre (by have:=ql_lt e2 hy;rwa [R.ld]at this);exact⟨x',y',(R.ql h mx).1 hx,(R.ql h my).1 hy,((mx.an my).eq0 R.per).1 h0⟩
 .rintro⟨x,y,hx,hy,h0⟩;obtain⟨x',mx⟩:=R.per.img (by have:=ql_lt e1 hx;rwa [R.lc]at this);obtain⟨y',my⟩:=R.per.img (by have:=ql_lt e1 hy;rwa [R.lc]at this);exact⟨x',y',(R.ql h mx).2 hx,(R.ql h my).2 hy,((mx.an my).eq0 R.per).2 h0⟩
theorem Ren.is(R:Ren n σ τ c d)(h:Mv n σ s t):isB d d t=isB c c s:=by
 have e1:c.Members.length<=10:=by rw[R.lc];exact R.n10
 have e2:d.Members.length<=10:=by rw[R.ld];exact R.n10
 unfold isB;rw[R.split h];congr 1;have hm:=R.fullM.diff h;rw[Bool.eq_iff_iff,qmh e1,qmh e2,R.quo hm,hm.eq0 R.per]
theorem qyv{l:List Nat}{a:Nat}:(ands l a).testBit i=true↔a.testBit i=true/\∀b∈l,b.testBit i=true:=⟨fun h=>⟨(qll l a).1 i h,fun b hb=>(qll l a).2 b hb i h⟩,fun h=>y9s (z:=2^i) l a (Sub.pow h.1) (fun b hb=>Sub.pow (h.2 b hb)) i (by rw[Nat.testBit_two_pow];simp)⟩
theorem Ren.befM(R:Ren n σ τ c d)(h:Mv n σ s t):Mv n σ (bef c c s) (bef d d t):=by
 have f1:bef c c s<2^n:=by have:=q6z.2 (y1r c c s);rwa [R.lc]at this
 have f2:bef d d t<2^n:=by have:=q6z.2 (y1r d d t);rwa [R.ld]at this
 refine⟨f1,f2,fun k hk=>?_⟩;unfold bef;rw[R.split h];split;·exact R.fullM.b k hk
 .rw[Bool.eq_iff_iff,qyv,qyv,R.fullM.b k hk];refine and_congr_right fun _=>⟨fun H b hb=>?_,fun H b hb=>?_⟩;·obtain⟨h1,h2,h3⟩:=q58.1 hb;obtain⟨b',mb⟩:=R.per.img (s:=b) (by have:=q6z.2 h1;rwa [R.lc]at this);rw[<-mb.b k hk];exact H b' (q58.2 ⟨(mb.sub R.per R.fullM).2 h1,(h.sub R.per mb).2 h2,by rw[R.is mb];exact h3⟩)
  .obtain⟨h1,h2,h3⟩:=q58.1 hb;obtain⟨b',mb⟩:=R.per.pre (t:=b) (by have:=q6z.2 h1;rwa [R.ld]at this);rw[mb.b k hk];exact H b' (q58.2 ⟨(mb.sub R.per R.fullM).1 h1,(h.sub R.per mb).1 h2,by rw[<-R.is mb];exact h3⟩)
theorem Ren.intM(R:Ren n σ τ c d)(h:Mv n σ s t):Mv n σ (inta c c s) (inta d d t):=R.fullM.diff (R.befM h)
variable {p : LI} {c : Config}
variable {n : Nat} {σ τ : Nat -> Nat}
def PerL(n:Nat)(σ:Nat->Nat)(p:LI):Prop:=p.length=n/\∀k,k<n->p[k]?=some ((σ k:Nat):Int)
theorem qzk(hp:PerL n σ p){k:Int}(hk:0<=k/\k<(n:Int)):z62 k p=some (fIr σ k,p):=by apply yd7;rw[q37 hk.1 (hp.2 k.toNat (by omega))];rfl
theorem qpp{p:LI}(a11:Int)(a13:LI)(a15:LT)(a17:Int)(a19:LI)(a21:LT)(thr:Int)(nd:LI)(l:LT)(hl:l.length<1000000)(IH:∀x∈l,z12 x p=some (mapT (fIr σ) x,p)):∀(suf:LT)(i:Nat)(acc:LT),l.drop i=suf->acc.length+suf.length<1000001->z0x l ((l.length:Nat):Int) (i:Int) p a11 a13 a15 a17 a19 a21 thr nd acc=some (⟨thr,nd,acc++suf.map (mapT (fIr σ))⟩,p)|[],i,acc,h,_=>by apply y7u;rw[q1h h];simp|y::suf,i,acc,h,ha=>by have hlt:=q1b h;have hy:y∈l:=List.mem_of_mem_drop (by rw[h];exact List.mem_cons_self);apply y7u;simp only[List.length_cons]at ha;rw[q0l h,cT,q0k h,IH y hy,bS,q0p (by simp only[List.length_cons,List.length_nil,q0a];omega),q0d (by omega)];refine(qpp a11 a13 a15 a17 a19 a21 thr nd l hl IH suf (i+1) (acc++[⟨(mapT (fIr σ) y).Threshold,(mapT (fIr σ) y).Nodes,(mapT (fIr σ) y).Inner⟩]) (q0g h) (by simp only[List.length_append,List.length_cons,List.length_nil];omega)).trans ?_;simp
theorem qpy{p:LI}(hp:PerL n σ p)(a12:Int)(a14:LI)(a16:LT)(a18:Int)(a20:LI)(a22:LT)(thr:Int)(l:LI)(hl:l.length<1000000)(hb:∀k∈l,0<=k/\k<(n:Int)){r:Trust×LI}(hr:z0x a16 ((a16.length:Nat):Int) 0 p a12 a14 a16 a18 a20 a22 thr (l.map (fIr σ)) []=some r):∀(suf pre:LI),l=pre++suf->z16 l ((l.length:Nat):Int) ((pre.length:Nat):Int) p a12 a14 a16 a18 a20 a22 thr (pre.map (fIr σ)) []=some r
 |[],pre,h=>by subst h;apply y88;rw[q02 (by simp),cF];simpa using hr|y::suf,pre,h=>by
  have hd:l.drop pre.length=y::suf:=by rw[h];simp
  have hlt:=q1b hd;apply y88;rw[q0l hd,cT,q0k hd,qzk hp (hb y (by rw[h];simp)),bS,q0p (by simp only[List.length_map,List.length_cons,List.length_nil,q0a];omega),q0d (by omega)];have:=qpy hp a12 a14 a16 a18 a20 a22 thr l hl hb hr suf (pre++[y]) (by rw[h];simp);rw[List.length_append,List.map_append]at this;exact this
theorem y0b(hp:PerL n σ p):∀t:Trust,size t<1000000->below (n:Int) t=true->z12 t p=some (mapT (fIr σ) t,p):=by apply Trust.ind;intro t ih hs hb;obtain⟨b1,b2⟩:=qgr hb;rw[q3y]at hs;apply yd8;have h2:=qpp (σ:=σ) (p:=p) t.Threshold t.Nodes t.Inner 0 [] [] t.Threshold (t.Nodes.map (fIr σ)) t.Inner (by omega) (fun x hx=>ih x hx (by have:=qqd hx;omega) (b2 x hx)) t.Inner 0 [] rfl (by simp only[List.length_nil];omega);have h1:=qpy hp t.Threshold t.Nodes t.Inner 0 [] [] t.Threshold t.Nodes (by omega) b1 h2 t.Nodes [] rfl;refine h1.trans ?_;rw[qj8];rfl
def setR(σ:Nat->Nat):LB->Nat->LB->LB|out,_,[]=>out|out,i,m::r=>setR σ (out.set (σ i) ⟨m.Declared,mapT (fIr σ) m.Trust⟩) (i+1) r
theorem qy6:∀(r:LB)(out:LB)(i:Nat),(setR σ out i r).length=out.length|[],_,_=>rfl|m::r,out,i=>by simp only[setR,qy6 r,List.length_set]
theorem qyg(P:Per n σ τ):∀(r:LB)(out:LB)(i:Nat),out.length=n->i+r.length=n->(∀k,k<i->(setR σ out i r)[σ k]?=out[σ k]?)/\∀k m,r[k]?=some m->(setR σ out i r)[σ (i+k)]?=some ⟨m.Declared,mapT (fIr σ) m.Trust⟩
 |[],out,i,_,_=>⟨fun _ _=>rfl,fun k m h=>by cases h⟩|m::r,out,i,ho,hi=>by
  simp only[List.length_cons]at hi;obtain⟨h1,h2⟩:=qyg P r (out.set (σ i) ⟨m.Declared,mapT (fIr σ) m.Trust⟩) (i+1) (by simpa using ho) (by omega);have hne:∀k,k<i->σ i≠σ k:=fun k hk e=>by have a:=P.ts i (by omega);have b:=P.ts k (by omega);rw[e,b]at a;omega
  simp only[setR];refine⟨fun k hk=>?_,fun k x hx=>?_⟩;·rw[h1 k (by omega),List.getElem?_set_ne (hne k hk)]
  .cases k with|zero=>simp only[List.getElem?_cons_zero,sI]at hx;subst hx;refine(h1 i (by omega)).trans ?_;rw[List.getElem?_set_self (by rw[ho];exact P.sl i (by omega))]|succ k=>have:=h2 k x (by simpa using hx);rwa [show i+(k+1)=i+1+k by omega]
theorem qux{p:LI}(P:Per n σ τ)(hp:PerL n σ p)(hn:n<=10)(ms:LB)(hms:ms.length=n)(hm:∀x∈ms,size x.Trust<1000000/\below (n:Int) x.Trust=true)(a9:LB)(a13 a15:LB)(b15:LI):∀(suf:LB)(i:Nat)(out:LB),ms.drop i=suf->out.length=n->z3b ms ((ms.length:Nat):Int) (i:Int) a9 p a13 b15 out=some (⟨setR σ out i suf⟩,0)
 |[],i,out,h,ho=>by apply y7n;rw[q1h h];rfl|y::suf,i,out,h,ho=>by
  have hlt:=q1b h;have hy:y∈ms:=List.mem_of_mem_drop (by rw[h];exact List.mem_cons_self);have hi:i<n:=by omega
  have hc:=y0b hp y.Trust (hm y hy).1 (hm y hy).2;have hg:=hp.2 i hi;have hs:=P.sl i hi;obtain⟨z,hz⟩:∃z,out[σ i]?=some z:=⟨_,List.getElem?_eq_getElem (by omega)⟩;have n1:∀{β:Type}(k:Int->Option β),nth p (i:Int) k=k ((σ i:Nat):Int):=fun k=>q37 (by omega) (by rw[tN];exact hg) k;have n2:∀{β:Type}(k:Member->Option β),nth out ((σ i:Nat):Int) k=k z:=fun k=>q37 (by omega) (by rw[tN];exact hz) k;apply y7n;rw[q0l h,cT,q0k h,n1,hc];simp only[bS];rw[n2,tN,q6l hz,n1,n2,tN,q6l hz];unfold sameQ;rw[if_pos rfl,q0d (by omega)];simp only[Trust.eta];exact qux P hp hn ms hms hm a9 a13 a15 b15 suf (i+1) (out.set (σ i) ⟨y.Declared,mapT (fIr σ) y.Trust⟩) (q0g h) (by rw[List.length_set];exact ho)
theorem qse{n:Nat}(h:p.Perm ((List.range n).map Int.ofNat)):(p.mergeSort fun x y=>decide (x<=y))=(List.range n).map Int.ofNat:=by
 refine List.Perm.eq_of_pairwise (le:=fun x y=>(decide (x<=y))=true) (fun a b _ _ h1 h2=>?_) (List.pairwise_mergeSort (fun a b c h1 h2=>?_) (fun a b=>?_) p) ?_ ((List.mergeSort_perm _ _).trans h);·simp only[dT']at h1 h2;omega
 .simp only[dT']at*;omega
 .simp only[Bool.or_eq_true,dT'];omega
 .rw[List.pairwise_map];exact List.pairwise_lt_range.imp fun{a b}h=>by simp only[dT'];show(a:Int)<=b;omega
theorem qs1(hp:p.length<=10)(h0:p≠[]):z5t p=some (p.mergeSort (fun x y=>decide (x<=y)),p):=by refine q36 (T:=tn) (m:=q6u _) sigOk (by kernel_rfl) rfl ?_;show libA (q6u _) [.fn _ [(0,0)]] [[.d (.list (p.map fun n=>D.v (.int .i64 n)))]]=some (.d (.list ((p.mergeSort fun x y=>decide (x<=y)).map fun n=>D.v (.int .i64 n))),[[.d (.list (p.map fun n=>D.v (.int .i64 n)))]]);unfold libA q6u;simp only[qi9];rw[if_pos ⟨trivial,by omega,h0⟩];rfl
theorem qsw{p:LI}(a9:LB)(a13:LB)(a15:LI)(hl:p.length=a9.length)(h10:n<=10)(hp:p.length=n){r:Config×Int}(hr:z3b a9 ((a9.length:Nat):Int) 0 a9 p a13 a15 (List.replicate n ⟨false,⟨0,[],[]⟩⟩)=some r):∀(j i:Nat),i+j=n->z3s ((List.range n).map Int.ofNat) (n:Int) (i:Int) a9 p a13 a15=some r|0,i,h=>by apply y8j;rw[q02 (by omega),cF,hl,q0v,cF,q13 ⟨rfl,by omega,by omega⟩,tN,<-hl,hp];rw[<-hl,hp]at hr;exact hr|j+1,i,h=>by apply y8j;rw[q0b (by omega),cT,q37 (y:=(i:Int)) (by omega) (by rw[tN,List.getElem?_map,List.getElem?_range (by omega)];rfl),q0v,cF,q0d (by omega)];exact qsw a9 a13 a15 hl h10 hp hr j (i+1) (by omega)
theorem yd4(h:p.Perm ((List.range n).map Int.ofNat)):∃σ τ,Per n σ τ/\PerL n σ p:=by
 have hl:p.length=n:=by rw[h.length_eq];simp
 have hmem:∀x∈p,0<=x/\x<(n:Int):=fun x hx=>by obtain⟨k,hk,rfl⟩:=List.mem_map.1 (h.mem_iff.1 hx);have:=List.mem_range.1 hk;exact⟨by show(0:Int)<=k;omega,by show(k:Int)<n;omega⟩
 have hnd:p.Nodup:=by rw[h.nodup_iff,List.nodup_iff_pairwise_ne,List.pairwise_map];exact List.pairwise_lt_range.imp fun{a b}h e=>by have:(a:Int)=b:=e;omega
 have hall:∀i,i<n->∃k,p[k]?=some (i:Int):=fun i hi=>by have:(i:Int)∈p:=h.mem_iff.2 (List.mem_map.2 ⟨i,List.mem_range.2 hi,rfl⟩);obtain⟨k,hk⟩:=List.getElem?_of_mem this;exact⟨k,hk⟩
 have hget:∀k,k<n->p[k]?=some (((p.getD k 0).toNat:Nat):Int):=fun k hk=>by have e:p[k]?=some (p[k]'(by omega)):=List.getElem?_eq_getElem _;have h1:=hmem _ (List.mem_of_getElem? e);rw[e,List.getD_eq_getElem?_getD,e,Option.getD_some];congr 1;omega
 have hinj:∀j k x,p[j]?=some x->p[k]?=some x->j=k:=fun j k x h1 h2=>by obtain⟨a1,a2⟩:=List.getElem?_eq_some_iff.1 h1;obtain⟨b1,b2⟩:=List.getElem?_eq_some_iff.1 h2;exact(List.getElem?_inj a1 hnd).1 (by rw[h1,h2])
 have hlt:∀j x,p[j]?=some x->j<n:=fun j x h1=>by rw[<-hl];exact(List.getElem?_eq_some_iff.1 h1).1
 refine⟨fun k=>(p.getD k 0).toNat,fun i=>if hi:i<n then(hall i hi).choose else 0,⟨fun k hk=>?_,fun i hi=>?_,fun k hk=>?_,fun i hi=>?_⟩,hl,hget⟩;·have h1:=hmem _ (List.mem_of_getElem? (hget k hk));omega
 .simp only[dif_pos hi];exact hlt _ _ (hall i hi).choose_spec
 .have h1:=hmem _ (List.mem_of_getElem? (hget k hk));have hi:(p.getD k 0).toNat<n:=by omega
  simp only[dif_pos hi];exact hinj _ _ _ (hall _ hi).choose_spec (hget k hk)
 .simp only[dif_pos hi];have h1:=(hall i hi).choose_spec;rw[List.getD_eq_getElem?_getD,h1];rfl
theorem y58(hc:ConfOk 5 c)(h:p.Perm ((List.range c.Members.length).map Int.ofNat)):∃σ τ d,z6f c p=some (d,0)/\Ren c.Members.length σ τ c d/\PerL c.Members.length σ p:=by
 obtain⟨σ,τ,P,hp⟩:=yd4 h;have hle:=hc.le;have hpos:=hc.pos;have hv:=hc.valid (by decide);let out:=List.replicate c.Members.length (⟨false,⟨0,[],[]⟩⟩:Member);have hr:=qux P hp (by omega) c.Members rfl (fun x hx=>⟨by
   have:=hc.mem x hx;unfold MemOk at this;split at this;·have hvv:=this.1;simp only[valid,aT,dT']at hvv;omega
   .rw[this];decide,qex (hc.mem x hx)⟩) c.Members [] [] p c.Members 0 out rfl (by simp[out]);refine⟨σ,τ,⟨setR σ out 0 c.Members⟩,?_,⟨P,by omega,rfl,by rw[qy6];simp[out],⟨hpos,Nat.le_refl _,hc.mem⟩,fun k m hm=>?_⟩,hp⟩;·apply ydf;rw[qd9 hv.small,hv.cerr];simp only[bS,q0v,cF];rw[ybj _ _ rfl];simp only[bS];rw[qs1 (by rw[hp.1];omega) (fun e=>by have:=hp.1;rw[e]at this;simp at this;omega),qse h];simp only[bS,List.length_map,List.length_range];exact qsw c.Members [] p hp.1 (by omega) hp.1 hr c.Members.length 0 (by omega)
 .have:=(qyg P c.Members out 0 (by simp[out]) (by omega)).2 k m hm;rwa [Nat.zero_add]at this
theorem qrd{p:LI}(P:Per n σ τ)(hp:PerL n σ p)(hn:n<=10){s:Nat}(hs:s<2^n):∀(j i z:Nat),i+j=n->z<2^n->(∀k,k<i->z.testBit (σ k)=s.testBit k)->(∀k,i<=k->k<n->z.testBit (σ k)=false)->∃t,z6h (s:Int) (z:Int) p (n:Int) (i:Int)=some ((t:Nat):Int)/\Mv n σ s t
 |0,i,z,h,hz,h1,h2=>by refine⟨z,?_,hs,hz,fun k hk=>h1 k (by omega)⟩;apply y5a;rw[q02 (by omega)];rfl|j+1,i,z,h,hz,h1,h2=>by
  have hsl:=P.sl i (by omega);have hne:∀k,k<n->k≠i->σ i≠σ k:=fun k hk hki e=>by have a:=P.ts i (by omega);have b:=P.ts k hk;rw[e,b]at a;omega
  have hs10:=qf5 hn hs;have hz10:=qf5 hn hz;have hh:has s (i:Int)=s.testBit i:=by unfold has;simp only[tN,show(0:Int)<=(i:Int)by omega,show(i:Int)<10 by omega,decide_true,tA']
  cases hb:s.testBit i with|true=>
   have hpw:2^σ i<2^n:=Nat.pow_lt_pow_right (by decide) hsl;have k1:∀k,k<i+1->(z|||2^σ i).testBit (σ k)=s.testBit k:=fun k hk=>by
    rw[Nat.testBit_or,Nat.testBit_two_pow];by_cases e:k=i;·subst e;simp[hb]
    .rw[h1 k (by omega)];simp[hne k (by omega) e]
   have k2:∀k,i+1<=k->k<n->(z|||2^σ i).testBit (σ k)=false:=fun k hk hkn=>by rw[Nat.testBit_or,Nat.testBit_two_pow,h2 k (by omega) hkn];simp[hne k hkn (by omega)]
   obtain⟨t,g1,g2⟩:=qrd P hp hn hs j (i+1) (z|||2^σ i) (by omega) (Nat.or_lt_two_pow hz hpw) k1 k2;refine⟨t,?_,g2⟩;apply y5a;rw[q0b (by omega),cT,q37 (by omega) (by rw[tN];exact hp.2 i (by omega)),q7r hs10,hh,hb];simp only[bS,cT];have:=qf5 hn hpw;rw[q13 (by omega),shl1 (by omega) (by omega),tN,qam (by omega) (by omega),q0d (by omega)];exact g1|false=>
   have k1:∀k,k<i+1->z.testBit (σ k)=s.testBit k:=fun k hk=>by
    by_cases e:k=i;·subst e;rw[h2 k (by omega) (by omega),hb]
    .exact h1 k (by omega)
   obtain⟨t,g1,g2⟩:=qrd P hp hn hs j (i+1) z (by omega) hz k1 (fun k hk hkn=>h2 k (by omega) hkn);refine⟨t,?_,g2⟩;apply y5a;rw[q0b (by omega),cT,q37 (by omega) (by rw[tN];exact hp.2 i (by omega)),q7r hs10,hh,hb];simp only[bS,cF];rw[q0d (by omega)];exact g1
theorem qlc(P:Per n σ τ)(hp:PerL n σ p)(hn:n<=10){s:Nat}(hs:s<2^n):∃t,z7o (s:Int) p=some ((t:Nat):Int)/\Mv n σ s t:=by obtain⟨t,h1,h2⟩:=qrd P hp hn hs n 0 0 (by omega) (Nat.two_pow_pos n) (fun k hk=>by omega) (fun k _ _=>Nat.zero_testBit _);refine⟨t,?_,h2⟩;apply ycv;rw[hp.1];exact h1
theorem q8k{n:Nat}(h:ConfOk n c)(hn:n<=10):q23 c:=(h.valid hn).small
theorem law_l1(haw:z60=some true){c d:Config}(h5:n<=5)(R:Ren n σ τ c d){p:LI}(hp:PerL n σ p){l:LI}:∀(k:Nat)(r:Nat)(i:Int),k+r=8->q0r l i->z5u (n:Int) p (k:Int) l i c.Members d.Members=some true
 |k,0,i,h,ht=>by have hn:=R.n10;have hc:=R.ok;have hd:=R.confOk;obtain⟨ill,j,e1,e2,e3⟩:=ycd hc hn ht;rw[R.lc]at e2;obtain⟨t,f1,f2⟩:=qlc R.per hp hn e2;have hM:=R.intM f2;have hc5:pairE c c=0:=y2i (PairOk.self hc) (by omega);have hd5:pairE d d=0:=y2i (PairOk.self hd) (by omega);obtain⟨t2,m1,m2⟩:=qlc R.per hp hn hM.ls;have ht2:=m2.uniq R.per hM;subst ht2;apply y7t;rw[q02 (by omega),cF,show Config.mk c.Members=c from rfl,show Config.mk d.Members=d from rfl,e1];simp only[bS];rw[y82 (q8k hc hn) (q8k hc hn),qy7 hc5 (by rw[R.lc];exact e2)];simp only[bS];rw[f1];simp only[bS];rw[y82 (q8k hd hn) (q8k hd hn),qy7 hd5 (by rw[R.ld];exact f2.lt)];simp only[bS,q56,cT];rw[m1];simp only[bS,q56,cT];rw[haw];rfl|k,r+1,i,h,ht=>by
  have hn:=R.n10;have hc:=R.ok;have hd:=R.confOk;have hpos:=hc.pos;have hlc:=R.lc;obtain⟨v,j,e1,q1,q2,e3⟩:=N_ok (n:=((2^n:Nat):Int)) (by have:=Nat.two_pow_pos n;omega) (by have:=ydl (n:=(n:Int)) (by omega) (by omega);rw[tN]at this;omega) ht;obtain⟨s,rfl⟩:=Int.eq_ofNat_of_zero_le q1;have hs:s<2^n:=by omega
  obtain⟨t,f1,f2⟩:=qlc R.per hp hn hs;have hM:=R.greatM f2;obtain⟨t2,m1,m2⟩:=qlc R.per hp hn hM.ls;have ht2:=m2.uniq R.per hM;subst ht2;have s1:=q8k hc hn;have s2:=q8k hd hn;have v1:=hc.valid hn;have v2:=hd.valid hn;have c1:s<2^c.Members.length:=by rw[R.lc];exact hs
  have c2:t<2^d.Members.length:=by rw[R.ld];exact f2.lt
  apply y7t;rw[q0b (by omega),cT,q13 (by omega),shl1 (by omega) (by omega),tN,e1];simp only[bS];rw[show Config.mk c.Members=c from rfl,show Config.mk d.Members=d from rfl,qpd s1,qz1 v1 c1];simp only[bS];rw[f1];simp only[bS];rw[qpd s2,qz1 v2 c2,qv2 s1,qza v1 c1];simp only[bS];rw[qv2 s2,qza v2 c2];simp only[bS,q0v,cF,R.split f2,R.halt f2,beq_self_eq_true,nT];rw[q5r (qf5 hn f2.lt) s2];simp only[bS];rw[q5r (qf5 hn hs) s1];simp only[bS];rw[m1];simp only[bS,q0v,cF];rw[q0d (by omega)];exact law_l1 haw h5 R hp (k+1) r j (by omega) e3
theorem qwl(haw:z60=some true)(t:LI):z8r t=some true:=by obtain⟨l,g0,a0⟩:=ybc t;obtain⟨c,i,g1,hc,a1⟩:=y3v (n:=5) (by decide) (by decide) a0;have hle:=hc.le;obtain⟨p,j,g2,hp,a2⟩:=y3q (m:=c.Members.length) (by omega) a1;obtain⟨σ,τ,d,g3,R,hpl⟩:=y58 hc hp;apply yb2;rw[g0];simp only[bS];rw[show(5:Int)=((5:Nat):Int)from rfl,g1];simp only[bS];rw[g2];simp only[bS];rw[show Config.mk c.Members=c from rfl,g3];simp only[bS,q0v,cF];exact law_l1 haw hle R hpl 0 8 j (by omega) a2
end Go.Proofs.YtklhcnnpgkkjcaaGreatDoor
namespace Go.Proofs.YtklhcnnpgkkjcaaGreatDoor
open Go Go.Ab Go.ChangeShapes Go.WideShapes Go.ChangeAt Go.WideMaps Go.WideElems Go.RowKit
theorem Tryz.own:ownKnob Tryz.prog.godebug=none:=by kernel_rfl
theorem Tryz.laidOut:laidOutB Tryz.prog=true:=by kernel_rfl
theorem y51{f:Nat}(hlaw:∀zs:LI,(∀z∈zs,(Lit.int .i64 z).wf=true)->∃n h',call env n f [.d (ints .i64 zs)] []=some (.d (.v (.bool true)),h')){W:World}{v:Value}{zs:LI}(hz:∀z∈zs,(Lit.int .i64 z).wf=true)(hv:Rep W qgn (ints .i64 zs) v):Calls Tryz.prog f #[v] W fun e w'=>e=.returned (.bool true)/\Below W.heap.size W w':=by obtain⟨n,h',hc⟩:=hlaw zs hz;exact top (E:=env) (yak n) (fun g cs hg=>by cases hg) (ds:=[ints .i64 zs]) hc rfl (fun i d hd=>by cases i with|zero=>simp at hd;subst hd;exact hv|succ i=>simp at hd)
end Go.Proofs.YtklhcnnpgkkjcaaGreatDoor
