/- Laws of the printed functions. -/
import Derived.Test.YtdmfjabikomgiaaGreatP20SegA
import Derived.Test.YtdmfjabikomgiaaGreatRows
import Derived.ProofKit
import Derived.LaidMore
import Derived.OpenShut
import Derived.Stop.Joined
namespace Go.Proofs.YtdmfjabikomgiaaGreat
open Go Go.Ab Go.Sort
theorem nz{a:Nat}:a≠0↔∃i,a.testBit i=true:=⟨y4k,fun⟨i,hi⟩e=>by simp_all⟩
theorem qvb{a b:Nat}:a&&&b≠0↔∃i,a.testBit i=true/\b.testBit i=true:=by rw[nz];simp
theorem qmj{a b:Nat}:ndiff a b≠0↔∃i,a.testBit i=true/\b.testBit i=false:=by rw[nz];simp only[q0b,aT,Bool.not_eq_true']
def full(c:Config):Nat:=2^c.Members.length-1
theorem y6e{c:Config}{i:Nat}:(full c).testBit i=decide (i<c.Members.length):=by rw[full,Nat.testBit_two_pow_sub_one]
theorem yac{c:Config}(hn:c.Members.length<=10):full c<1024:=by have:=pow10 hn;unfold full;omega
theorem qz1{c:Config}{s:Nat}:s<2^c.Members.length↔Sub s (full c):=qfn
theorem y3f{c:Config}(hn:c.Members.length<=10):Sub (decl c) (full c):=qz1.1 (qa7 hn)
structure PairOk(n:Nat)(lo hi:Config):Prop where
 lok:ConfOk n lo
 hik:ConfOk n hi
 len:lo.Members.length=hi.Members.length
 dec:decl lo=decl hi
 imp:∀k s,(decl lo).testBit k=true->s<1024->sat s (tr hi k)=true->sat s (tr lo k)=true
variable {n : Nat} {lo hi : Config}
theorem PairOk.fullEq(h:PairOk n lo hi):full lo=full hi:=by unfold full;rw[h.len]
theorem qnz(h:PairOk n lo hi){q:Nat}(hq:q2x hi q):q2x lo q:=⟨hq.1,by rw[h.dec];exact hq.2.1,fun k hk=>h.imp k q (by rw[h.dec];exact hq.2.1 k hk) (y7l hq) (hq.2.2 k hk)⟩
theorem qkd{s z:Nat}(h:Sub s z){t:Trust}(hs:sat s t=true):sat z t=true:=qvh (qtf h) t hs
theorem ye8{c:Config}{a b:Nat}(ha:q2x c a)(hb:q2x c b):q2x c (a|||b):=by
 refine⟨fun e=>ha.1 (Nat.le_zero.1 (e▸(Nat.left_le_or:a<=a|||b))),ha.2.1.or hb.2.1,fun k hk=>?_⟩;rw[Nat.testBit_or,Bool.or_eq_true]at hk;rcases hk with hk|hk;·exact qkd Sub.left (ha.2.2 k hk)
 .exact qkd Sub.right (hb.2.2 k hk)
def QL(c:Config)(b y:Nat):Prop:=y≠0/\Sub y (decl c)/\(∀i,y.testBit i=true->b.testBit i=false)/\∀k,y.testBit k=true->sat (y|||b) (tr c k)=true
theorem ydl{c:Config}{b y:Nat}:q2x (delC b c) y↔QL c b y:=by
 constructor;·intro h;have hd:∀i,y.testBit i=true->b.testBit i=false:=fun i hi=>(q44.1 (h.2.1 i hi)).2;have h':=(qlw (y7l h) hd).1 h;exact⟨h'.1,h'.2.1,hd,h'.2.2⟩
 .rintro⟨h1,h2,h3,h4⟩;exact(qlw (h2.lt (qd6 c)) h3).2 ⟨h1,h2,h4⟩
theorem qad{c:Config}{b d y:Nat}(hbd:Sub b d)(h:QL c b y)(h0:ndiff y d≠0):QL c d (ndiff y d):=by
 refine⟨h0,fun i hi=>h.2.1 i ?_,fun i hi=>?_,fun k hk=>?_⟩;·rw[q0b,aT]at hi;grind
 .rw[q0b,aT,Bool.not_eq_true']at hi;grind
 .rw[q0b,aT]at hk;rw[qsx];refine qkd (fun i hi=>?_) (h.2.2.2 k hk.1);rw[Nat.testBit_or,Bool.or_eq_true]at hi⊢;exact hi.imp id (hbd i)
theorem y8t{c:Config}{q:Nat}(h:q2x c q):QL c 0 q:=⟨h.1,h.2.1,fun i _=>Nat.zero_testBit i,fun k hk=>by rw[Nat.or_zero];exact h.2.2 k hk⟩
theorem quq(b:Nat):Sub 0 b:=fun i hi=>by simp_all
theorem qpp{c:Config}{b q:Nat}(h:q2x c q)(hd:∀i,q.testBit i=true->b.testBit i=false):QL c b q:=⟨h.1,h.2.1,hd,fun k hk=>qkd Sub.left (h.2.2 k hk)⟩
theorem qjw{c:Config}(hn:c.Members.length<=10){b:Nat}:qc6 c b=true↔∃x y,QL c b x/\QL c b y/\x&&&y=0:=by unfold qc6;rw[y5r (by rw[y5h];omega)];simp only[ydl]
theorem qmh{c:Config}(hn:c.Members.length<=10){b x y:Nat}(h:qc6 c b=false)(hx:QL c b x)(hy:QL c b y):∃i,x.testBit i=true/\y.testBit i=true:=by apply qvb.1;intro e;rw[(qjw hn).2 ⟨x,y,hx,hy,e⟩]at h;cases h
def y2u(c:Config)(b:Nat):Bool:=ndiff (full c) b==0||quoB c (ndiff (full c) b)
def isB(lo hi:Config)(b:Nat):Bool:=y2u hi b&&!qc6 lo b
theorem yav{c:Config}(hn:c.Members.length<=10)(b:Nat):ndiff (full c) b<1024:=q6m (yac hn)
theorem y2n{c:Config}(hn:c.Members.length<=10){b:Nat}:y2u c b=true↔ndiff (full c) b=0\/q2x c (ndiff (full c) b):=by unfold y2u;rw[Bool.or_eq_true,beq_iff_eq,qnn (yav hn b)]
theorem ConfOk.le10{c:Config}(h:ConfOk n c)(hn:n<=10):c.Members.length<=10:=Nat.le_trans h.le hn
theorem qg8(h:PairOk n lo hi)(hn:n<=10){b:Nat}:isB lo hi b=true↔(ndiff (full lo) b=0\/q2x hi (ndiff (full lo) b))/\qc6 lo b=false:=by unfold isB;rw[aT,y2n (h.hik.le10 hn),<-h.fullEq,Bool.not_eq_true']
theorem q53{a b:Nat}:ndiff a b=0↔Sub a b:=by rw[<-qne,subB,beq_iff_eq]
theorem y5d(h:PairOk n lo hi)(hn:n<=10):isB lo hi (full lo)=true:=by rw[qg8 h hn];refine⟨.inl (q53.2 (Sub.refl _)),?_⟩;rw[<-Bool.not_eq_true,qjw (h.lok.le10 hn)];rintro⟨x,_,⟨h1,h2,h3,_⟩,_⟩;obtain⟨i,hi⟩:=nz.1 h1;have:=y3f (h.lok.le10 hn) i (h2 i hi);simp_all
theorem meets(h:PairOk n lo hi)(hn:n<=10){ill x y:Nat}(hx:isB lo hi x=true)(hy:isB lo hi y=true)(hill:qc6 lo ill=false)(ix:Sub ill x)(iy:Sub ill y)(lx:Sub x (full lo))(ly:Sub y (full lo)):isB lo hi (x&&&y)=true:=by
 have hle:=h.lok.le10 hn;obtain⟨ax,sx⟩:=(qg8 h hn).1 hx;obtain⟨ay,sy⟩:=(qg8 h hn).1 hy;rcases ax with ax|ax;·rw[show x&&&y=y from(Sub.and_right x y).antisymm (fun i hi=>by rw[Nat.testBit_and,q53.1 ax i (ly i hi),hi];rfl)];omega
 rcases ay with ay|ay;·rw[show x&&&y=x from(Sub.and_left x y).antisymm (fun i hi=>by rw[Nat.testBit_and,q53.1 ay i (lx i hi),hi];rfl)];omega
 have hU:ndiff (full lo) (x&&&y)=ndiff (full lo) x|||ndiff (full lo) y:=by apply Nat.eq_of_testBit_eq;intro i;simp only[Nat.testBit_or,q0b,Nat.testBit_and];cases(full lo).testBit i<;>cases x.testBit i<;>cases y.testBit i<;>rfl
 rw[qg8 h hn,hU];refine⟨.inr (ye8 ax ay),?_⟩;have bx:∀i,(ndiff (full lo) x).testBit i=true->x.testBit i=false:=fun i hi=>by rw[q0b,aT,Bool.not_eq_true']at hi;grind
 have by':∀i,(ndiff (full lo) y).testBit i=true->y.testBit i=false:=fun i hi=>by rw[q0b,aT,Bool.not_eq_true']at hi;grind
 have off:∀{a b:Nat},Sub a b->∀i,b.testBit i=false->a.testBit i=false:=fun{a b}hs i hi=>by cases ha:a.testBit i with|false=>rfl|true=>rw[hs i ha]at hi;omega
 obtain⟨m,m1,m2⟩:=qmh hle hill (qpp (qnz h ax) fun i hi=>off ix i (bx i hi)) (qpp (qnz h ay) fun i hi=>off iy i (by' i hi));have claim:∀A,QL lo (x&&&y) A->ndiff A x≠0:=by intro A hA h0;have hsub:=q53.1 h0;obtain⟨i,hi⟩:=nz.1 hA.1;have hxy:=hA.2.2.1 i hi;rw[Nat.testBit_and,hsub i hi,tA']at hxy;have hAy:=qad (Sub.and_right x y) hA (qmj.2 ⟨i,hi,hxy⟩);have hUy:=qad (quq y) (y8t (qnz h ax)) (qmj.2 ⟨m,m1,by' m m2⟩);obtain⟨j,j1,j2⟩:=qmh hle sy hAy hUy;rw[q0b,aT]at j1 j2;grind
 rw[<-Bool.not_eq_true,qjw hle];rintro⟨A,B,hA,hB,hAB⟩;obtain⟨j,j1,j2⟩:=qmh hle sx (qad (Sub.and_left x y) hA (claim A hA)) (qad (Sub.and_left x y) hB (claim B hB));rw[q0b,aT]at j1 j2;exact qvb.2 ⟨j,j1.1,j2.1⟩ hAB
def alls(lo hi:Config)(ill:Nat):List Nat:=(qqh (full lo)).filter fun b=>ndiff ill b==0&&isB lo hi b
theorem qbi{ill b:Nat}:b∈alls lo hi ill↔Sub b (full lo)/\Sub ill b/\isB lo hi b=true:=by unfold alls;rw[List.mem_filter,qg1,aT,beq_iff_eq,q53]
theorem y0b(h:PairOk n lo hi)(hn:n<=10){ill:Nat}(hill:Sub ill (full lo)):full lo∈alls lo hi ill:=qbi.2 ⟨Sub.refl _,hill,y5d h hn⟩
def ands:List Nat->Nat->Nat:=fun l a=>l.foldl (fun a b=>a&&&b) a
theorem qod{p:Nat->Prop}(hp:∀a b,p a->p b->p (a&&&b)):∀(l:List Nat)(a:Nat),p a->(∀b∈l,p b)->p (ands l a)|[],_,ha,_=>ha|x::l,a,ha,h=>qod hp l (a&&&x) (hp a x ha (h x (by simp))) (fun b hb=>h b (by grind))
def bef(lo hi:Config)(ill:Nat):Nat:=if qc6 lo ill then full lo else ands (alls lo hi ill) (full lo)
theorem y8j(h:PairOk n lo hi)(hn:n<=10){ill:Nat}(hill:Sub ill (full lo))(hs:qc6 lo ill=false):bef lo hi ill∈alls lo hi ill:=by unfold bef;rw[hs];exact qod (p:=fun b=>b∈alls lo hi ill) (fun a b ha hb=>by obtain⟨a1,a2,a3⟩:=qbi.1 ha;obtain⟨b1,b2,b3⟩:=qbi.1 hb;exact qbi.2 ⟨(Sub.and_left _ _).trans a1,fun i hi=>by rw[Nat.testBit_and,a2 i hi,b2 i hi];rfl,meets h hn a3 b3 hs a2 b2 a1 b1⟩) _ _ (y0b h hn hill) fun b hb=>hb
theorem qyk(h:PairOk n lo hi)(hn:n<=10){ill:Nat}(hill:Sub ill (full lo))(h0:ndiff (full lo) (bef lo hi ill)≠0):qc6 lo ill=false/\q2x hi (ndiff (full lo) (bef lo hi ill)):=by cases hs:qc6 lo ill with|true=>exfalso;apply h0;rw[q53];unfold bef;rw[hs];exact Sub.refl _|false=>obtain⟨_,_,hb⟩:=qbi.1 (y8j h hn hill hs);exact⟨rfl,((qg8 h hn).1 hb).1.resolve_left h0⟩
theorem y9v{c:Config}(h:ConfOk n c)(_hn:n<=10){k:Nat}(hk:(decl c).testBit k=true):Sub (uses (tr c k)) (full c):=by obtain⟨m,m1,m2,m3⟩:=qac hk;have:=(h.good m (List.mem_of_getElem? m1) m3).2;rw[m2];exact qz1.1 (qg4 _ this)
theorem y5m{c:Config}(h:ConfOk n c)(hn:n<=10){k s z:Nat}(hk:(decl c).testBit k=true)(hs:∀i,(full c).testBit i=true->s.testBit i=z.testBit i):sat s (tr c k)=sat z (tr c k):=by apply y4p;intro j hj;obtain⟨i,rfl,hi,hb⟩:=y25 hj;rw[q3a hi,q3a hi];exact hs i (y9v h hn hk i hb)
theorem follows(h:PairOk n lo hi)(hn:n<=10){ill x g:Nat}(hill:Sub ill (full lo))(hg:q2x lo g)(h0:g&&&ndiff (full lo) (bef lo hi ill)≠0)(hx:Sub (g&&&ndiff (full lo) (bef lo hi ill)) x)(hne:¬Sub (ndiff (full lo) (bef lo hi ill)) x):∃v,(ndiff (full lo) (bef lo hi ill)).testBit v=true/\x.testBit v=false/\blk lo v (ndiff (full lo) (bef lo hi ill)&&&x)=true:=by
 have hle:=h.lok.le10 hn;have ha0:ndiff (full lo) (bef lo hi ill)≠0:=by obtain⟨i,_,h2⟩:=qvb.1 h0;exact nz.2 ⟨i,h2⟩
 obtain⟨hs,hq⟩:=qyk h hn hill ha0;have hb:=y8j h hn hill hs;obtain⟨_,_,hbi⟩:=qbi.1 hb;have hsb:=((qg8 h hn).1 hbi).2;generalize hB:bef lo hi ill=b at*;apply Classical.byContradiction;intro hno;have hno':∀v,(ndiff (full lo) b).testBit v=true->x.testBit v=false->blk lo v (ndiff (full lo) b&&&x)=false:=fun v h1 h2=>by cases hk:blk lo v (ndiff (full lo) b&&&x)with|false=>rfl|true=>exact absurd ⟨v,h1,h2,hk⟩ hno
 have hdec:Sub (ndiff (full lo) b) (decl lo):=by rw[h.dec];exact hq.2.1
 have hW0:ndiff (ndiff (full lo) b) x≠0:=fun e=>hne (q53.1 e);have hW:QL lo b (ndiff (ndiff (full lo) b) x):=by
  refine⟨hW0,fun i hi=>hdec i ?_,fun i hi=>?_,fun k hk=>?_⟩;·rw[q0b,aT]at hi;exact hi.1
  .rw[q0b,q0b]at hi;simp only[aT,Bool.not_eq_true']at hi;exact hi.1.2
  .rw[q0b (ndiff (full lo) b) x,aT,Bool.not_eq_true']at hk;have hkd:=hdec k hk.1;have:=hno' k hk.1 hk.2;unfold blk at this;rw[hkd,tA',Bool.not_eq_false']at this;rw[<-this];apply y5m h.lok hn hkd;intro i hi;have h10:(1023:Nat).testBit i=true:=by rw[y6e,dT']at hi;rw[qt1,dT'];omega
   rw[Nat.testBit_or,Nat.testBit_or,q0b,q0b,q0b,Nat.testBit_and,q0b,q8s,hi,h10];by_cases hki:k=i;·subst hki;rw[hk.2];have:=hk.1;rw[q0b,hi,tA']at this;simp[this]
   .rw[decide_eq_false hki];cases b.testBit i<;>cases x.testBit i<;>rfl
 have hgl:=qad (quq b) (y8t hg) (by obtain⟨i,h1,h2⟩:=qvb.1 h0;rw[q0b,aT,Bool.not_eq_true']at h2;exact qmj.2 ⟨i,h1,h2.2⟩);obtain⟨i,i1,i2⟩:=qmh hle hsb hW hgl;rw[q0b,aT,Bool.not_eq_true']at i1;rw[q0b,aT]at i2;have:=hx i (by rw[Nat.testBit_and,i2.1,i1.1];rfl);simp_all
end Go.Proofs.YtdmfjabikomgiaaGreat
namespace Go.Proofs.YtdmfjabikomgiaaGreat
open Go Go.Ab
noncomputable instance:DecidableEq Trust:=fun a b=>Classical.propDecidable (a=b)
theorem Trust.etaM(t:Trust):Trust.mk t.Threshold t.Nodes t.Inner=t:=by simp
theorem qdo(t:Trust):eqB (verr t) 0=valid t:=by have:=q66 t;cases h:valid t with|true=>rw[h]at this;simp[eqB,this.2 rfl]|false=>rw[h]at this;simp only[fT,iff_false]at this;simp[eqB,this]
theorem qqr(t:Trust):neB (verr t) 0=!valid t:=by rw[<-qdo];rfl
theorem qom(l k:List Int)(hl:l.length<1152921504606846976)(hk:l.length=k.length):∀(suf suk:List Int)(i:Nat),l.drop i=suf->k.drop i=suk->z21 l k ((l.length:Nat):Int) (i:Int)=some (decide (suf=suk))
 |[],suk,i,h,h'=>by
  have:suk=[]:=by rw[<-h',List.drop_eq_nil_iff,<-hk];simp_all
  subst this;apply y6l;rw[q0f h];simp|y::suf,[],i,h,h'=>by have:=q0d h;have:=List.drop_eq_nil_iff.1 h';omega|y::suf,z::suk,i,h,h'=>by
  have hlt:=q0d h;apply y6l;rw[q08 h,cT,q04 h,q04 h',q01 (by omega),qom l k hl hk suf suk (i+1) (q03 h) (q03 h')];by_cases hx:y=z;·subst hx;rw[q0i];simp
  .rw[q1i hx];simp[hx]
theorem qzh(l k:List Int)(hl:l.length<1152921504606846976):z3p l k=some (decide (l=k)):=by
 apply ygd;by_cases hk:l.length=k.length;·rw[hk,q0i,cF,<-hk];exact qom l k hl hk l k 0 rfl rfl
 .rw[q1i (by omega),cT];have:l≠k:=fun e=>hk (by rw[e]);simp_all
theorem y24(l k:List Trust)(hl:l.length<1152921504606846976)(hk:l.length=k.length)(hf:∀x∈l,∀y,z45 x y=some (decide (x=y))):∀(suf suk:List Trust)(i:Nat),l.drop i=suf->k.drop i=suk->z0h k l ((l.length:Nat):Int) (i:Int)=some (decide (suf=suk))
 |[],suk,i,h,h'=>by
  have:suk=[]:=by rw[<-h',List.drop_eq_nil_iff,<-hk];simp_all
  subst this;apply y7x;rw[q0f h];simp|y::suf,[],i,h,h'=>by have:=q0d h;have:=List.drop_eq_nil_iff.1 h';omega|y::suf,z::suk,i,h,h'=>by have hlt:=q0d h;apply y7x;rw[q08 h,cT,q04 h,q04 h',hf y (List.mem_of_mem_drop (i:=i) (by simp_all)),bS,q01 (by omega),y24 l k hl hk hf suf suk (i+1) (q03 h) (q03 h')];by_cases hx:y=z<;>simp[hx]
theorem qw2:∀a:Trust,Small a->∀b:Trust,z45 a b=some (decide (a=b)):=by
 apply Trust.ind;intro a ih ha b;have hn:=ha.nodes;have hi:=ha.inner;apply ygf;have h1:z1d a.Inner b.Inner=some (decide (a.Inner=b.Inner)):=by
  apply yf5;by_cases hk:a.Inner.length=b.Inner.length;·rw[hk,q0i,cF,<-hk];exact y24 a.Inner b.Inner hi hk (fun x hx y=>ih x hx (ha.mem hx) y) a.Inner b.Inner 0 rfl rfl
  .rw[q1i (by omega),cT];have:a.Inner≠b.Inner:=fun e=>hk (by rw[e]);simp_all
 rw[qzh _ _ hn,h1];cases a;cases b;simp only[Trust.mk.injEq,bS];rename_i t n i t' n' i';by_cases h1:t=t'<;>by_cases h2:n=n'<;>by_cases h3:i=i'<;>simp[eqB,h1,h2,h3]
theorem qns(a:Trust)(ha:Small a)(b:Trust):z3l a b=some (decide (a=b)):=by obtain⟨r,h1,h2⟩:=y3v a ha b;grind
def msgB(m:Message):Bool:=inR m.Node&&(decide (1<=m.Seq)&&(valid m.Trust&&(plainC m.Votes&&plainC m.Accepts)))
structure SmallM(m:Message):Prop where
 tr:Small m.Trust
 votes:m.Votes.length<1000000
 accs:m.Accepts.length<1000000
theorem q49{l:List Claim}(h:plainC l=true):l.length<=128:=by rw[<-qxs h];exact q6n l
theorem q2q{m:Message}:msgB m=true↔inR m.Node=true/\1<=m.Seq/\valid m.Trust=true/\plainC m.Votes=true/\plainC m.Accepts=true:=by simp[msgB]
theorem q2f{m:Message}(h:msgB m=true):SmallM m:=by obtain⟨_,_,h1,h2,h3⟩:=q2q.1 h;have:=q49 h2;have:=q49 h3;exact⟨q28 h1,by omega,by omega⟩
theorem qw6(k:Int):z5y k=some (inR k):=by
 apply yd4;by_cases h:0<=k;·simp[leB,ltB,inR,h]
 .simp[leB,ltB,inR,h]
theorem qce{m:Message}(h:SmallM m):z2l m=some (msgB m):=by apply ycs;rw[qw6,q8v _ h.tr,qay _ (by have:=h.votes;omega),qay _ (by have:=h.accs;omega)];simp only[bS,qdo,msgB,leB];cases inR m.Node<;>cases decide (1<=m.Seq)<;>cases valid m.Trust<;>cases plainC m.Votes<;>rfl
theorem y3e{m:Message}(h:SmallM m):z7i m=some (msgB m):=by apply ybl;rw[qn2 _ h.tr,qb2 _ (by have:=h.votes;omega),qb2 _ (by have:=h.accs;omega)];simp only[bS,qdo,msgB,leB,ltB,inR];cases decide (0<=m.Node)<;>cases decide (m.Node<10)<;>cases decide (1<=m.Seq)<;>cases valid m.Trust<;>cases plainC m.Votes<;>rfl
theorem qmd:∀t:Trust,Fits t->z42 t=some t:=by
 apply Trust.ind;intro t ih ht;have hsz:size t<1073741824:=ht;rw[q48]at hsz;have l1:∀(suf:List Trust)(i:Nat)(acc:List Trust)(a8:Int)(a10:List Int)(a12:List Trust)(a14:Int)(a16:List Int)(a18:List Trust)(a20:Int)(a22:List Int),t.Inner.drop i=suf->acc.length<=i->z38 t.Inner ((t.Inner.length:Nat):Int) (i:Int) a8 a10 a12 a14 a16 a18 a20 a22 acc=some ⟨a20,a22,acc++suf⟩:=by intro suf;induction suf with|nil=>intro i acc a8 a10 a12 a14 a16 a18 a20 a22 h ha;apply y73;simp only[q0f h,cF,List.append_nil]|cons y suf ihs=>intro i acc a8 a10 a12 a14 a16 a18 a20 a22 h ha;have hlt:=q0d h;have hy:y∈t.Inner:=List.mem_of_mem_drop (by rw[h];exact List.mem_cons_self);apply y73;simp only[q08 h,cT,q04 h,ih y hy (ht.mem hy),bS,q01 (show i<4611686018427387904 by omega),Trust.etaM];rw[q07 (by simp[q06];omega),ihs (i+1) (acc++[y]) _ _ _ _ _ _ _ _ (q03 h) (by simp;omega)];simp
 apply yby;rw[q07 (by simp[q06];omega),show(0:Int)=((0:Nat):Int)from rfl,l1 t.Inner 0 [] _ _ _ _ _ _ _ _ rfl (Nat.le_refl _)];simp
def seeM(ms:List Member)(m:Message):List Member:=ms.set m.Node.toNat ⟨true,m.Trust⟩
def viewC(v:Int)(t:Trust)(l:List Message):Config:=⟨(l.foldl seeM (List.replicate 10 ⟨false,⟨0,[],[]⟩⟩)).set v.toNat ⟨true,t⟩⟩
theorem q5o{k:Int}(h:inR k=true):0<=k/\k.toNat<10:=by simp[inR]at h;omega
theorem qvp{v:Int}{t:Trust}(hv:inR v=true)(ht:valid t=true)(l:List Message)(hl:l.length<1152921504606846976)(hm:∀m∈l,msgB m=true/\m.Node≠v):∀(suf:List Message)(i:Nat)(ms:List Member)(a17:List Member),l.drop i=suf->ms.length=10->z2h v l ((l.length:Nat):Int) (i:Int) t.Threshold t.Nodes t.Inner a17 ms=some ⟨(suf.foldl seeM ms).set v.toNat ⟨true,t⟩⟩|[],i,ms,a17,h,hms=>by obtain⟨h0,h10⟩:=q5o hv;apply y92;rw[q0f h,cF,qw6,bS,hv,cT,Trust.etaM,q8v _ (q28 ht),bS,qdo,ht,cT,qmd _ (q38 ht).1,bS,Trust.etaM,q0t (y:=ms[v.toNat]'(by omega)) h0 (by simp),q59 (y:=ms[v.toNat]'(by omega)) (by simp)];rfl|m::suf,i,ms,a17,h,hms=>by have hlt:=q0d h;obtain⟨g1,g2⟩:=hm m (List.mem_of_mem_drop (i:=i) (by simp_all));obtain⟨k1,_,k3,_⟩:=q2q.1 g1;obtain⟨h0,h10⟩:=q5o k1;apply y92;rw[q08 h,cT,q04 h,q1i g2,cT,qce (q2f g1),bS,g1,cT,qmd _ (q38 k3).1,bS,Trust.etaM,q0t (y:=ms[m.Node.toNat]'(by omega)) h0 (by simp),q59 (y:=ms[m.Node.toNat]'(by omega)) (by simp),q01 (by omega),qvp hv ht l hl hm suf (i+1) _ a17 (q03 h) (by grind)];rfl
theorem y6h{v:Int}{t:Trust}(hv:inR v=true)(ht:valid t=true)(l:List Message)(hl:l.length<1152921504606846976)(hm:∀m∈l,msgB m=true/\m.Node≠v):z5z v t l=some (viewC v t l):=by apply yco;exact qvp hv ht l hl hm l 0 _ _ rfl rfl
def who(p:Message->Bool)(l:List Message):Nat:=l.foldl (fun s m=>if p m then s|||bit m.Node else s) 0
def whoF(p:Message->Bool)(s:Nat)(l:List Message):Nat:=l.foldl (fun s m=>if p m then s|||bit m.Node else s) s
def votes(l:List Message)(x:Claim):Nat:=who (fun m=>decide (x∈m.Votes)) l
def q11(l:List Message)(x:Claim):Nat:=who (fun m=>decide (x∈m.Accepts)) l
theorem qem(p:Message->Bool)(s:Nat)(m:Message)(l:List Message):whoF p s (m::l)=whoF p (if p m then s|||bit m.Node else s) l:=rfl
theorem qs1(p:Message->Bool):∀(l:List Message)(s:Nat),s<1024->(∀m∈l,inR m.Node=true)->whoF p s l<1024
 |[],s,h,_=>h|m::l,s,h,hm=>by
  rw[qem];refine qs1 p l _ ?_ fun m hm'=>hm m (by simp[hm']);split;·exact or_lt h (qbw (hm m (by simp)))
  omega
theorem shlOr{s:Nat}{k:Int}(hs:s<1024)(h:inR k=true):orI .i64 (s:Int) (shlI .i64 1 k)=((s|||bit k:Nat):Int):=by have:=qbw h;rw[qfw h,q47 (by omega) (by omega)]
section
variable (l : List Message) (hl : l.length < 1152921504606846976) (hm : ∀ m ∈ l, msgB m = true) (x : Claim)
include hl hm
theorem qjt:∀(suf:List Message)(i s:Nat),l.drop i=suf->s<1024->z18 (s:Int) l ((l.length:Nat):Int) (i:Int) x.Topic x.Value=some ((whoF (fun m=>decide (x∈m.Votes)) s suf:Nat):Int)
 |[],i,s,h,hs=>by apply y6v;rw[q0f h];rfl|m::suf,i,s,h,hs=>by
  have hlt:=q0d h;have g1:=hm m (List.mem_of_mem_drop (i:=i) (by simp_all));obtain⟨k1,_⟩:=q2q.1 g1;have hf:z5p m=some m.Votes:=ydd _ _ rfl;have hsm:=(q2f g1).votes;apply y6v;rw[q08 h,cT,q04 h,qce (q2f g1),bS,g1,cT,hf,bS,show Claim.mk x.Topic x.Value=x from rfl,qjd _ (by omega),bS,q01 (by omega),qem,q0j (q5o k1).1,shlOr hs k1];by_cases hx:x∈m.Votes;·simp only[hx,decide_true,cT,if_true];exact qjt suf (i+1) _ (q03 h) (or_lt hs (qbw k1))
  .simp only[hx,decide_false,cF,fT,if_false];exact qjt suf (i+1) _ (q03 h) hs
theorem y08:z6e l x=some ((votes l x:Nat):Int):=by apply ybi;have h:z1z l x=some ((votes l x:Nat):Int):=yf6 _ _ _ (qjt l hl hm x l 0 0 rfl (by decide));simp_all
theorem qo0:∀(suf:List Message)(i s:Nat),l.drop i=suf->s<1024->z0y (s:Int) l ((l.length:Nat):Int) (i:Int) x.Topic x.Value=some ((whoF (fun m=>decide (x∈m.Accepts)) s suf:Nat):Int)
 |[],i,s,h,hs=>by apply y9c;rw[q0f h];rfl|m::suf,i,s,h,hs=>by
  have hlt:=q0d h;have g1:=hm m (List.mem_of_mem_drop (i:=i) (by simp_all));obtain⟨k1,_⟩:=q2q.1 g1;have hf:z4j m=some m.Accepts:=yg8 _ _ rfl;have hsm:=(q2f g1).accs;apply y9c;rw[q08 h,cT,q04 h,qce (q2f g1),bS,g1,cT,hf,bS,show Claim.mk x.Topic x.Value=x from rfl,qjd _ (by omega),bS,q01 (by omega),qem,q0j (q5o k1).1,shlOr hs k1];by_cases hx:x∈m.Accepts;·simp only[hx,decide_true,cT,if_true];exact qo0 suf (i+1) _ (q03 h) (or_lt hs (qbw k1))
  .simp only[hx,decide_false,cF,fT,if_false];exact qo0 suf (i+1) _ (q03 h) hs
theorem qwi:z48 l x=some ((q11 l x:Nat):Int):=by apply yd0;have h:z1v l x=some ((q11 l x:Nat):Int):=yet _ _ _ (qo0 l hl hm x l 0 0 rfl (by decide));simp_all
end
theorem qvn{l:List Message}(hm:∀m∈l,msgB m=true)(x:Claim):votes l x<1024:=qs1 _ l 0 (by decide) fun m h=>(q2q.1 (hm m h)).1
theorem q8h{l:List Message}(hm:∀m∈l,msgB m=true)(x:Claim):q11 l x<1024:=qs1 _ l 0 (by decide) fun m h=>(q2q.1 (hm m h)).1
def accB(c:Config)(v:Nat)(vs ac:Nat):Bool:=blk c v ac||(q1s c (vs|||ac)).testBit v
def confB(c:Config)(v:Nat)(ac:Nat):Bool:=(q1s c ac).testBit v
section
variable {c : Config} (hc : q3z c) {vs ac : Nat} (hv : vs < 1024) (ha : ac < 1024) {v : Nat} (hn : v < 10)
include hc ha hn
theorem y5a:z4c c (v:Int) (ac:Int)=some (confB c v ac):=by apply ybf;rw[qh2 ha hc,bS,q1e (qcf c ha),q3a hn];rfl
include hv
theorem y6k:z4o c (v:Int) (vs:Int) (ac:Int)=some (accB c v vs ac):=by apply ygj;rw[q35 hv,q35 ha,qx3 hc ha,q47 (by omega) (by omega),qh2 (or_lt hv ha) hc];simp only[bS,q1e (qcf c (or_lt hv ha)),q3a hn,accB];cases blk c v ac<;>rfl
end
theorem qdh{t:Member}:∀(l:List Message)(ms:List Member),t∈l.foldl seeM ms->t∈ms\/∃m∈l,t=⟨true,m.Trust⟩
 |[],ms,h=>.inl h|m::l,ms,h=>by
  rcases qdh l _ h with h|⟨m',h1,h2⟩
  .rcases List.mem_or_eq_of_mem_set h with h|h;·exact .inl h
   .exact .inr ⟨m,by simp,h⟩
  grind
theorem q9a:∀(l:List Message)(ms:List Member),(l.foldl seeM ms).length=ms.length|[],_=>rfl|m::l,ms=>by rw[List.foldl_cons,q9a l];simp[seeM]
theorem qt7{v:Int}{t:Trust}(ht:valid t=true){l:List Message}(hm:∀m∈l,msgB m=true):q3z (viewC v t l):=by
 refine⟨by simp[viewC,q9a],fun m h=>?_⟩;rcases List.mem_or_eq_of_mem_set h with h|h
 .rcases qdh l _ h with h|⟨m',h1,h2⟩;·rw[List.eq_of_mem_replicate h];simp[Small,size,sizes]
  .rw[h2];exact(q2f (hm m' h1)).tr
 .rw[h];exact q28 ht
end Go.Proofs.YtdmfjabikomgiaaGreat
namespace Go.Proofs.YtdmfjabikomgiaaGreat
open Go Go.Ab Go.Sort
end Go.Proofs.YtdmfjabikomgiaaGreat
namespace Go.Proofs.YtdmfjabikomgiaaGreat
open Go Go.Ab Go.Sort
theorem y4t{m:Nat}:∀t:Trust,good t=true->uses t<2^m->below (m:Int) t=true:=by
 apply Trust.ind;intro t ih hg hu;rw[qg9]at hg;simp only[aT,dT']at hg;obtain⟨_,_,hN,_,hI⟩:=hg;rw[qcm]at hu;have hu':=qfn.1 hu;rw[qva,aT];refine⟨?_,?_⟩;·rw[List.all_eq_true];intro k hk;have hkr:=List.all_eq_true.1 hN k hk;have h1:=qij hk hkr;obtain⟨j,rfl,hj,hb⟩:=y25 h1;have h2:=hu' j (by rw[Nat.testBit_or,hb];rfl);simp_all
 .have hgs:∀l:List Trust,goods l=true->∀x∈l,good x=true:=by intro l;induction l with|nil=>simp|cons y r ihr=>intro h x hx;simp only[goods,aT]at h;grind
  have key:∀l:List Trust,(∀x∈l,below (m:Int) x=true)->q5h (m:Int) l=true:=by intro l;induction l with|nil=>intro _;rfl|cons y r ihr=>intro h;simp only[q5h,h y (by simp),ihr (fun x hx=>h x (by grind)),Bool.and_self]
  refine key _ fun x hx=>ih x hx (hgs _ hI x hx) ?_;exact qfn.2 fun i hi=>hu' i (by rw[Nat.testBit_or,qj3 hx i hi,Bool.or_true])
theorem ValidC.conf{c:Config}{n:Nat}(h:ValidC c)(h1:1<=c.Members.length)(h2:c.Members.length<=n):ConfOk n c:=⟨h1,h2,fun m hm=>by
  have:=h.2 m hm;unfold MemV at this;unfold MemOk;split;·rename_i hd;rw[if_pos hd]at this;exact⟨this.1,y4t _ (qyo this.1) this.2⟩
  simp_all⟩
def qyy(ms:List Member):Prop:=∀m∈ms,Small m.Trust
theorem qxl(k m:Int):Small ⟨1,[k,m],[]⟩:=by unfold Small;rw[qb7];simp[sizes]
theorem qrj{n:Nat}(hn:n<=10)(h1:1<=n)(l:List Int)(i:Int)(a10:List Member):∀(r k:Nat)(ms:List Member),k+r=ms.length->1<=ms.length->ms.length<=n->qyy ms->(∀j m,j<k->ms[j]?=some m->m.Declared=true)->∃c,z53 ((ms.length:Nat):Int) (k:Int) l i a10 ms=some (c,l,i)/\ConfOk n c/\∀m∈c.Members,m.Declared=true
 |0,k,ms,hk,hp,hl,hs,hd=>by
  have hsc:q3z ⟨ms⟩:=⟨by grind,hs⟩;by_cases h0:cerr ⟨ms⟩=0
  .refine⟨⟨ms⟩,?_,(q6l.1 h0).conf hp hl,fun m hm=>?_⟩;·apply qvl;rw[q00 (by omega),cF,qi7 hsc,h0];rfl
   .obtain⟨j,hj⟩:=List.getElem?_of_mem hm;grind
  .refine⟨⟨[⟨true,⟨1,[0],[]⟩⟩]⟩,?_,?_,fun m hm=>?_⟩;·apply qvl;rw[q00 (by omega),cF,qi7 hsc];simp[neB,h0]
   .refine⟨by show 1<=1;omega,by show 1<=n;omega,fun x hx=>?_⟩;have hx':x=⟨true,⟨1,[0],[]⟩⟩:=by simpa using hx
    subst hx';show MemOk 1 _;unfold MemOk;rw[if_pos rfl];exact⟨by decide,by decide⟩
   simp_all|r+1,k,ms,hk,hp,hl,hs,hd=>by
  have hlt:k<ms.length:=by omega
  have hget:ms[k]?=some ms[k]:=by simp
  cases hdk:ms[k].Declared with|true=>obtain⟨c,g1,g2⟩:=qrj hn h1 l i a10 r (k+1) ms (by omega) hp hl hs (fun j m hj hm=>by
    rcases Nat.lt_or_ge j k with h|h;·exact hd j m h hm
    .obtain rfl:j=k:=by omega
     rw[hget]at hm;cases hm;exact hdk);refine⟨c,?_,g2⟩;apply qvl;rw[q02 (by omega),cT,q0t (y:=ms[k]) (by omega) (by rw[tN];exact hget)];simp only[nthN,tN,hget,hdk,nT,cF];rw[q01 (by omega)];omega|false=>
   have hlen:(ms.set k ⟨true,⟨1,[(k:Int),remI .i64 ((k+1:Nat):Int) ((ms.length:Nat):Int)],[]⟩⟩).length=ms.length:=by simp
   obtain⟨c,g1,g2⟩:=qrj hn h1 l i a10 r (k+1) (ms.set k ⟨true,⟨1,[(k:Int),remI .i64 ((k+1:Nat):Int) ((ms.length:Nat):Int)],[]⟩⟩) (by rw[hlen];omega) (by rw[hlen];exact hp) (by rw[hlen];exact hl) (fun m hm=>by
    rcases List.mem_or_eq_of_mem_set hm with h|h;·exact hs m h
    .subst h;exact qxl _ _) (fun j m hj hm=>by
    rw[List.getElem?_set]at hm;split at hm;·cases hm;rfl
    .exact hd j m (by omega) hm);refine⟨c,?_,g2⟩;rw[hlen]at g1;apply qvl;rw[q02 (by omega),cT,q0t (y:=ms[k]) (by omega) (by rw[tN];exact hget)];simp only[nthN,tN,hget,hdk,Bool.not_false,cT];rw[q0j (by omega),q0t (y:=ms[k]) (by omega) (by rw[tN];exact hget),q01 (by omega)];omega
theorem y9s{n:Nat}(hn:n<=10)(h1:2<=n)(l:List Int)(i:Int)(a6:List Member):∀(r:Nat)(ms:List Member),2<=ms.length+r->ms.length<=n->qyy ms->∃c,z6z l i a6 ms=some (c,l,i)/\ConfOk n c/\∀m∈c.Members,m.Declared=true:=by intro r;induction r with|zero=>intro ms h2 hl hs;obtain⟨c,g1,g2⟩:=qrj hn (by omega) l i a6 ms.length 0 ms (by omega) (by omega) hl hs (fun j m hj _=>by omega);refine⟨c,?_,g2⟩;apply y84;rw[q00 (by omega),cF];omega|succ r ih=>
  intro ms h2 hl hs;by_cases h:ms.length<2;·obtain⟨c,g1,g2⟩:=ih (ms++[⟨false,⟨0,[],[]⟩⟩]) (by simp;omega) (by simp;omega) (fun m hm=>by
    rcases List.mem_append.1 hm with hm|hm;·exact hs m hm
    .rw[List.mem_singleton]at hm;subst hm;unfold Small;rw[qb7];simp[sizes]);refine⟨c,?_,g2⟩;apply y84;rw[q02 (by omega),cT,q07 (by simp[q06];omega)];exact g1
  grind
theorem y1b{n:Nat}(h1:2<=n)(h2:n<=10){l:List Int}{i:Int}(h:q0u l i):∃c j,z7q (n:Int) l i=some (c,l,j)/\ConfOk n c/\(∀m∈c.Members,m.Declared=true)/\q0u l j:=by obtain⟨c0,j,a1,a2,a3⟩:=qzc (by omega) h2 h;obtain⟨c,g1,g2,g3⟩:=y9s h2 h1 l j [] 2 c0.Members (by omega) a2.le (a2.smallC h2).2;refine⟨c,j,?_,g2,g3,a3⟩;apply yfs;simp_all
end Go.Proofs.YtdmfjabikomgiaaGreat
namespace Go.Proofs.YtdmfjabikomgiaaGreat
open Go Go.Ab
def say(v:Voter):Message:=⟨v.Node,v.Seq,v.Trust,v.Votes,v.Accepts⟩
def q37(n:Int):Option Int->List Message->Bool|_,[]=>true|none,m::r=>msgB m&&(!decide (m.Node=n)&&q37 n (some m.Node) r)|some q,m::r=>msgB m&&(!decide (m.Node=n)&&(decide (q<m.Node)&&q37 n (some m.Node) r))
structure SmallV(v:Voter):Prop where
 tr:Small v.Trust
 votes:v.Votes.length<1000000
 accs:v.Accepts.length<1000000
 confs:v.Confirms.length<1000000
 heard:v.Heard.length<1000000
 msgs:∀m∈v.Heard,SmallM m
def q2y(v:Voter):Bool:=inR v.Node&&(decide (1<=v.Seq)&&(decide (v.Seq<=1000000)&&(valid v.Trust&&(plainC v.Votes&&(plainC v.Accepts&&(plainC v.Confirms&&(consC v.Votes&&(consC v.Accepts&&(v.Confirms.all (fun x=>decide (x∈v.Accepts))&&q37 v.Node none v.Heard)))))))))
theorem q22{n:Int}:∀{l:List Message}{q:Option Int},q37 n q l=true↔(∀m∈l,msgB m=true/\m.Node≠n)/\(∀k,q=some k->∀m∈l,k<m.Node)/\l.Pairwise (fun a b=>a.Node<b.Node)
 |[],q=>by cases q<;>simp[q37]|m::r,q=>by
  have ih:=q22 (n:=n) (l:=r) (q:=some m.Node);have h1:q37 n q (m::r)=true↔msgB m=true/\m.Node≠n/\(∀k,q=some k->k<m.Node)/\q37 n (some m.Node) r=true:=by cases q<;>simp[q37]
  rw[h1,ih,List.pairwise_cons];grind
theorem qpb{n:Int}{l:List Message}(h:q37 n none l=true):l.length<=10:=by obtain⟨h1,_,h3⟩:=q22.1 h;have:=qcd (m:=10) (l:=l.map (·.Node)) (by decide) (fun k hk=>by obtain⟨m,hm,rfl⟩:=List.mem_map.1 hk;have:=(q2q.1 (h1 m hm).1).1;simpa[inR]using this) (List.pairwise_map.2 h3);grind
theorem y0z(l:List Claim)(v:Voter)(hl:l.length<1152921504606846976)(ha:v.Accepts.length<1000000):∀(suf:List Claim)(i:Nat),l.drop i=suf->∃r:Int,z0t l ((l.length:Nat):Int) (i:Int) v.Node v.Seq v.Trust.Threshold v.Trust.Nodes v.Trust.Inner v.Votes v.Accepts v.Confirms v.Heard=some (r,v.Node,v.Seq,v.Trust.Threshold,v.Trust.Nodes,v.Trust.Inner,v.Votes,v.Accepts,v.Confirms,v.Heard)/\leB 0 r=!(suf.all fun x=>decide (x∈v.Accepts))
 |[],i,h=>by refine⟨-1,y1k _ _ _ _ _ _ _ _ _ _ _ _ _ ?_,by rfl⟩;rw[q0f h];rfl|y::suf,i,h=>by
  have hlt:=q0d h;obtain⟨r,h1,h2⟩:=y0z l v hl ha suf (i+1) (q03 h);have hf:z6u y v.Node v.Seq v.Trust.Threshold v.Trust.Nodes v.Trust.Inner v.Votes v.Accepts v.Confirms v.Heard=some (!decide (y∈v.Accepts),v.Node,v.Seq,v.Trust.Threshold,v.Trust.Nodes,v.Trust.Inner,v.Votes,v.Accepts,v.Confirms,v.Heard):=by apply ybv;rw[qjd _ (by omega)];rfl
  by_cases hy:y∈v.Accepts;·refine⟨r,y1k _ _ _ _ _ _ _ _ _ _ _ _ _ ?_,by rw[h2];simp[hy]⟩;rw[q08 h,cT,q04 h,hf,bS,q01 (by omega)];simp_all
  .refine⟨i,y1k _ _ _ _ _ _ _ _ _ _ _ _ _ ?_,by simp[hy,leB]⟩;rw[q08 h,cT,q04 h,hf,bS];simp_all
theorem y6u(v:Voter)(hl:v.Heard.length<1000000)(hm:∀m∈v.Heard,SmallM m):∀(suf:List Message)(i:Nat)(z:Message),v.Heard[i]?=some z->v.Heard.drop (i+1)=suf->z2b v.Heard ((v.Heard.length:Nat):Int) ((i+1:Nat):Int) v.Node v.Seq v.Trust.Threshold v.Trust.Nodes v.Trust.Inner v.Votes v.Accepts v.Confirms v.Heard=some (q37 v.Node (some z.Node) suf)|[],i,z,hz,h=>by apply qve;rw[q0f h];rfl|y::suf,i,z,hz,h=>by have hlt:=q0d h;apply qve;rw[q08 h,cT,q04 h,qce (hm y (List.mem_of_mem_drop (i:=i+1) (by simp_all))),bS,q02 (by omega),cT,q2n (by omega) (by omega),q0t (y:=z) (by omega) (by simp_all),q01 (by omega),y6u v hl hm suf (i+1) y (by have:=congrArg (·[0]?) h;grind) (q03 h)];rw[q37,show leB y.Node z.Node=!decide (z.Node<y.Node)by by_cases h2:z.Node<y.Node<;>simp[leB,h2]<;>omega];simp only[eqB];cases msgB y<;>cases decide (y.Node=v.Node)<;>cases decide (z.Node<y.Node)<;>rfl
theorem yd3(v:Voter)(hl:v.Heard.length<1000000)(hm:∀m∈v.Heard,SmallM m):z2b v.Heard ((v.Heard.length:Nat):Int) 0 v.Node v.Seq v.Trust.Threshold v.Trust.Nodes v.Trust.Inner v.Votes v.Accepts v.Confirms v.Heard=some (q37 v.Node none v.Heard):=by cases hh:v.Heard with|nil=>apply qve;rfl|cons y r=>have h1:=y6u v hl hm r 0 y (by simp_all) (by simp_all);rw[hh]at h1 hm;apply qve;rw[q02 (by simp),cT,q0t (y:=y) (by omega) rfl,qce (hm y (by simp)),bS,q00 (by omega),cF,show addI .i64 0 1=((0+1:Nat):Int)from rfl,h1,q37];by_cases h1:y.Node=v.Node;all_goals cases msgB y<;>simp[h1,eqB]
theorem qbl{v:Voter}(h:SmallV v):z58 v=some (q2y v):=by
 obtain⟨h1,h2,h3,h4,h5,h6⟩:=h;apply ycc;obtain⟨r,g1,g2⟩:=y0z v.Confirms v (by omega) h3 v.Confirms 0 rfl;have g3:z1n v.Confirms v.Node v.Seq v.Trust.Threshold v.Trust.Nodes v.Trust.Inner v.Votes v.Accepts v.Confirms v.Heard=_:=yez _ _ _ _ _ _ _ _ _ _ _ g1;have g4:z1m v.Confirms v.Node v.Seq v.Trust.Threshold v.Trust.Nodes v.Trust.Inner v.Votes v.Accepts v.Confirms v.Heard=some (!(v.Confirms.all fun x=>decide (x∈v.Accepts)),v.Node,v.Seq,v.Trust.Threshold,v.Trust.Nodes,v.Trust.Inner,v.Votes,v.Accepts,v.Confirms,v.Heard):=by apply ybm;simp_all
 rw[q8v _ h1,qay _ (by omega),qay _ (by omega),qay _ (by omega),g4];simp only[bS,yd3 v h5 h6,qqr];unfold q2y inR ltB leB;by_cases e1:v.Node<0;·grind
 have e1':0<=v.Node:=by omega
 by_cases e2:10<=v.Node;·grind
 have e2':v.Node<10:=by omega
 by_cases e3:v.Seq<1;·grind
 have e3':1<=v.Seq:=by omega
 by_cases e4:1000000<v.Seq;·grind
 have e4':v.Seq<=1000000:=by omega
 simp only[e1,e1',e2,e2',e3,e3',e4,e4',decide_false,decide_true,cF,tA',Bool.and_true];cases valid v.Trust with|false=>simp|true=>cases hp1:plainC v.Votes with|false=>simp|true=>cases hp2:plainC v.Accepts with|false=>simp|true=>cases plainC v.Confirms with|false=>simp|true=>rw[qo5 _ (by omega) (q0y.1 hp1).1,qo5 _ (by omega) (q0y.1 hp2).1];grind
theorem y87(v:Voter)(hl:v.Heard.length<1000000)(hm:∀m∈v.Heard,SmallM m):∀(suf:List Message)(i:Nat)(z:Message),v.Heard[i]?=some z->v.Heard.drop (i+1)=suf->z2k v.Heard ((v.Heard.length:Nat):Int) ((i+1:Nat):Int) v.Node v.Seq v.Trust.Threshold v.Trust.Nodes v.Trust.Inner v.Votes v.Accepts v.Confirms v.Heard=some (q37 v.Node (some z.Node) suf)|[],i,z,hz,h=>by apply qu5;rw[q0f h];rfl|y::suf,i,z,hz,h=>by have hlt:=q0d h;apply qu5;rw[q08 h,cT,q04 h,y3e (hm y (List.mem_of_mem_drop (i:=i+1) (by simp_all))),bS,q02 (by omega),cT,q2n (by omega) (by omega),q0t (y:=z) (by omega) (by simp_all),q01 (by omega),y87 v hl hm suf (i+1) y (by have:=congrArg (·[0]?) h;grind) (q03 h)];rw[q37,show leB y.Node z.Node=!decide (z.Node<y.Node)by by_cases h2:z.Node<y.Node<;>simp[leB,h2]<;>omega];simp only[eqB];cases msgB y<;>cases decide (y.Node=v.Node)<;>cases decide (z.Node<y.Node)<;>rfl
theorem ye9(v:Voter)(hl:v.Heard.length<1000000)(hm:∀m∈v.Heard,SmallM m):z2k v.Heard ((v.Heard.length:Nat):Int) 0 v.Node v.Seq v.Trust.Threshold v.Trust.Nodes v.Trust.Inner v.Votes v.Accepts v.Confirms v.Heard=some (q37 v.Node none v.Heard):=by cases hh:v.Heard with|nil=>apply qu5;rfl|cons y r=>have h1:=y87 v hl hm r 0 y (by simp_all) (by simp_all);rw[hh]at h1 hm;apply qu5;rw[q02 (by simp),cT,q0t (y:=y) (by omega) rfl,y3e (hm y (by simp)),bS,q00 (by omega),cF,show addI .i64 0 1=((0+1:Nat):Int)from rfl,h1,q37];by_cases h1:y.Node=v.Node;all_goals cases msgB y<;>simp[h1,eqB]
theorem y6q(v:Voter)(hl:v.Heard.length<1000000)(hm:∀m∈v.Heard,SmallM m)(ha:v.Accepts.length<1000000)(l:List Claim)(hll:l.length<1152921504606846976):∀(suf:List Claim)(i:Nat),l.drop i=suf->z4b l ((l.length:Nat):Int) (i:Int) v.Node v.Seq v.Trust.Threshold v.Trust.Nodes v.Trust.Inner v.Votes v.Accepts v.Confirms v.Heard=some ((suf.all fun x=>decide (x∈v.Accepts))&&q37 v.Node none v.Heard)|[],i,h=>by apply y7v;rw[q0f h,cF,ye9 v hl hm];simp|y::suf,i,h=>by have hlt:=q0d h;apply y7v;rw[q08 h,cT,q04 h,qo6 _ (by omega),bS,q01 (by omega),y6q v hl hm ha l hll suf (i+1) (q03 h)];by_cases hy:y∈v.Accepts<;>simp[hy]
theorem qwr{v:Voter}(h:SmallV v):z7f v=some (q2y v):=by
 obtain⟨h1,h2,h3,h4,h5,h6⟩:=h;apply yda;have g1:z4b v.Confirms ((v.Confirms.length:Nat):Int) 0 v.Node v.Seq v.Trust.Threshold v.Trust.Nodes v.Trust.Inner v.Votes v.Accepts v.Confirms v.Heard=_:=y6q v h5 h6 h3 v.Confirms (by omega) v.Confirms 0 rfl;rw[qn2 _ h1,qb2 _ (by omega),qb2 _ (by omega),qb2 _ (by omega),qvo _ (by omega),qvo _ (by omega),g1];simp only[bS,qqr];unfold q2y inR ltB leB;by_cases e1:v.Node<0
 .have:¬0<=v.Node:=by omega
  simp[e1,this]
 grind
structure Ready(v:Voter):Prop where
 node:inR v.Node=true
 seq:1<=v.Seq/\v.Seq<=1000000
 tr:valid v.Trust=true
 votes:plainC v.Votes=true
 accs:plainC v.Accepts=true
 confs:plainC v.Confirms=true
 cons:consC v.Accepts=true
 sub:∀x∈v.Confirms,x∈v.Accepts
 heard:q37 v.Node none v.Heard=true
theorem q0x{v:Voter}:q2y v=true↔Ready v/\consC v.Votes=true:=by
 simp only[q2y,aT,dT',List.all_eq_true];constructor;·rintro⟨h1,h2,h3,h4,h5,h6,h7,h8,h9,h10,h11⟩;exact⟨⟨h1,⟨h2,h3⟩,h4,h5,h6,h7,h9,h10,h11⟩,h8⟩
 .rintro⟨⟨h1,⟨h2,h3⟩,h4,h5,h6,h7,h9,h10,h11⟩,h8⟩;simp_all
def allM(v:Voter):List Message:=v.Heard++[say v]
theorem Ready.msg{v:Voter}(h:Ready v):∀m∈v.Heard,msgB m=true/\m.Node≠v.Node:=(q22.1 h.heard).1
theorem Ready.say{v:Voter}(h:Ready v):msgB (say v)=true:=q2q.2 ⟨h.node,h.seq.1,h.tr,h.votes,h.accs⟩
theorem Ready.all{v:Voter}(h:Ready v):∀m∈allM v,msgB m=true:=fun m hm=>by
 rcases List.mem_append.1 hm with hm|hm;·exact(h.msg m hm).1
 .simp at hm;subst hm;exact h.say
theorem Ready.len{v:Voter}(h:Ready v):(allM v).length<=11:=by have:=qpb h.heard;simp[allM];omega
theorem Ready.hlen{v:Voter}(h:Ready v):v.Heard.length<=10:=qpb h.heard
theorem Ready.alen{v:Voter}(h:Ready v):v.Accepts.length<=128:=q49 h.accs
theorem Ready.vlen{v:Voter}(h:Ready v):v.Votes.length<=128:=q49 h.votes
theorem Ready.clen{v:Voter}(h:Ready v):v.Confirms.length<=128:=q49 h.confs
theorem Ready.small{v:Voter}(h:Ready v):SmallV v:=⟨q28 h.tr,by have:=h.vlen;omega,by have:=h.alen;omega,by have:=h.clen;omega,by have:=h.hlen;omega,fun m hm=>q2f (h.msg m hm).1⟩
theorem qs4(v:Voter):z6x v=some (say v):=yge _ _ (by rw[Trust.etaM];rfl)
theorem ql8(m:Message):Message.mk m.Node m.Seq (Trust.mk m.Trust.Threshold m.Trust.Nodes m.Trust.Inner) m.Votes m.Accepts=m:=by simp
theorem q2b(v:Voter):Voter.mk v.Node v.Seq (Trust.mk v.Trust.Threshold v.Trust.Nodes v.Trust.Inner) v.Votes v.Accepts v.Confirms v.Heard=v:=by simp
theorem qjk(l:List Message)(hl:l.length<1000000):z1s l=some ((),l):=yfw _ _ (by rw[q07 (by simp[q06];omega)];rfl)
theorem q3d(l:List Claim)(hl:l.length<1000000):z0k l=some ((),l):=y7f _ _ (by rw[q07 (by simp[q06];omega)];rfl)
def q8e(l:List Message):List Claim:=l.flatMap fun m=>m.Votes++m.Accepts
def known(v:Voter):List Claim:=q16 (q8e (allM v))
theorem qww{m:Message}(h:msgB m=true):∀x∈m.Votes++m.Accepts,vcl x=true:=fun x hx=>by
 obtain⟨_,_,_,h1,h2⟩:=q2q.1 h;rcases List.mem_append.1 hx with hx|hx;·exact(q0y.1 h1).1 x hx
 .exact(q0y.1 h2).1 x hx
theorem qog(l:List Message)(hl:l.length<=11)(hm:∀m∈l,msgB m=true):∀(suf:List Message)(i:Nat)(acc:List Claim),i<=l.length->l.drop i=suf->acc.length<=256*i->(∀x∈acc,vcl x=true)->z4i acc l ((l.length:Nat):Int) (i:Int)=some (q16 (acc++q8e suf))
 |[],i,acc,hi,h,ha,hv=>by apply y7b;rw[q0f h,cF,qlh acc (by omega) hv];simp[q8e]|m::suf,i,acc,hi,h,ha,hv=>by
  have hlt:=q0d h;have g:=hm m (List.mem_of_mem_drop (i:=i) (by simp_all));obtain⟨_,_,_,g1,g2⟩:=q2q.1 g;have:=q49 g1;have:=q49 g2;apply y7b;rw[q08 h,cT,q04 h,q07 (by simp[q06];omega),q07 (by simp[q06];omega),q01 (by omega),qog l hl hm suf (i+1) _ hlt (q03 h) (by grind) (fun x hx=>by
   rw[List.append_assoc]at hx;rcases List.mem_append.1 hx with hx|hx;·simp_all
   .exact qww g x hx)];simp[q8e]
theorem y3y{v:Voter}(h:Ready v):z6s (allM v)=some (known v):=by apply yfq;have:=qog (allM v) h.len h.all (allM v) 0 [] (by omega) rfl (by simp) (by simp);exact this
def viewV(v:Voter):Config:=viewC v.Node v.Trust v.Heard
def canB(v:Voter)(x:Claim):Bool:=!decide (x∈v.Accepts)&&(decide (∀y∈v.Accepts,¬Contra x y)&&accB (viewV v) v.Node.toNat (votes (allM v) x) (q11 (allM v) x))
def nextV(v:Voter):Option Claim:=(known v).find? (canB v)
theorem Ready.view{v:Voter}(h:Ready v):q3z (viewV v):=qt7 h.tr fun m hm=>(h.msg m hm).1
theorem Ready.node'{v:Voter}(h:Ready v):v.Node.toNat<10/\((v.Node.toNat:Nat):Int)=v.Node:=by have:=q5o h.node;omega
theorem q9v{v:Voter}{x:Claim}(h:x∈known v):vcl x=true:=(q1m.1 h).1
theorem qfx{A:List Claim}(h:consC A=true)(x:Claim):consC (A++[x])=decide (∀y∈A,¬Contra x y):=by
 rw[Bool.eq_iff_iff,q5f,dT'];rw[q5f]at h;constructor;·simp_all
 .intro g a ha b hb;rcases List.mem_append.1 ha with ha'|ha'<;>rcases List.mem_append.1 hb with hb'|hb';·simp_all
  .simp at hb';subst hb';exact fun hc=>g a ha' hc.symm
  .simp_all
  .simp at ha' hb';subst ha';subst hb';exact fun hc=>hc.2 rfl
theorem qqn{v:Voter}(h:Ready v)(l:List Claim)(hl:l.length<=128)(hv:∀x∈l,vcl x=true):∀(suf:List Claim)(i:Nat),l.drop i=suf->z3o (allM v) l ((l.length:Nat):Int) (i:Int) v.Node v.Seq v.Trust.Threshold v.Trust.Nodes v.Trust.Inner v.Votes v.Accepts v.Confirms v.Heard (viewV v).Members 0 0=some (match suf.find? (canB v)with|some x=>(x,true)|none=>(⟨0,0⟩,false))
 |[],i,g=>by apply y89;rw[q0f g];rfl|y::suf,i,g=>by
  have hlt:=q0d g;have hlen:=h.len;have halen:=h.alen;have hy:=hv y (List.mem_of_mem_drop (i:=i) (by rw[g];simp));have ih:=qqn h l hl hv suf (i+1) (q03 g);obtain⟨n1,n2⟩:=h.node';have hvc:∀x∈v.Accepts++[y],vcl x=true:=fun x hx=>by
   rcases List.mem_append.1 hx with hx|hx;·exact(q0y.1 h.accs).1 x hx
   .simp at hx;subst hx;exact hy
  have hacc:z4o ⟨(viewV v).Members⟩ v.Node ((votes (allM v) y:Nat):Int) ((q11 (allM v) y:Nat):Int)=some (accB (viewV v) v.Node.toNat (votes (allM v) y) (q11 (allM v) y)):=by have:=y6k h.view (qvn h.all y) (q8h h.all y) n1;rw[n2]at this;exact this
  apply y89;rw[q08 g,cT,q04 g,qjd _ (by omega),bS,q3d _ (by omega),bS,q07 (by simp[q06];omega),qo5 _ (by simp;omega) hvc,bS,qfx h.cons,y08 _ (by omega) h.all,bS,qwi _ (by omega) h.all,bS,hacc,bS,q01 (by omega),ih,List.find?_cons];simp only[canB];grind
theorem qoh{v:Voter}(h:Ready v):z6j v (viewV v)=some (match nextV v with|some x=>(x,true)|none=>(⟨0,0⟩,false)):=by apply ydn;have hh:=h.hlen;rw[qjk _ (by omega),bS,qs4,bS,ql8,q07 (by simp[q06];omega)];have:z6s (v.Heard++[say v])=_:=y3y h;rw[this,bS];exact qqn h (known v) (q6n _) (fun x hx=>q9v hx) (known v) 0 rfl
def withA(v:Voter)(x:Claim):Voter:={v with Accepts:=q16 (v.Accepts++[x])}
def q20:Nat->Voter->Voter|0,v=>v|n+1,v=>match nextV v with|none=>v|some x=>q20 n (withA v x)
theorem qam{v:Voter}{x:Claim}(h:nextV v=some x):x∈known v/\x∉v.Accepts/\(∀y∈v.Accepts,¬Contra x y)/\accB (viewV v) v.Node.toNat (votes (allM v) x) (q11 (allM v) x)=true:=by have h1:=List.mem_of_find?_eq_some h;have h2:=List.find?_some h;simp only[canB,aT,Bool.not_eq_true',dT',decide_eq_false_iff_not]at h2;simp_all
theorem qyw{v:Voter}(h:nextV v=none):∀x∈known v,canB v x=false:=fun x hx=>by have:=List.find?_eq_none.1 h x hx;simp_all
theorem qg7{A:List Claim}{x y:Claim}(hA:∀z∈A,vcl z=true)(hx:vcl x=true):y∈q16 (A++[x])↔y∈A\/y=x:=by rw[q1m,List.mem_append,List.mem_singleton];grind
theorem Ready.avc{v:Voter}(h:Ready v):∀z∈v.Accepts,vcl z=true:=(q0y.1 h.accs).1
theorem Ready.withA{v:Voter}(h:Ready v){x:Claim}(hx:vcl x=true)(hc:∀y∈v.Accepts,¬Contra x y):Ready (withA v x):=by
 have hm:=fun y=>qg7 (y:=y) h.avc hx;refine⟨h.node,h.seq,h.tr,h.votes,q3n _,h.confs,?_,fun y hy=>(hm y).2 (.inl (h.sub y hy)),h.heard⟩;have:consC (v.Accepts++[x])=true:=by rw[qfx h.cons,dT'];omega
 rw[q5f]at this⊢;intro a ha b hb;exact this a (q1m.1 ha).2 b (q1m.1 hb).2
theorem y0c{A:List Claim}{x:Claim}(hA:plainC A=true)(hx:vcl x=true)(hn:x∉A):(q16 (A++[x])).length=A.length+1:=by
 have hnd:∀{l:List Claim},l.Pairwise ltc->l.Nodup:=fun h=>List.Pairwise.imp (fun{a b}(hab:ltc a b)=>fun(e:a=b)=>q54 a (by simp_all)) h;have hp:(q16 (A++[x])).Perm (A++[x]):=(List.perm_ext_iff_of_nodup (hnd (qda _)) (by rw[List.nodup_append];exact⟨hnd (q0y.1 hA).2,by simp,fun a ha b hb=>by grind⟩)).2 fun y=>by rw[qg7 (q0y.1 hA).1 hx];simp
 rw[hp.length_eq];simp
theorem q70:∀(n:Nat)(v:Voter),Ready v->128-v.Accepts.length<n->Ready (q20 n v)/\nextV (q20 n v)=none|0,v,h,hn=>by omega|n+1,v,h,hn=>by rw[q20];cases hx:nextV v with|none=>simp_all|some x=>obtain⟨h1,h2,h3,_⟩:=qam hx;have hv:=q9v h1;have hr:=h.withA hv h3;have hl:=y0c h.accs hv h2;have hal:(q16 (v.Accepts++[x])).length<=128:=hr.alen;exact q70 n (withA v x) hr (by show 128-(q16 (v.Accepts++[x])).length<n;omega)
theorem qan:∀(n:Nat)(v:Voter),(q20 n v).Node=v.Node/\(q20 n v).Seq=v.Seq/\(q20 n v).Trust=v.Trust/\(q20 n v).Votes=v.Votes/\(q20 n v).Confirms=v.Confirms/\(q20 n v).Heard=v.Heard|0,v=>⟨rfl,rfl,rfl,rfl,rfl,rfl⟩|n+1,v=>by rw[q20];cases nextV v with|none=>simp|some x=>exact qan n (withA v x)
def confC(v:Voter)(C:List Claim)(l:List Claim):List Claim:=l.foldl (fun C x=>if confB (viewV v) v.Node.toNat (q11 (allM v) x)then q16 (C++[x])else C) C
def finish(v:Voter):Voter:={v with Confirms:=confC v v.Confirms v.Accepts}
def q0l(v:Voter):Voter:=finish (q20 200 v)
theorem qj8(v:Voter):∀(l C:List Claim),plainC C=true->plainC (confC v C l)=true
 |[],C,h=>h|x::l,C,h=>by
  show plainC (confC v (if _ then _ else _) l)=true;refine qj8 v l _ ?_;split;·exact q3n _
  omega
theorem qex(v:Voter){y:Claim}:∀(l C:List Claim),(∀x∈C,vcl x=true)->(∀x∈l,vcl x=true)->(y∈confC v C l↔y∈C\/y∈l/\confB (viewV v) v.Node.toNat (q11 (allM v) y)=true)
 |[],C,_,_=>by simp[confC]|x::l,C,hC,hl=>by
  show y∈confC v (if _ then _ else _) l↔_;have hx:=hl x (by simp);have hl':∀z∈l,vcl z=true:=fun z hz=>hl z (by grind);by_cases hc:confB (viewV v) v.Node.toNat (q11 (allM v) x)=true;·rw[if_pos hc,qex v l _ (fun z hz=>(q1m.1 hz).1) hl',qg7 hC hx];grind
  .rw[if_neg hc,qex v l C hC hl'];grind
theorem Ready.finish{v:Voter}(h:Ready v):Ready (finish v):=⟨h.node,h.seq,h.tr,h.votes,h.accs,qj8 v _ _ h.confs,h.cons,fun x hx=>by
  rcases(qex v _ _ (q0y.1 h.confs).1 h.avc).1 hx with hx|hx;·exact h.sub x hx
  .exact hx.1,h.heard⟩
theorem Ready.settle{v:Voter}(h:Ready v):Ready (q0l v):=((q70 200 v h (by omega)).1).finish
theorem qjj:∀t:Trust,Fits t->z5a t=some t:=by
 apply Trust.ind;intro t ih ht;have hsz:size t<1073741824:=ht;rw[q48]at hsz;have l1:∀(suf:List Trust)(i:Nat)(acc:List Trust)(a8:Int)(a10:List Int)(a12:List Trust)(a14:Int)(a16:List Int)(a18:List Trust)(a20:Int)(a22:List Int),t.Inner.drop i=suf->acc.length<=i->z4h t.Inner ((t.Inner.length:Nat):Int) (i:Int) a8 a10 a12 a14 a16 a18 a20 a22 acc=some ⟨a20,a22,acc++suf⟩:=by intro suf;induction suf with|nil=>intro i acc a8 a10 a12 a14 a16 a18 a20 a22 h ha;apply y6w;simp only[q0f h,cF,List.append_nil]|cons y suf ihs=>intro i acc a8 a10 a12 a14 a16 a18 a20 a22 h ha;have hlt:=q0d h;have hy:y∈t.Inner:=List.mem_of_mem_drop (by rw[h];exact List.mem_cons_self);apply y6w;simp only[q08 h,cT,q04 h,ih y hy (ht.mem hy),bS,q01 (show i<4611686018427387904 by omega),Trust.etaM];rw[q07 (by simp[q06];omega),ihs (i+1) (acc++[y]) _ _ _ _ _ _ _ _ (q03 h) (by simp;omega)];simp
 apply ydg;have h1:z22 t.Nodes=some ((),t.Nodes):=y77 _ _ (by rw[q07 (by simp[q06];omega)];rfl);rw[h1,bS,show(0:Int)=((0:Nat):Int)from rfl,l1 t.Inner 0 [] _ _ _ _ _ _ _ _ rfl (Nat.le_refl _)];simp
theorem qjf{m:Message}(ht:Fits m.Trust)(h1:m.Votes.length<1000000)(h2:m.Accepts.length<1000000):z3m m=some m:=by apply ye3;rw[qjj _ ht,bS,q3d _ h1,bS,q3d _ h2,bS,Trust.etaM]
theorem qou(l:List Message)(hl:l.length<1000000)(hm:∀m∈l,z3m m=some m)(n s:Int)(t:Int)(ns:List Int)(is:List Trust)(va aa ca:List Claim)(d1 d2 d3:Int)(d4:List Int)(d5:List Trust)(d6 d7 d8:List Claim)(d9:List Message):∀(suf:List Message)(i:Nat)(acc:List Message),l.drop i=suf->acc.length<=i->z4g l ((l.length:Nat):Int) (i:Int) n s t ns is va aa ca acc d1 d2 d3 d4 d5 d6 d7 d8 d9=some ⟨n,s,⟨t,ns,is⟩,va,aa,ca,acc++suf⟩|[],i,acc,h,ha=>by apply y9e;rw[q0f h,cF,List.append_nil]|m::suf,i,acc,h,ha=>by have hlt:=q0d h;apply y9e;rw[q08 h,cT,q04 h,hm m (List.mem_of_mem_drop (i:=i) (by simp_all)),bS,ql8,q07 (by simp[q06];omega),q01 (by omega),qou l hl hm n s t ns is va aa ca d1 d2 d3 d4 d5 d6 d7 d8 d9 suf (i+1) _ (q03 h) (by simp_all)];simp
structure Fresh(v:Voter):Prop where
 tr:Fits v.Trust
 votes:v.Votes.length<1000000
 accs:v.Accepts.length<1000000
 confs:v.Confirms.length<1000000
 heard:v.Heard.length<1000000
 msgs:∀m∈v.Heard,z3m m=some m
theorem qfa{v:Voter}(h:Fresh v):z2u v=some v:=by apply ydc;rw[qjj _ h.tr,bS,q3d _ h.votes,bS,q3d _ h.accs,bS,q3d _ h.confs,bS];have:=qou v.Heard h.heard h.msgs v.Node v.Seq v.Trust.Threshold v.Trust.Nodes v.Trust.Inner v.Votes v.Accepts v.Confirms 0 0 0 [] [] [] [] [] [] v.Heard 0 [] rfl (Nat.le_refl _);simp_all
theorem y65{m:Message}(h:msgB m=true):z3m m=some m:=qjf (q38 (q2q.1 h).2.2.1).1 (q2f h).votes (q2f h).accs
theorem Ready.fresh{v:Voter}(h:Ready v)(s:Int):Fresh {v with Seq:=s}:=⟨(q38 h.tr).1,by have:=h.vlen;grind,by have:=h.alen;grind,by have:=h.clen;grind,by have:=h.hlen;grind,fun m hm=>y65 (h.msg m hm).1⟩
theorem qtt{v:Voter}(h:Ready v)(l:List Claim)(hl:l.length<=128)(hv:∀x∈l,vcl x=true)(d1 d2 d3:Int)(d4:List Int)(d5:List Trust)(d6 d7 d8:List Claim)(d9:List Message)(e1 e2:Int):∀(suf:List Claim)(i:Nat)(C:List Claim),l.drop i=suf->plainC C=true->z35 (allM v) l ((l.length:Nat):Int) (i:Int) v.Node v.Seq v.Trust.Threshold v.Trust.Nodes v.Trust.Inner v.Votes v.Accepts C v.Heard d1 d2 d3 d4 d5 d6 d7 d8 d9 (viewV v).Members e1 e2=some {v with Confirms:=confC v C suf}
 |[],i,C,g,hC=>by apply y75;rw[q0f g,cF,Trust.etaM];rfl|y::suf,i,C,g,hC=>by
  have hlt:=q0d g;have hlen:=h.len;have hcl:=q49 hC;have hy:=hv y (List.mem_of_mem_drop (i:=i) (by simp_all));obtain⟨n1,n2⟩:=h.node';have hacc:z4c ⟨(viewV v).Members⟩ v.Node ((q11 (allM v) y:Nat):Int)=some (confB (viewV v) v.Node.toNat (q11 (allM v) y)):=by have:=y5a h.view (q8h h.all y) n1;simp_all
  apply y75;rw[q08 g,cT,q04 g,qwi _ (by omega) h.all,bS,hacc,bS,qs3 C y (by omega) (q0y.1 hC).1 hy,bS,q01 (by omega)];show _=some {v with Confirms:=confC v (if confB (viewV v) v.Node.toNat (q11 (allM v) y)then q16 (C++[y])else C) suf};cases hc:confB (viewV v) v.Node.toNat (q11 (allM v) y)with|true=>rw[cT,if_pos rfl];exact qtt h l hl hv d1 d2 d3 d4 d5 d6 d7 d8 d9 e1 e2 suf (i+1) _ (q03 g) (q3n _)|false=>rw[cF,if_neg (by simp)];exact qtt h l hl hv d1 d2 d3 d4 d5 d6 d7 d8 d9 e1 e2 suf (i+1) _ (q03 g) hC
theorem y06(d1 d2 d3:Int)(d4:List Int)(d5:List Trust)(d6 d7 d8:List Claim)(d9:List Message):∀(n:Nat)(v:Voter),Ready v->128-v.Accepts.length<n->∀r:Claim×Bool,r=(match nextV v with|some x=>(x,true)|none=>(⟨0,0⟩,false))->z4n r.2 v.Node v.Seq v.Trust.Threshold v.Trust.Nodes v.Trust.Inner v.Votes v.Accepts v.Confirms v.Heard d1 d2 d3 d4 d5 d6 d7 d8 d9 (viewV v).Members r.1.Topic r.1.Value=some (finish (q20 n v))|0,v,h,hn,_,_=>by omega|n+1,v,h,hn,r,hr=>by rw[q20];apply ydx;cases hx:nextV v with|none=>rw[hx]at hr;subst hr;have hh:=h.hlen;simp only[cF];rw[qjk _ (by omega),bS,q2b,qs4,bS,ql8,q07 (by simp[q06];omega)];have:=qtt h v.Accepts h.alen h.avc d1 d2 d3 d4 d5 d6 d7 d8 d9 0 0 v.Accepts 0 v.Confirms rfl h.confs;exact this|some x=>
   rw[hx]at hr;subst hr;obtain⟨h1,h2,h3,_⟩:=qam hx;have hv:=q9v h1;have hr:=h.withA hv h3;have hl:=y0c h.accs hv h2;have hal:=h.alen;have hal':(q16 (v.Accepts++[x])).length<=128:=hr.alen;simp only[cT];rw[show Claim.mk x.Topic x.Value=x from rfl,qs3 _ _ (by omega) h.avc hv,bS];have hw:Voter.mk v.Node v.Seq (Trust.mk v.Trust.Threshold v.Trust.Nodes v.Trust.Inner) v.Votes (q16 (v.Accepts++[x])) v.Confirms v.Heard=withA v x:=by rw[Trust.etaM];rfl
   rw[hw];have hn':z6j (withA v x) ⟨(viewV v).Members⟩=_:=qoh hr;rw[hn',bS];exact y06 d1 d2 d3 d4 d5 d6 d7 d8 d9 n (withA v x) hr (by grind) _ rfl
theorem qrl{v:Voter}(h:Ready v):z6r v=some (q0l v):=by have hh:=h.hlen;apply yg9;have hv:z5z v.Node v.Trust v.Heard=some (viewV v):=y6h h.node h.tr v.Heard (by omega) h.msg;rw[hv,bS,qoh h,bS];exact y06 _ _ _ _ _ _ _ _ _ 200 v h (by omega) _ rfl
noncomputable def turnV(b v:Voter):Voter:=if b.Trust=(q0l v).Trust/\b.Votes=(q0l v).Votes/\b.Accepts=(q0l v).Accepts then q0l v else{q0l v with Seq:=(q0l v).Seq+1}
theorem qg6{b v:Voter}(hb:Ready b)(h:Ready v):z3i b v=some (turnV b v):=by
 have hs:=h.settle;have h1:=hb.vlen;have h2:=hb.alen;have hq:=hs.seq;have f0:z2u (q0l v)=some (q0l v):=qfa (hs.fresh (q0l v).Seq);have f1:z2u {q0l v with Seq:=(q0l v).Seq+1}=some {q0l v with Seq:=(q0l v).Seq+1}:=qfa (hs.fresh _);have hw:Voter.mk (q0l v).Node (addI .i64 (q0l v).Seq 1) (Trust.mk (q0l v).Trust.Threshold (q0l v).Trust.Nodes (q0l v).Trust.Inner) (q0l v).Votes (q0l v).Accepts (q0l v).Confirms (q0l v).Heard={q0l v with Seq:=(q0l v).Seq+1}:=by rw[Trust.etaM,q27 (by omega) (by omega)]
 apply ydq;rw[qrl h,bS,qw2 _ (q28 hb.tr),bS,qq2 _ _ (by omega),bS,qq2 _ _ (by omega),bS,hw,f1,bS,f0,bS,q2b,q2b,turnV];by_cases e1:b.Trust=(q0l v).Trust<;>by_cases e2:b.Votes=(q0l v).Votes<;>by_cases e3:b.Accepts=(q0l v).Accepts<;>simp[e1,e2,e3]
section
variable {b : Voter} (hb : SmallV b) (hbs : 0 <= b.Seq /\ b.Seq < 4611686018427387904) (d1 d2 d3 : Int) (d4 : List Int) (d5 : List Trust) (d6 d7 d8 : List Claim) (d9 : List Message)
include hb hbs
end
def qdt:Voter:=⟨0,0,⟨0,[],[]⟩,[],[],[],[]⟩
noncomputable def voteV(v:Voter)(x:Claim):Voter×Int:=if q2y v=false\/vcl x=false then(qdt,1)else if∃y∈v.Votes++v.Accepts,Contra x y then(qdt,14)else if x∈v.Votes then(v,0)else(turnV v {v with Votes:=q16 (v.Votes++[x])},0)
theorem qub(l:List Claim)(hl:l.length<1152921504606846976)(x:Claim):∀(suf:List Claim)(i:Nat),l.drop i=suf->∃r:Int,z0x l ((l.length:Nat):Int) (i:Int) x.Topic x.Value=some (r,x.Topic,x.Value)/\leB 0 r=decide (∃y∈suf,Contra x y)
 |[],i,h=>by refine⟨-1,qzu _ _ _ _ _ _ ?_,by rfl⟩;rw[q0f h];rfl|y::suf,i,h=>by
  have hlt:=q0d h;obtain⟨r,h1,h2⟩:=qub l hl x suf (i+1) (q03 h);have hf:z72 y x.Topic x.Value=some (decide (Contra x y),x.Topic,x.Value):=yck _ _ _ _ (by rw[show Claim.mk x.Topic x.Value=x from rfl,qxw];rfl);by_cases hc:Contra x y;·refine⟨i,qzu _ _ _ _ _ _ ?_,by simp[leB,hc]⟩;rw[q08 h,cT,q04 h,hf];grind
  .refine⟨r,qzu _ _ _ _ _ _ ?_,by rw[h2];simp[hc]⟩;rw[q08 h,cT,q04 h,hf,bS,q01 (by omega)];simp_all
theorem y2y(l:List Claim)(hl:l.length<1152921504606846976)(x:Claim):z1f l x.Topic x.Value=some (decide (∃y∈l,Contra x y),x.Topic,x.Value):=by obtain⟨r,h1,h2⟩:=qub l hl x l 0 rfl;apply ydr;have h3:z1o l x.Topic x.Value=_:=yg3 _ _ _ _ h1;simp_all
theorem Ready.withV{v:Voter}(h:Ready v)(x:Claim):Ready {v with Votes:=q16 (v.Votes++[x])}:=⟨h.node,h.seq,h.tr,q3n _,h.accs,h.confs,h.cons,h.sub,h.heard⟩
theorem qz9{v:Voter}(hs:SmallV v)(x:Claim):z7e v x=some (voteV v x):=by apply yd6;rw[qbl hs,bS,qdg,bS,voteV];cases hv:q2y v with|false=>rfl|true=>cases hx:vcl x with|false=>rfl|true=>
   obtain⟨h,hc⟩:=q0x.1 hv;have h1:=h.vlen;have h2:=h.alen;have hw:Voter.mk v.Node v.Seq (Trust.mk v.Trust.Threshold v.Trust.Nodes v.Trust.Inner) (q16 (v.Votes++[x])) v.Accepts v.Confirms v.Heard={v with Votes:=q16 (v.Votes++[x])}:=by simp
   simp only[nT,cF,Bool.true_eq_false,or_self,if_false];rw[y2y _ (by omega),bS,y2y _ (by omega),bS];dsimp only;rw[show Claim.mk x.Topic x.Value=x from rfl,qjd _ (by omega),bS,qfa (h.fresh v.Seq),bS,qs3 _ _ (by omega) (q0y.1 h.votes).1 hx,bS,hw,qg6 h (h.withV x),bS,q2b,q2b];by_cases e1:∃y∈v.Votes,Contra x y
   .have:∃y∈v.Votes++v.Accepts,Contra x y:=by grind
    rw[if_pos this];simp only[e1,decide_true,cT];rfl
   .by_cases e2:∃y∈v.Accepts,Contra x y
    .have:∃y∈v.Votes++v.Accepts,Contra x y:=by grind
     rw[if_pos this];simp only[e1,e2,decide_true,decide_false,cT,cF];rfl
    .have:¬∃y∈v.Votes++v.Accepts,Contra x y:=by
      rintro⟨y,h,h'⟩;rcases List.mem_append.1 h with h|h;·exact e1 ⟨y,h,h'⟩
      .exact e2 ⟨y,h,h'⟩
     rw[if_neg this];by_cases e3:x∈v.Votes;·simp only[e1,e2,e3,decide_true,decide_false,cT,cF,if_true]
     grind
noncomputable def declV(v:Voter)(t:Trust):Voter×Int:=if q2y v=false then(qdt,1)else if verr t≠0 then(qdt,verr t)else if v.Trust=t then(v,0)else(turnV v {v with Trust:=t},0)
theorem Ready.withT{v:Voter}(h:Ready v){t:Trust}(ht:valid t=true):Ready {v with Trust:=t}:=⟨h.node,h.seq,ht,h.votes,h.accs,h.confs,h.cons,h.sub,h.heard⟩
theorem y3d{v:Voter}(hs:SmallV v){t:Trust}(ht:Small t):z6q v t=some (declV v t):=by apply ydo;rw[qbl hs,bS,q8v _ ht,bS,declV];cases hv:q2y v with|false=>rfl|true=>
  obtain⟨h,hc⟩:=q0x.1 hv;simp only[nT,cF,Bool.true_eq_false,if_false];by_cases e:verr t=0
  .rw[e,q0i,cF,if_neg (by simp),qw2 _ hs.tr,bS,qfa (h.fresh v.Seq),bS];have hw:Voter.mk v.Node v.Seq (Trust.mk t.Threshold t.Nodes t.Inner) v.Votes v.Accepts v.Confirms v.Heard={v with Trust:=t}:=by rw[Trust.etaM]
   rw[hw,qg6 h (h.withT ((q66 t).1 e)),bS,q2b,q2b];by_cases e2:v.Trust=t;·rw[if_pos e2,decide_eq_true e2,cT]
   simp_all
  .rw[q1i e,cT,if_pos e];rfl
def qu2(n:Int)(t:Trust):Voter×Int:=if inR n=false then(qdt,5)else if verr t≠0 then(qdt,verr t)else(⟨n,1,t,[],[],[],[]⟩,0)
theorem qy7(n:Int){t:Trust}(ht:Small t):z6t n t=some (qu2 n t):=by
 apply yc0;rw[q8v _ ht,bS,qu2,inR,ltB,leB];by_cases e1:n<0
 .have:¬0<=n:=by omega
  simp[e1,this];rfl
 .have e1':0<=n:=by omega
  by_cases e2:10<=n
  .have:¬n<10:=by omega
   simp[e1,e2,this];rfl
  .have e2':n<10:=by omega
   by_cases e:verr t=0;·rw[qjj _ (q38 ((q66 t).1 e)).1];simp[e1,e2,e1',e2',e,neB]
   .simp[e1,e2,e1',e2',e,neB];rfl
def hearL(m:Message):List Message->List Message|[]=>[m]|x::r=>if x.Node<m.Node then x::hearL m r else if x.Node=m.Node then m::r else m::x::r
def oldB(l:List Message)(m:Message):Bool:=l.any fun x=>decide (x.Node=m.Node)&&decide (m.Seq<=x.Seq)
noncomputable def hearV(v:Voter)(m:Message):Voter×Int:=if q2y v=false\/msgB m=false\/m.Node=v.Node then(qdt,1)else if oldB v.Heard m=true then(qdt,9)else(turnV v {v with Heard:=hearL m v.Heard},0)
theorem qid{m x:Message}:∀{l:List Message},x∈hearL m l->x=m\/x∈l
 |[],h=>by simp[hearL]at h;simp_all|y::r,h=>by
  rw[hearL]at h;split at h
  .rcases List.mem_cons.1 h with h|h;·exact .inr (by simp[h])
   .rcases qid h with h|h;·exact .inl h
    .exact .inr (by simp[h])
  grind
theorem qil{n:Int}{m:Message}(hm:msgB m=true)(hn:m.Node≠n):∀{l:List Message}{q:Option Int},q37 n q l=true->(∀k,q=some k->k<m.Node)->q37 n q (hearL m l)=true
 |[],q,_,hq=>by cases q with|none=>simp[hearL,q37,hm,hn]|some k=>simp[hearL,q37,hm,hn,hq k rfl]
 |y::r,q,h,hq=>by
  have hi:=q22.1 h;rw[hearL];split
  .rename_i hlt;have hr:q37 n (some y.Node) r=true:=by rw[List.pairwise_cons]at hi;exact q22.2 ⟨fun x hx=>hi.1 x (by simp[hx]),fun k hk x hx=>by cases hk;exact hi.2.2.1 x hx,hi.2.2.2⟩
   have ih:=qil hm hn hr (fun k hk=>by cases hk;exact hlt);have hj:=q22.1 ih;refine q22.2 ⟨fun x hx=>?_,fun k hk x hx=>?_,List.pairwise_cons.2 ⟨fun x hx=>hj.2.1 _ rfl x hx,hj.2.2⟩⟩
   .rcases List.mem_cons.1 hx with e|hx;·subst e;exact hi.1 x (by simp)
    .exact hj.1 x hx
   grind
  .rename_i hge;rw[List.pairwise_cons]at hi;split
   .rename_i heq;refine q22.2 ⟨fun x hx=>?_,fun k hk x hx=>?_,List.pairwise_cons.2 ⟨fun x hx=>by rw[<-heq];exact hi.2.2.1 x hx,hi.2.2.2⟩⟩
    .rcases List.mem_cons.1 hx with e|hx;·subst e;exact⟨hm,hn⟩
     .exact hi.1 x (by simp[hx])
    grind
   .rename_i hne;have hlt:m.Node<y.Node:=by omega
    refine q22.2 ⟨fun x hx=>?_,fun k hk x hx=>?_,List.pairwise_cons.2 ⟨fun x hx=>?_,List.pairwise_cons.2 hi.2.2⟩⟩
    .rcases List.mem_cons.1 hx with e|hx;·subst e;exact⟨hm,hn⟩
     .exact hi.1 x hx
    .rcases List.mem_cons.1 hx with e|hx;·subst e;exact hq k hk
     .exact hi.2.1 k hk x hx
    grind
theorem Ready.withH{v:Voter}(h:Ready v){m:Message}(hm:msgB m=true)(hn:m.Node≠v.Node):Ready {v with Heard:=hearL m v.Heard}:=⟨h.node,h.seq,h.tr,h.votes,h.accs,h.confs,h.cons,h.sub,qil hm hn h.heard (fun k hk=>by grind)⟩
def pos(k:Int):List Message->Nat|[]=>0|x::r=>if x.Node<k then pos k r+1 else 0
theorem qz3(k:Int):∀l:List Message,pos k l<=l.length
 |[]=>Nat.le_refl _|x::r=>by
  rw[pos];split;·simp;exact qz3 k r
  simp
theorem qm0{k:Int}:∀{l:List Message},l.Pairwise (fun a b=>a.Node<b.Node)->∀(i:Nat)(x:Message),l[i]?=some x->(x.Node<k↔i<pos k l)|[],_,i,x,h=>by grind|y::r,hp,i,x,h=>by rw[List.pairwise_cons]at hp;rw[pos];cases i with|zero=>grind|succ i=>
   have h':r[i]?=some x:=by simpa using h
   have hyx:=hp.1 x (List.mem_of_getElem? h');split;·rw[qm0 hp.2 i x h'];omega
   omega
def q9h(k:Int)(l:List Message):Bool:=match l[pos k l]? with|some x=>decide (x.Node=k)|none=>false
theorem qpl{m:Message}:∀{l:List Message},hearL m l=if q9h m.Node l=true then l.set (pos m.Node l) m else l.take (pos m.Node l)++m::l.drop (pos m.Node l)
 |[]=>by rfl|x::r=>by
  rw[hearL];by_cases h1:x.Node<m.Node
  .have hp:pos m.Node (x::r)=pos m.Node r+1:=by rw[pos,if_pos h1]
   have hf:q9h m.Node (x::r)=q9h m.Node r:=by simp[q9h,hp]
   rw[if_pos h1,qpl (l:=r),hp,hf];split<;>simp
  .have hp:pos m.Node (x::r)=0:=by rw[pos,if_neg h1]
   have hf:q9h m.Node (x::r)=decide (x.Node=m.Node):=by simp[q9h,hp]
   grind
theorem y6i{m:Message}{l:List Message}(hp:l.Pairwise (fun a b=>a.Node<b.Node)):oldB l m=match l[pos m.Node l]? with|some x=>decide (x.Node=m.Node)&&decide (m.Seq<=x.Seq)|none=>false:=by cases hx:l[pos m.Node l]? with|none=>rw[oldB,List.any_eq_false];intro x hx';obtain⟨i,hi,rfl⟩:=List.mem_iff_getElem.1 hx';have h1:=(qm0 (k:=m.Node) hp i l[i] (by simp[hi]));grind|some y=>
  show oldB l m=(decide (y.Node=m.Node)&&decide (m.Seq<=y.Seq));rw[oldB,Bool.eq_iff_iff,List.any_eq_true];constructor
  .rintro⟨x,hx',h⟩;simp only[aT,dT']at h;obtain⟨i,hi,rfl⟩:=List.mem_iff_getElem.1 hx';have h1:=(qm0 (k:=m.Node) hp i l[i] (by simp[hi]));have h3:=(qm0 (k:=m.Node) hp _ y hx);have hge:pos m.Node l<=i:=by
    have:¬l[i].Node<m.Node:=by omega
    rw[h1]at this;omega
   have hpl:=(List.getElem?_eq_some_iff.1 hx).1;have:i=pos m.Node l:=by
    by_cases e:i=pos m.Node l;·exact e
    .have hlt:pos m.Node l<i:=by omega
     have:=List.pairwise_iff_getElem.1 hp _ _ hpl hi hlt;have h4:l[pos m.Node l]=y:=(List.getElem?_eq_some_iff.1 hx).2;rw[h4]at this;have:¬y.Node<m.Node:=by rw[h3];omega
     omega
   subst this;have h4:l[pos m.Node l]=y:=(List.getElem?_eq_some_iff.1 hx).2;rw[h4]at h;simp[h]
  grind
theorem ycx:∀i:Fin 12,∀j:Fin 12,IntKind.wrap .i64 (shrI .u64 (IntKind.wrap .u64 (addI .i64 ((i.val:Nat):Int) ((j.val:Nat):Int))) 1)=(((i.val+j.val)/2:Nat):Int):=by decide+kernel
theorem qvd(x:Message)(k:Int):z6b x k=some (if x.Node<k then-1 else if k<x.Node then 1 else 0):=yd9 _ _ _ (by rw[qip];rfl)
theorem qzd{l:List Message}(hl:l.length<=10)(hp:l.Pairwise (fun a b=>a.Node<b.Node))(k:Int):∀(n i j:Nat),j-i<=n->i<=pos k l->pos k l<=j->j<=l.length->z0f l k ((l.length:Nat):Int) (i:Int) (j:Int)=some (((pos k l:Nat):Int),q9h k l)
 |n,i,j,hn,hi,hj,hjl=>by
  apply yb5;by_cases hij:i<j
  .obtain⟨n,rfl⟩:∃m,n=m+1:=⟨n-1,by omega⟩;have hmid:=ycx ⟨i,by omega⟩ ⟨j,by omega⟩;dsimp only at hmid;have hml:(i+j)/2<l.length:=by omega
   have hg:l[(i+j)/2]?=some l[(i+j)/2]:=by simp
   have hpl:=qm0 (k:=k) hp _ _ hg;rw[q02 (by omega),cT,hmid,q0t (by omega) (by rw[tN];omega),qvd,bS];by_cases h1:l[(i+j)/2].Node<k;·rw[if_pos h1,q02 (by decide),cT,q01 (by omega)];exact qzd hl hp k n ((i+j)/2+1) j (by omega) (by omega) hj hjl
   .rw[if_neg h1,q00 (by split<;>decide),cF];exact qzd hl hp k n i ((i+j)/2) (by omega) hi (by omega) (by omega)
  .have hij':i=pos k l:=by omega
   subst hij';rw[q00 (by omega),cF];unfold q9h;by_cases he:pos k l<l.length
   .have hg:l[pos k l]?=some l[pos k l]:=by simp
    have hpl:=qm0 (k:=k) hp _ _ hg;have h1:¬l[pos k l].Node<k:=by omega
    rw[q02 (by omega),cT,q0t (by omega) (by rw[tN];omega),qvd,bS,hg,if_neg h1];by_cases h2:k<l[pos k l].Node
    .have:¬l[pos k l].Node=k:=by omega
     simp[h2,this,eqB]
    .have:l[pos k l].Node=k:=by omega
     simp[this,eqB]
   .rw[q00 (by omega),cF,List.getElem?_eq_none (by omega)]
theorem yc3{l:List Message}(hl:l.length<=10)(hp:l.Pairwise (fun a b=>a.Node<b.Node))(k:Int):z1a l k=some (((pos k l:Nat):Int),q9h k l):=by apply yde;exact qzd hl hp k l.length 0 l.length (by omega) (by omega) (qz3 k l) (Nat.le_refl _)
theorem y0y(l:List Message):(l.map q1l).all (q5a 7)=true:=by rw[List.all_eq_true];intro x hx;obtain⟨y,_,rfl⟩:=List.mem_map.1 hx;rfl
theorem qwo(l:List Message)(hl:l.length<1000000)(m:Message)(i:Nat)(hi:i<=l.length):z59 (i:Int) [m] l=some (l.take i++m::l.drop i,()):=by
 refine qdc (T:=tn) (m:=q7y 7) sigOk (by rfl) rfl ?_;show libA (q7y 7) [.ref 0,.d (.v (.int .i64 i)),.d (.list [q1l m])] [[.own (l.map q1l) false]]=some (.d (.list ((l.take i++m::l.drop i).map q1l)),[[.undef]]);unfold libA q7y;have h1:(i:Int)<=((l.map q1l).length:Int):=by simp_all
 have h2:(l.map q1l).length<q06:=by simp[q06];omega
 have h3:q5a 7 (q1l m)=true:=rfl;simp only[Int.natCast_nonneg,h1,h2,h3,y0y,and_self,if_true,tN];simp only[List.map_append,List.map_cons,List.map_take,List.map_drop];rfl
theorem qrf{v:Voter}(hs:SmallV v){m:Message}(hm:SmallM m):z76 v m=some (hearV v m):=by apply yea;rw[qbl hs,bS,qce hm,bS,hearV];cases hv:q2y v with|false=>rfl|true=>cases hx:msgB m with|false=>rfl|true=>
   obtain⟨h,hc⟩:=q0x.1 hv;simp only[nT,cF,Bool.true_eq_false,false_or];by_cases hn:m.Node=v.Node;·rw[if_pos hn,hn,q0m];rfl
   .rw[if_neg hn,q0o hn,cF];have hp:=(q22.1 h.heard).2.2;have hh:=h.hlen;rw[yc3 hh hp,bS,y6i hp,qjk _ (by omega)];have hpl:=qz3 m.Node v.Heard;have hw:∀H,Voter.mk v.Node v.Seq (Trust.mk v.Trust.Threshold v.Trust.Nodes v.Trust.Inner) v.Votes v.Accepts v.Confirms H={v with Heard:=H}:=fun H=>by simp
    have ht:=qg6 h (h.withH hx hn);rw[qpl]at ht⊢;simp only[bS,ql8];cases hf:q9h m.Node v.Heard with
    |true=>rw[hf,if_pos rfl]at ht;unfold q9h at hf;cases hg:v.Heard[pos m.Node v.Heard]? with|none=>simp_all|some y=>
      rw[hg]at hf;have hy:y.Node=m.Node:=by simp_all
      simp only[cT,if_true];rw[q0t (by omega) (by rw[tN];omega),q0t (by omega) (by rw[tN];omega),q59 (by rw[tN];omega),tN,hw,ht,bS,q2b];by_cases hq:m.Seq<=y.Seq<;>simp[leB,hy,hq]<;>rfl
    |false=>
     rw[hf,if_neg (by simp)]at ht;unfold q9h at hf;have hold:(match v.Heard[pos m.Node v.Heard]? with|some x=>decide (x.Node=m.Node)&&decide (m.Seq<=x.Seq)|none=>false)=false:=by grind
     simp only[cF,hold,fT,if_false];rw[qwo _ (by omega) m _ hpl,bS,hw,ht,bS,q2b]
theorem y3t(y:Message)(l:List Message)(m:Message):oldB (y::l) m=(decide (y.Node=m.Node)&&decide (m.Seq<=y.Seq)||oldB l m):=rfl
theorem y6f{v:Voter}(ht:Fits v.Trust)(h1:v.Votes.length<1000000)(h2:v.Accepts.length<1000000):z7l v=some (say v):=by apply yfr;rw[qs4,bS,qjf ht h1 h2,bS,ql8]
noncomputable def msgEq(a b:Message):Bool:=decide (a.Node=b.Node)&&(decide (a.Seq=b.Seq)&&(decide (a.Trust=b.Trust)&&(decide (a.Votes=b.Votes)&&decide (a.Accepts=b.Accepts))))
theorem qr6{a b:Message}:msgEq a b=true↔a=b:=by cases a;cases b;simp[msgEq]
theorem qz4{a:Message}(h:SmallM a)(b:Message):z7p a b=some (msgEq a b):=by apply ycz;rw[qns _ h.tr,q5i _ _ (by have:=h.votes;omega),q5i _ _ (by have:=h.accs;omega)];simp only[bS,eqB,msgEq];cases decide (a.Node=b.Node)<;>cases decide (a.Seq=b.Seq)<;>cases decide (a.Trust=b.Trust)<;>cases decide (a.Votes=b.Votes)<;>rfl
noncomputable def q89:List Message->List Message->Bool|[],[]=>true|a::l,b::k=>msgEq a b&&q89 l k|_,_=>false
theorem qfg:∀{l k:List Message},q89 l k=true↔l=k|[],[]=>by simp[q89]|[],b::k=>by simp[q89]|a::l,[]=>by simp[q89]|a::l,b::k=>by rw[q89,aT,qr6,qfg];simp
theorem qy0{l k:List Message}(h:l.length≠k.length):q89 l k=false:=by cases e:q89 l k with|false=>rfl|true=>exact absurd (by rw[qfg.1 e]) h
noncomputable def sameV(a b:Voter):Bool:=msgEq (say a) (say b)&&(decide (a.Confirms=b.Confirms)&&q89 a.Heard b.Heard)
theorem y1g{a b:Voter}:sameV a b=true↔a=b:=by rw[sameV,aT,aT,qr6,dT',qfg];cases a;cases b;simp[say];grind
theorem qr3(a b:Voter)(hl:a.Heard.length<1000000)(hk:a.Heard.length=b.Heard.length)(hm:∀m∈a.Heard,SmallM m):∀(suf suk:List Message)(i:Nat),a.Heard.drop i=suf->b.Heard.drop i=suk->z4r ((a.Heard.length:Nat):Int) (i:Int) a.Node a.Seq a.Trust.Threshold a.Trust.Nodes a.Trust.Inner a.Votes a.Accepts a.Confirms a.Heard b.Node b.Seq b.Trust.Threshold b.Trust.Nodes b.Trust.Inner b.Votes b.Accepts b.Confirms b.Heard=some (q89 suf suk)
 |[],suk,i,h,h'=>by
  have:suk=[]:=by rw[<-h',List.drop_eq_nil_iff,<-hk];simp_all
  subst this;apply y88;rw[q0f h];rfl|y::suf,[],i,h,h'=>by have:=q0d h;have:=List.drop_eq_nil_iff.1 h';omega|y::suf,z::suk,i,h,h'=>by have hlt:=q0d h;apply y88;rw[q08 h,cT,q04 h,q04 h',qz4 (hm y (List.mem_of_mem_drop (i:=i) (by simp_all))),bS,q01 (by omega),qr3 a b hl hk hm suf suk (i+1) (q03 h) (q03 h'),q89];cases msgEq y z<;>rfl
theorem qpr{a:Voter}(h:SmallV a)(b:Voter):z7o a b=some (sameV a b):=by
 have hl:=h.heard;apply ybz;have h1:(bif neB ((a.Heard.length:Nat):Int) ((b.Heard.length:Nat):Int)then some false else z4r ((a.Heard.length:Nat):Int) 0 a.Node a.Seq a.Trust.Threshold a.Trust.Nodes a.Trust.Inner a.Votes a.Accepts a.Confirms a.Heard b.Node b.Seq b.Trust.Threshold b.Trust.Nodes b.Trust.Inner b.Votes b.Accepts b.Confirms b.Heard)=some (q89 a.Heard b.Heard):=by
  by_cases hk:a.Heard.length=b.Heard.length;·rw[<-hk,q0i,cF];exact qr3 a b hl hk h.msgs _ _ 0 rfl rfl
  .rw[q1i (by omega),cT,qy0 hk]
 rw[qns _ h.tr,q5i _ _ (by have:=h.votes;omega),q5i _ _ (by have:=h.accs;omega),q5i _ _ (by have:=h.confs;omega),h1];have n1:∀x y:Int,neB x y=!decide (x=y):=fun x y=>by by_cases h:x=y<;>simp[neB,h]
 simp only[bS,n1];show _=some ((decide (a.Node=b.Node)&&(decide (a.Seq=b.Seq)&&(decide (a.Trust=b.Trust)&&(decide (a.Votes=b.Votes)&&decide (a.Accepts=b.Accepts)))))&&(decide (a.Confirms=b.Confirms)&&q89 a.Heard b.Heard));cases decide (a.Node=b.Node)<;>cases decide (a.Seq=b.Seq)<;>cases decide (a.Trust=b.Trust)<;>cases decide (a.Votes=b.Votes)<;>cases decide (a.Accepts=b.Accepts)<;>cases decide (a.Confirms=b.Confirms)<;>rfl
theorem q2k(v:Voter):(q0l v).Node=v.Node/\(q0l v).Seq=v.Seq/\(q0l v).Trust=v.Trust/\(q0l v).Votes=v.Votes/\(q0l v).Heard=v.Heard:=by obtain⟨h1,h2,h3,h4,_,h6⟩:=qan 200 v;exact⟨h1,h2,h3,h4,h6⟩
theorem q8m:∀(n:Nat)(v:Voter),Ready v->∀x∈v.Accepts,x∈(q20 n v).Accepts|0,v,h,x,hx=>hx|n+1,v,h,x,hx=>by rw[q20];cases hy:nextV v with|none=>omega|some y=>obtain⟨h1,h2,h3,_⟩:=qam hy;have hv:=q9v h1;exact q8m n (withA v y) (h.withA hv h3) x ((qg7 h.avc hv).2 (.inl hx))
theorem qau{v:Voter}(h:Ready v){y:Claim}:y∈(q0l v).Confirms↔y∈v.Confirms\/y∈(q0l v).Accepts/\confB (viewV (q0l v)) (q0l v).Node.toNat (q11 (allM (q0l v)) y)=true:=by have hs:=(q70 200 v h (by omega)).1;obtain⟨_,_,_,_,h5,_⟩:=qan 200 v;show y∈confC (q20 200 v) (q20 200 v).Confirms (q20 200 v).Accepts↔_;rw[qex _ _ _ (q0y.1 hs.confs).1 hs.avc,h5];rfl
theorem qss{v:Voter}(h:Ready v):∀x∈known (q0l v),canB (q0l v) x=false:=fun x hx=>qyw (q70 200 v h (by omega)).2 x hx
theorem Ready.withS{v:Voter}(h:Ready v){s:Int}(h1:1<=s)(h2:s<=1000000):Ready {v with Seq:=s}:=⟨h.node,⟨h1,h2⟩,h.tr,h.votes,h.accs,h.confs,h.cons,h.sub,h.heard⟩
theorem q4e(b v:Voter):∃s:Int,(s=v.Seq\/s=v.Seq+1)/\turnV b v={q0l v with Seq:=s}/\(s=v.Seq↔b.Trust=v.Trust/\b.Votes=v.Votes/\b.Accepts=(q0l v).Accepts):=by
 obtain⟨h1,h2,h3,h4,h5⟩:=q2k v;rw[turnV,h3,h4,h2];split;·rename_i h;exact⟨v.Seq,.inl rfl,by rw[<-h2],fun _=>h,fun _=>rfl⟩
 .rename_i h;exact⟨v.Seq+1,.inr rfl,rfl,fun e=>by omega,fun e=>absurd e h⟩
structure Step(v w:Voter):Prop where
 node:w.Node=v.Node
 seq:w.Seq=v.Seq\/w.Seq=v.Seq+1
 votes:∀x∈v.Votes,x∈w.Votes
 accs:∀x∈v.Accepts,x∈w.Accepts
 confs:∀x∈v.Confirms,x∈w.Confirms
 ready:w.Seq<=1000000->q2y w=true
 small:SmallV w
theorem Ready.smallS{v:Voter}(h:Ready v)(s:Int):SmallV {v with Seq:=s}:=⟨h.small.tr,h.small.votes,h.small.accs,h.small.confs,h.small.heard,h.small.msgs⟩
theorem qz5{b v u:Voter}(hu:Ready u)(hc:consC u.Votes=true)(hn:u.Node=v.Node)(hs:u.Seq=v.Seq)(hv:∀x∈v.Votes,x∈u.Votes)(ha:u.Accepts=v.Accepts)(hcf:u.Confirms=v.Confirms):Step v (turnV b u):=by obtain⟨s,h1,h2,_⟩:=q4e b u;obtain⟨g1,g2,g3,g4,g5⟩:=q2k u;have hr:=hu.settle;rw[h2];refine⟨g1.trans hn,by simp_all,fun x hx=>by simp_all,fun x hx=>q8m 200 u hu x (by simp_all),fun x hx=>(qau hu).2 (.inl (by simp_all)),fun hle=>?_,hr.smallS s⟩;have h3:=hu.seq;exact q0x.2 ⟨hr.withS (by omega) hle,by simp_all⟩
theorem qal{v:Voter}(hv:q2y v=true){m:Message}(hm:msgB m=true)(hn:m.Node≠v.Node)(ho:oldB v.Heard m=false):hearV v m=(turnV v {v with Heard:=hearL m v.Heard},0):=by unfold hearV;simp_all
theorem qeq{v:Voter}{m:Message}(h:(hearV v m).2=0):msgB m=true/\m.Node≠v.Node/\oldB v.Heard m=false:=by unfold hearV at h;grind
theorem y3a{v:Voter}(hv:q2y v=true){m:Message}(h:(hearV v m).2=0):Step v (hearV v m).1/\(hearV v m).1.Heard=hearL m v.Heard:=by obtain⟨hr,hc⟩:=q0x.1 hv;obtain⟨h1,h2,h3⟩:=qeq h;rw[qal hv h1 h2 h3];refine⟨qz5 (hr.withH h1 h2) hc rfl rfl (fun _ h=>h) rfl rfl,?_⟩;obtain⟨s,_,h4,_⟩:=q4e v {v with Heard:=hearL m v.Heard};dsimp only;rw[h4];exact(q2k _).2.2.2.2
theorem qk5{n:Int}{t:Trust}(hn:inR n=true)(ht:valid t=true):qu2 n t=(⟨n,1,t,[],[],[],[]⟩,0)/\q2y ⟨n,1,t,[],[],[],[]⟩=true:=by
 constructor;·rw[qu2,if_neg (by simp_all),if_neg (by rw[(q66 t).2 ht];simp)]
 .rw[q0x];exact⟨⟨hn,⟨by simp,by simp⟩,ht,rfl,rfl,rfl,by rfl,(fun x hx=>by omega),rfl⟩,by rfl⟩
theorem qw5:∀(l:List Message)(ms:List Member)(k:Nat),(l.Pairwise fun a b=>a.Node.toNat≠b.Node.toNat)->k<ms.length->(l.foldl seeM ms)[k]?=(match l.find? (fun m=>decide (m.Node.toNat=k))with|some m=>some ⟨true,m.Trust⟩|none=>ms[k]?)
 |[],ms,k,_,_=>rfl|m::l,ms,k,hd,hk=>by
  have hd:=List.pairwise_cons.1 hd;rw[List.foldl_cons,qw5 l _ k hd.2 (by simpa[seeM]using hk),List.find?_cons];by_cases e:m.Node.toNat=k
  .have:l.find? (fun m=>decide (m.Node.toNat=k))=none:=List.find?_eq_none.2 fun x hx=>by grind
   simp[this,e,seeM,hk]
  .simp only[e,decide_false];cases hf:l.find? (fun m=>decide (m.Node.toNat=k))with|some y=>rfl|none=>exact List.getElem?_set_ne e
section
variable {n : Int} {t : Trust} {l : List Message} (hn : inR n = true) (hl : q37 n none l = true)
include hl in
theorem qhc : l.Pairwise fun a b => a.Node.toNat ≠ b.Node.toNat := by
 obtain ⟨h1, _, h3⟩ := q22.1 hl;refine List.Pairwise.imp_of_mem (fun {a b} ha hb hab => ?_) h3;have g1 := q5o (q2q.1 (h1 a ha).1).1;have g2 := q5o (q2q.1 (h1 b hb).1).1;omega
include hl in
theorem qzv {a b : Message} (ha : a ∈ l) (hb : b ∈ l) (h : a.Node = b.Node) : a = b := by
 obtain ⟨i, hi, rfl⟩ := List.mem_iff_getElem.1 ha;obtain ⟨j, hj, rfl⟩ := List.mem_iff_getElem.1 hb;have hp := List.pairwise_iff_getElem.1 (qhc hl);rcases Nat.lt_trichotomy i j with c | c | c
 .exact absurd (by rw [h]) (hp i j hi hj c)
 .subst c; rfl
 .exact absurd (by rw [h]) (hp j i hj hi c)
include hn in
theorem qob : (decl (viewC n t l)).testBit n.toNat = true /\ tr (viewC n t l) n.toNat = t := by
 have hg : (viewC n t l).Members[n.toNat]? = some ⟨true, t⟩ := by
  rw [viewC, List.getElem?_set_self (by rw [q9a]; simpa using (q5o hn).2)]
 exact ⟨q3k.2 ⟨(q5o hn).2, _, hg, rfl⟩, by unfold tr; rw [hg]; rfl⟩
include hl in
theorem qyr {k : Nat} (hk : k < 10) (hne : k ≠ n.toNat) : (viewC n t l).Members[k]? = match l.find? (fun m => decide (m.Node.toNat = k)) with | some m => some ⟨true, m.Trust⟩ | none => some ⟨false, ⟨0, [], []⟩⟩ := by
 rw [viewC, List.getElem?_set_ne (fun e => hne e.symm), qw5 _ _ _ (qhc hl) (by simpa using hk)];cases l.find? (fun m => decide (m.Node.toNat = k)) with
 | some m => rfl
 | none =>
  show (List.replicate 10 (⟨false, ⟨0, [], []⟩⟩ : Member))[k]? = _;rw [List.getElem?_replicate, if_pos hk]
include hn hl in
theorem qjc {m : Message} (hm : m ∈ l) : (decl (viewC n t l)).testBit m.Node.toNat = true /\ tr (viewC n t l) m.Node.toNat = m.Trust := by
 obtain ⟨g1, g2⟩ := (q22.1 hl).1 m hm;have hb := q5o (q2q.1 g1).1;have hb' := q5o hn;have hg : (viewC n t l).Members[m.Node.toNat]? = some ⟨true, m.Trust⟩ := by
  rw [qyr hl hb.2 (by omega)];cases hf : l.find? (fun k => decide (k.Node.toNat = m.Node.toNat)) with
  | none =>
   have := List.find?_eq_none.1 hf m hm;simp at this
  | some y =>
   have h1 := List.mem_of_find?_eq_some hf;have h2 := List.find?_some hf;rw [dT'] at h2;have hy := q5o (q2q.1 ((q22.1 hl).1 y h1).1).1;have : y = m := qzv hl h1 hm (by omega);subst this; rfl
 exact ⟨q3k.2 ⟨hb.2, _, hg, rfl⟩, by unfold tr; rw [hg]; rfl⟩
end
theorem qap{p:Message->Bool}:∀(l:List Message)(s i:Nat),(whoF p s l).testBit i=true↔s.testBit i=true\/∃m∈l,p m=true/\m.Node.toNat=i|[],s,i=>by simp[whoF]|m::l,s,i=>by rw[qem,qap l];cases hp:p m with|true=>simp only[if_true];rw[Nat.testBit_or,Bool.or_eq_true,bit,q8s,dT'];grind|false=>simp_all
theorem qmq{l:List Message}{x:Claim}{i:Nat}:(votes l x).testBit i=true↔∃m∈l,x∈m.Votes/\m.Node.toNat=i:=by show(whoF _ 0 l).testBit i=true↔_;rw[qap];simp
theorem q9o{l:List Message}{x:Claim}{i:Nat}:(q11 l x).testBit i=true↔∃m∈l,x∈m.Accepts/\m.Node.toNat=i:=by show(whoF _ 0 l).testBit i=true↔_;rw[qap];simp
theorem qfu{v:Voter}{m:Message}(h:m∈allM v):m∈v.Heard\/m=say v:=by
 rcases List.mem_append.1 h with h|h;·exact .inl h
 simp_all
def atV(S:List Voter)(b:Nat):Voter:=S.getD b qdt
theorem q4t{S:List Voter}{b:Nat}(h:b<S.length):S[b]?=some (atV S b):=by unfold atV;simp_all
theorem q5k{S:List Voter}{b:Nat}(h:b<S.length)(x:Voter)(c:Nat):atV (S.set b x) c=if b=c then x else atV S c:=by unfold atV;grind
def SubC(a b:List Claim):Prop:=∀x∈a,x∈b
theorem q7l:∀{A B:List Claim},A.Nodup->SubC A B->A.length<=B.length|[],_,_,_=>Nat.zero_le _|a::A,B,hn,h=>by obtain⟨h1,h2⟩:=List.nodup_cons.1 hn;have ha:=h a (by simp);have:=q7l (B:=B.erase a) h2 fun x hx=>(List.mem_erase_of_ne (fun(e:x=a)=>h1 (by rw[<-e];exact hx))).2 (h x (by simp[hx]));grind
theorem qgt{l:List Claim}(h:plainC l=true):l.Nodup:=List.Pairwise.imp (fun{a b}(hab:ltc a b)=>fun(e:a=b)=>q54 a (by simp_all)) (q0y.1 h).2
theorem qwx{A B:List Claim}(h:plainC A=true)(hs:SubC A B):A.length<=B.length:=q7l (qgt h) hs
theorem qsl{A B:List Claim}(h:plainC A=true)(h':plainC B=true)(hs:SubC A B)(hne:A≠B):A.length<B.length:=by
 rcases Nat.lt_or_ge A.length B.length with g|g;·exact g
 .refine absurd (qg2 h h' fun x=>⟨hs x,fun hx=>?_⟩) hne;cases hd:decide (x∈A)with
  |true=>simp_all
  |false=>have hx':x∉A:=of_decide_eq_false hd;have:=q7l (A:=x::A) (B:=B) (List.nodup_cons.2 ⟨hx',qgt h⟩) (fun y hy=>by
    rcases List.mem_cons.1 hy with e|hy;·subst e;exact hx
    .exact hs y hy);grind
structure Settled(v:Voter):Prop where
 none:∀x∈known v,canB v x=false
 conf:∀y∈v.Accepts,confB (viewV v) v.Node.toNat (q11 (allM v) y)=true->y∈v.Confirms
theorem y0u(p:Message->Bool)(l:List Message)(m m':Message)(h1:m'.Node=m.Node)(h2:p m'=p m):who p (l++[m'])=who p (l++[m]):=by simp only[who,List.foldl_append,List.foldl_cons,List.foldl_nil,h1,h2]
theorem y5g(v:Voter)(s:Int)(x:Claim):votes (allM {v with Seq:=s}) x=votes (allM v) x:=y0u _ _ _ _ rfl rfl
theorem qd5(v:Voter)(s:Int)(x:Claim):q11 (allM {v with Seq:=s}) x=q11 (allM v) x:=y0u _ _ _ _ rfl rfl
theorem y5y(v:Voter)(s:Int):known {v with Seq:=s}=known v:=by simp[known,allM,q8e,say]
theorem y9p(v:Voter)(s:Int)(x:Claim):canB {v with Seq:=s} x=canB v x:=by unfold canB;rw[y5g,qd5];rfl
theorem qwt{v:Voter}(h:Settled v)(s:Int):Settled {v with Seq:=s}:=by
 refine⟨fun x hx=>?_,fun y hy hc=>?_⟩;·rw[y5y]at hx;rw[y9p];exact h.none x hx
 .rw[qd5]at hc;exact h.conf y hy hc
theorem qoe{b u:Voter}(hu:Ready u):Settled (turnV b u):=by obtain⟨s,_,h2,_⟩:=q4e b u;rw[h2];exact qwt ⟨qss hu,fun y hy hc=>(qau hu).2 (.inr ⟨hy,hc⟩)⟩ s
structure Lay where
 N:Nat
 G:Nat->Prop
 T:Nat->Trust->Prop
 Cl:Claim->Prop
structure Told(P:Lay)(S:List Voter)(m:Message):Prop where
 node:0<=m.Node/\m.Node.toNat<P.N
 ins:uses m.Trust<2^P.N
 cl:∀y,y∈m.Votes\/y∈m.Accepts->P.Cl y
 good:∀a:Nat,P.G a->m.Node=(a:Int)->P.T a m.Trust/\SubC m.Votes (atV S a).Votes/\SubC m.Accepts (atV S a).Accepts/\m.Seq<=(atV S a).Seq/\(m.Seq=(atV S a).Seq->m=say (atV S a))
def WitC(P:Lay)(S:List Voter)(b:Nat)(y:Claim):Prop:=∃U:Nat,U.testBit b=true/\(∀k,U.testBit k=true->k<P.N)/\∀k,U.testBit k=true->P.G k->y∈(atV S k).Accepts/\∃t,P.T k t/\sat U t=true
structure MtB(P:Lay)(q:Nat)(S:List Voter)(b:Nat):Prop where
 valid:q2y (atV S b)=true
 node:(atV S b).Node=(b:Int)tru:P.G b->P.T b (atV S b).Trust
 ins:uses (atV S b).Trust<2^P.N
 seq:(atV S b).Seq<=((q+(atV S b).Accepts.length:Nat):Int)cl:∀y,y∈(atV S b).Votes\/y∈(atV S b).Accepts->P.Cl y
 set:Settled (atV S b)told:∀m∈(atV S b).Heard,Told P S m
 conf:P.G b->∀y∈(atV S b).Confirms,WitC P S b y
structure MtI(P:Lay)(q:Nat)(S:List Voter):Prop where
 len:S.length=P.N
 all:∀b,b<P.N->MtB P q S b
structure Up(P:Lay)(S:List Voter)(b:Nat)(u:Voter):Prop where
 ready:Ready u
 cons:consC u.Votes=true
 node:u.Node=(b:Int)seq:u.Seq=(atV S b).Seq
 votes:SubC (atV S b).Votes u.Votes
 accs:u.Accepts=(atV S b).Accepts
 confs:u.Confirms=(atV S b).Confirms
 tru:P.G b->P.T b u.Trust
 ins:uses u.Trust<2^P.N
 cl:∀y∈u.Votes,P.Cl y
 told:∀m∈u.Heard,Told P S m
theorem qlc{Cl:Claim->Prop}:∀(n:Nat)(v:Voter),(∀m∈allM v,∀y,y∈m.Votes\/y∈m.Accepts->Cl y)->∀y∈(q20 n v).Accepts,Cl y|0,v,h,y,hy=>h (say v) (by simp[allM]) y (.inr hy)|n+1,v,h,y,hy=>by rw[q20]at hy;cases hx:nextV v with|none=>rw[hx]at hy;exact h (say v) (by simp[allM]) y (.inr hy)|some x=>
   rw[hx]at hy;obtain⟨h1,_⟩:=qam hx;have hcx:Cl x:=by have:=(q1m.1 h1).2;unfold q8e at this;grind
   refine qlc n (withA v x) (fun m hm z hz=>?_) y hy;rcases qfu hm with g|g;·exact h m (by simp[allM];exact .inl g) z hz
   .subst g;rcases hz with hz|hz;·exact h (say v) (by simp[allM]) z (.inl hz)
    .have hz:z∈q16 (v.Accepts++[x]):=hz;rw[q1m,List.mem_append,List.mem_singleton]at hz;rcases hz.2 with g|g;·exact h (say v) (by simp[allM]) z (.inr g)
     simp_all
structure Turn(v w:Voter):Prop where
 node:w.Node=v.Node
 seq:v.Seq<=w.Seq
 votes:SubC v.Votes w.Votes
 accs:SubC v.Accepts w.Accepts
 same:w.Seq=v.Seq->say w=say v
theorem Turn.refl(v:Voter):Turn v v:=⟨rfl,Int.le_refl _,fun _ h=>h,fun _ h=>h,fun _=>rfl⟩
theorem Up.turn{P:Lay}{S:List Voter}{b:Nat}{u:Voter}(h:Up P S b u)(hn:(atV S b).Node=(b:Int)):Turn (atV S b) (turnV (atV S b) u):=by
 obtain⟨s,h1,h2,h3⟩:=q4e (atV S b) u;obtain⟨g1,g2,g3,g4,g5⟩:=q2k u;have hsq:=h.seq;rw[h2];refine⟨by show(q0l u).Node=_;rw[g1,h.node,hn],by grind,fun x hx=>?_,fun x hx=>?_,fun e=>?_⟩;·show x∈(q0l u).Votes;rw[g4];exact h.votes x hx
 .exact q8m 200 u h.ready x (by rw[h.accs];omega)
 .have e:s=u.Seq:=by simp_all
  obtain⟨e1,e2,e3⟩:=h3.1 e;simp only[say];rw[g1,g3,g4,<-e1,<-e2,<-e3,h.node,hn,e,hsq]
theorem qoz{P:Lay}{S:List Voter}{b:Nat}{w:Voter}(hb:b<S.length)(hw:Turn (atV S b) w){m:Message}(h:Told P S m):Told P (S.set b w) m:=by
 refine⟨h.node,h.ins,h.cl,fun a ha hm=>?_⟩;obtain⟨q1,q2,q3,q4,q5⟩:=h.good a ha hm;rw[q5k hb];by_cases e:b=a
 .subst e;rw[if_pos rfl];have:=hw.seq;refine⟨q1,fun x hx=>hw.votes x (q2 x hx),fun x hx=>hw.accs x (q3 x hx),by omega,fun he=>?_⟩;have e1:w.Seq=(atV S b).Seq:=by omega
  rw[q5 (by omega),hw.same e1]
 grind
theorem y1y{S:List Voter}{b:Nat}{w:Voter}(hb:b<S.length)(hw:Turn (atV S b) w)(k:Nat){x:Claim}(hx:x∈(atV S k).Accepts):x∈(atV (S.set b w) k).Accepts:=by
 rw[q5k hb];by_cases e:b=k;·subst e;rw[if_pos rfl];exact hw.accs x hx
 simp_all
theorem qxg{S:List Voter}{b:Nat}{w:Voter}(hb:b<S.length)(hw:Turn (atV S b) w)(k:Nat){x:Claim}(hx:x∈(atV S k).Votes):x∈(atV (S.set b w) k).Votes:=by
 rw[q5k hb];by_cases e:b=k;·subst e;rw[if_pos rfl];exact hw.votes x hx
 simp_all
theorem qqk{P:Lay}{S:List Voter}{b:Nat}{w:Voter}(hb:b<S.length)(hw:Turn (atV S b) w){d:Nat}{y:Claim}:WitC P S d y->WitC P (S.set b w) d y:=by rintro⟨U,h1,h2,h3⟩;exact⟨U,h1,h2,fun k hk hg=>⟨y1y hb hw k (h3 k hk hg).1,(h3 k hk hg).2⟩⟩
theorem y39{P:Lay}(_hN:P.N<=10){q q':Nat}{S:List Voter}(hS:MtI P q S){b:Nat}(hb:b<P.N)(hq:q<=100000){u:Voter}(hu:Up P S b u)(hq':q'=q+1\/q'=q/\u.Trust=(atV S b).Trust/\u.Votes=(atV S b).Votes):MtI P q' (S.set b (turnV (atV S b) u))/\Turn (atV S b) (turnV (atV S b) u):=by
 have hl:=hS.len;have B:=hS.all b hb;obtain⟨hbr,_⟩:=q0x.1 B.valid;have ht:=hu.turn B.node;have hbs:b<S.length:=by omega
 refine⟨⟨by grind,?_⟩,ht⟩;obtain⟨s,h1,h2,h3⟩:=q4e (atV S b) u;obtain⟨g1,g2,g3,g4,g5⟩:=q2k u;have hr:=hu.ready.settle;have hsq:=hu.seq;have hset:=qoe (b:=atV S b) hu.ready;have hsub:SubC (atV S b).Accepts (q0l u).Accepts:=fun x hx=>q8m 200 u hu.ready x (by rw[hu.accs];omega);have hle:=qwx hbr.accs hsub;have hal:=hr.alen;have hbq:=B.seq;generalize hw:turnV (atV S b) u=w at*;have eN:w.Node=(b:Int):=by rw[h2];show(q0l u).Node=_;rw[g1,hu.node]
 have eT:w.Trust=u.Trust:=by simp_all
 have eV:w.Votes=u.Votes:=by simp_all
 have eA:w.Accepts=(q0l u).Accepts:=by rw[h2]
 have eC:w.Confirms=(q0l u).Confirms:=by rw[h2]
 have eH:w.Heard=u.Heard:=by simp_all
 have eS:w.Seq=s:=by rw[h2]
 have hseq:s<=((q'+(q0l u).Accepts.length:Nat):Int):=by
  rcases hq' with e|⟨e,e1,e2⟩;·omega
  .rcases h1 with g|g;·omega
   .have hne:(atV S b).Accepts≠(q0l u).Accepts:=fun ea=>by grind
    have:=qsl hbr.accs hr.accs hsub hne;omega
 have hs1:1<=s:=by have:=hu.ready.seq;omega
 have hs2:s<=1000000:=by rcases hq' with e|⟨e,_,_⟩<;>omega
 have hval:q2y w=true:=by rw[h2];exact q0x.2 ⟨hr.withS hs1 hs2,by show consC (q0l u).Votes=true;rw[g4];exact hu.cons⟩
 have hwr:=(q0x.1 hval).1;have hown:∀m∈w.Heard,Told P (S.set b w) m:=fun m hm=>qoz hbs ht (hu.told m (by simp_all));intro d hd;by_cases e:b=d
 .subst e;have ew:atV (S.set b w) b=w:=by rw[q5k hbs,if_pos rfl]
  refine⟨by simp_all,by simp_all,fun hg=>by rw[ew,eT];exact hu.tru hg,by rw[ew,eT];exact hu.ins,by simp_all,?_,by simp_all,by simp_all,fun hg y hy=>?_⟩
  .rw[ew];rintro y(hy|hy);·exact hu.cl y (by simp_all)
   .rw[eA]at hy;refine qlc (Cl:=P.Cl) 200 u (fun m hm z hz=>?_) y hy;rcases qfu hm with g|g;·exact(hu.told m g).cl z hz
    .subst g;rcases hz with hz|hz;·exact hu.cl z hz
     .have hz:z∈u.Accepts:=hz;rw[hu.accs]at hz;exact B.cl z (.inr hz)
  .rw[ew,eC]at hy;rcases(qau hu.ready).1 hy with g|⟨g,hc⟩;·rw[hu.confs]at g;exact qqk hbs ht (B.conf hg y g)
   .have hc':confB (viewV w) w.Node.toNat (q11 (allM w) y)=true:=by
     have:q11 (allM w) y=q11 (allM (q0l u)) y:=by rw[h2];exact qd5 _ _ _
     rw[this,h2];exact hc
    have hlt:=q8h hwr.all y;unfold confB at hc';have h0:q1s (viewV w) (q11 (allM w) y)≠0:=nz.2 ⟨_,hc'⟩;have hQ:=q6d (viewV w) hlt h0;have hbn:w.Node.toNat=b:=by omega
    rw[hbn]at hc';have one:∀k,(q1s (viewV w) (q11 (allM w) y)).testBit k=true->∃m∈allM w,y∈m.Accepts/\m.Node.toNat=k:=fun k hk=>by have hl:=q5e (viewV w) hlt k hk;rw[Nat.testBit_and,aT]at hl;exact q9o.1 hl.1
    refine⟨_,hc',fun k hk=>?_,fun k hk hgk=>?_⟩
    .obtain⟨m,hm,_,hmn⟩:=one k hk;rcases qfu hm with g|g;·have:=(hown m g).node;omega
     .subst g;have:(say w).Node=(b:Int):=eN;omega
    .have hs:=hQ.2.2 k hk;obtain⟨m,hm,hma,hmn⟩:=one k hk;rcases qfu hm with g|g;·have hmN:=(hown m g).node;obtain⟨q1,q2,q3,_,_⟩:=(hown m g).good k hgk (by omega);have t:=(qjc hwr.node hwr.heard (t:=w.Trust) g).2;rw[hmn]at t;have t:tr (viewV w) k=m.Trust:=t;rw[t]at hs;exact⟨q3 y hma,_,q1,hs⟩
     .subst g;have hk':k=b:=hmn.symm.trans hbn;subst hk';have t:=(qob hwr.node (t:=w.Trust) (l:=w.Heard)).2;have t:tr (viewV w) w.Node.toNat=w.Trust:=t;rw[hbn]at t;rw[t]at hs;rw[ew];exact⟨hma,_,by rw[eT];exact hu.tru hgk,hs⟩
 .have ed:atV (S.set b w) d=atV S d:=by rw[q5k hbs,if_neg e]
  have D:=hS.all d hd;have hqq:q<=q':=by rcases hq' with e|⟨e,_,_⟩<;>omega
  have:=D.seq;refine⟨by rw[ed];exact D.valid,by rw[ed];exact D.node,fun hg=>by rw[ed];exact D.tru hg,by rw[ed];exact D.ins,by grind,by rw[ed];exact D.cl,by rw[ed];exact D.set,fun m hm=>?_,fun hg y hy=>?_⟩;·rw[ed]at hm;exact qoz hbs ht (D.told m hm)
  .rw[ed]at hy;exact qqk hbs ht (D.conf hg y hy)
structure Own(P:Lay)(I:Nat):Prop where
 sub:∀k,I.testBit k=true->P.G k/\k<P.N
 sat:∀k t,I.testBit k=true->P.T k t->sat I t=true
def WitA(P:Lay)(I:Nat)(V:Nat->List Claim)(y:Claim):Prop:=∃U:Nat,(∃a,I.testBit a=true/\U.testBit a=true)/\∀k,I.testBit k=true->U.testBit k=true->y∈V k/\∃t,P.T k t/\sat U t=true
def AcI(P:Lay)(I:Nat)(S:List Voter):Prop:=∀k y,I.testBit k=true->y∈(atV S k).Accepts->WitA P I (fun k=>(atV S k).Votes) y
theorem WitA.mono{P:Lay}{I:Nat}{V W:Nat->List Claim}(h:∀k,SubC (V k) (W k)){y:Claim}:WitA P I V y->WitA P I W y:=by rintro⟨U,h1,h2⟩;exact⟨U,h1,fun k hk hu=>⟨h k y (h2 k hk hu).1,(h2 k hk hu).2⟩⟩
theorem qpv{P:Lay}(hN:P.N<=10){I:Nat}(hO:Own P I){S:List Voter}(hA:AcI P I S){b:Nat}(hb:I.testBit b=true){u:Voter}(hu:Up P S b u):∀(n:Nat)(v:Voter),Ready v->v.Node=u.Node->v.Trust=u.Trust->v.Votes=u.Votes->v.Heard=u.Heard->(∀y∈v.Accepts,WitA P I (fun k=>if k=b then u.Votes else(atV S k).Votes) y)->∀y∈(q20 n v).Accepts,WitA P I (fun k=>if k=b then u.Votes else(atV S k).Votes) y|0,v,_,_,_,_,_,h,y,hy=>h y hy|n+1,v,hr,eN,eT,eV,eH,h,y,hy=>by rw[q20]at hy;cases hx:nextV v with|none=>simp_all|some x=>
   rw[hx]at hy;obtain⟨h1,h2,h3,h4⟩:=qam hx;have hv:=q9v h1;have hGb:=hO.sub b hb;have hbn:v.Node.toNat=b:=by rw[eN,hu.node,tN]
   have hwx:WitA P I (fun k=>if k=b then u.Votes else(atV S k).Votes) x:=by
    by_cases hex:∃k,I.testBit k=true/\x∈(atV S k).Accepts
    .obtain⟨k,hk,hxk⟩:=hex;refine(hA k x hk hxk).mono fun j z hz=>?_;by_cases e:j=b;·subst e;rw[if_pos rfl];exact hu.votes z hz
     .rw[if_neg e];exact hz
    .have hacc:∀k,I.testBit k=true->(q11 (allM v) x).testBit k=true->False:=fun k hk ha=>by
      obtain⟨m,hm,hxm,hmn⟩:=q9o.1 ha;rcases qfu hm with g|g;·rw[eH]at g;have T:=hu.told m g;have:=T.node;exact hex ⟨k,hk,(T.good k (hO.sub k hk).1 (by omega)).2.2.1 x hxm⟩
      .subst g;exact h2 hxm
     have hown:=qob hr.node (t:=v.Trust) (l:=v.Heard);rw[hbn]at hown;have hto:tr (viewV v) b=u.Trust:=hown.2.trans eT;unfold accB at h4;rw[Bool.or_eq_true,hbn]at h4;rcases h4 with h4|h4
     .exfalso;unfold blk at h4;rw[aT,Bool.not_eq_true']at h4;have hs:=hO.sat b u.Trust hb (hu.tru hGb.1);have:Sub I (ndiff 1023 (q11 (allM v) x)|||2^b):=fun k hk=>by
       rw[Nat.testBit_or,q0b,Bool.or_eq_true,aT,Bool.not_eq_true'];left;have hk10:k<10:=by have:=(hO.sub k hk).2;omega
       refine⟨?_,?_⟩;·rw[show(1023:Nat)=2^10-1 from rfl,Nat.testBit_two_pow_sub_one];simp;omega
       .cases ha:(q11 (allM v) x).testBit k with|false=>rfl|true=>exact absurd (hacc k hk ha) id
      have:=qkd this hs;rw[hto,this]at h4;cases h4.2
     .have l1:=qvn hr.all x;have l2:=q8h hr.all x;have hlt:votes (allM v) x|||q11 (allM v) x<1024:=Nat.or_lt_two_pow (n:=10) l1 l2;have h0:q1s (viewV v) (votes (allM v) x|||q11 (allM v) x)≠0:=nz.2 ⟨_,h4⟩;have hQ:=q6d (viewV v) hlt h0;refine⟨_,⟨b,hb,h4⟩,fun k hk hku=>?_⟩;have hs:=hQ.2.2 k hku;have hl:=q5e (viewV v) hlt k hku;rw[Nat.testBit_and,aT,Nat.testBit_or,Bool.or_eq_true]at hl;rcases hl.1 with g|g
      .obtain⟨m,hm,hxm,hmn⟩:=qmq.1 g;rcases qfu hm with g|g;·have g':=g;rw[eH]at g;have T:=hu.told m g;have hne:=(hr.msg m g').2;have:=T.node;obtain⟨q1,q2,_⟩:=T.good k (hO.sub k hk).1 (by omega);have t:=(qjc hr.node hr.heard (t:=v.Trust) g').2;rw[hmn]at t;have t:tr (viewV v) k=m.Trust:=t;rw[t]at hs;have hkb:k≠b:=fun e=>hne (by rw[eN,hu.node];omega);exact⟨by dsimp only;rw[if_neg hkb];exact q2 x hxm,_,q1,hs⟩
       .subst g;have hk':k=b:=hmn.symm.trans hbn;subst hk';rw[hto]at hs;have hxm:x∈v.Votes:=hxm;rw[eV]at hxm;exact⟨by dsimp only;rw[if_pos rfl];exact hxm,_,hu.tru hGb.1,hs⟩
      .exact absurd (hacc k hk g) id
   refine qpv hN hO hA hb hu n (withA v x) (hr.withA hv h3) eN eT eV eH (fun z hz=>?_) y hy;rcases(qg7 hr.avc hv).1 hz with g|g;·exact h z g
   simp_all
theorem y9x{P:Lay}(hN:P.N<=10){I:Nat}(hO:Own P I){S:List Voter}(hA:AcI P I S){b:Nat}(hb:b<S.length)(hn:(atV S b).Node=(b:Int)){u:Voter}(hu:Up P S b u):AcI P I (S.set b (turnV (atV S b) u)):=by
 have ht:=hu.turn hn;obtain⟨s,h1,h2,h3⟩:=q4e (atV S b) u;obtain⟨g1,g2,g3,g4,g5⟩:=q2k u;intro k y hk hy;have hmono:∀j,SubC (atV S j).Votes (atV (S.set b (turnV (atV S b) u)) j).Votes:=fun j z hz=>qxg hb ht j hz;rw[q5k hb]at hy;by_cases e:b=k
 .subst e;rw[if_pos rfl,h2]at hy;have hy:y∈(q20 200 u).Accepts:=hy;have:=qpv hN hO hA hk hu 200 u hu.ready rfl rfl rfl rfl (fun z hz=>(hA b z hk (by rw[hu.accs]at hz;exact hz)).mono fun j x hx=>by
   by_cases e:j=b;·subst e;rw[if_pos rfl];exact hu.votes x hx
   .rw[if_neg e];exact hx) y hy;refine this.mono fun j z hz=>?_;rw[q5k hb];grind
 .rw[if_neg e]at hy;exact(hA k y hk hy).mono hmono
section
variable {P : Lay} (hN : P.N <= 10) {q : Nat} {S : List Voter} (hS : MtI P q S) {I : Nat}
include hS
variable (hO : Own P I)
include hO
variable (hC : ∀ a b, P.G a -> a < P.N -> I.testBit b = true -> a ≠ b -> oldB (atV S b).Heard (say (atV S a)) = true)
include hC
include hN
end
def insB(t:Trust)(n:Nat):Bool:=decide (uses t<2^n)
def q7n(n:Nat)(l:List Message):Bool:=l.all fun x=>decide (x.Node<(n:Int))&&insB x.Trust n
def q7k(n:Nat):Nat->List Voter->Bool|_,[]=>true|k,v::r=>decide (v.Node=(k:Int))&&(q2y v&&(insB v.Trust n&&(q7n n v.Heard&&q7k n (k+1) r)))
abbrev q5z(m:Meeting):Prop:=1<=m.Voters.length/\m.Voters.length<=10/\(0<=m.Ill/\m.Ill<((2^m.Voters.length:Nat):Int))/\(0<=m.Stopped/\m.Stopped<((2^m.Voters.length:Nat):Int))/\m.Ill.toNat&&&m.Stopped.toNat=0
def q5q(m:Meeting):Bool:=decide (q5z m)&&q7k m.Voters.length 0 m.Voters
structure SmallMt(m:Meeting):Prop where
 len:m.Voters.length<1000000
 voters:∀v∈m.Voters,SmallV v
theorem shlN{n:Nat}(h:n<=10):shlI .i64 1 (n:Int)=((2^n:Nat):Int):=by rw[shl1 (by omega) (by omega),tN]
theorem qc0{n:Nat}(h:n<=10):2^n<=1024:=Nat.pow_le_pow_right (by decide) h
theorem qdv{t:Trust}(ht:Small t){n:Nat}(hn:n<=10):z3v t (n:Int)=some (insB t n):=by apply ybb;rw[q0j (by omega),qwe t ht,bS,shlN hn];unfold ltB insB;congr 1;grind
theorem y5j{m:Message}(hm:SmallM m){n:Nat}(hn:n<=10):z66 m (n:Int)=some (!(decide (m.Node<(n:Int))&&insB m.Trust n),(n:Int)):=by
 apply yfj;by_cases h:m.Node<(n:Int);·rw[show leB (n:Int) m.Node=false by unfold leB;simp;omega,cF,qdv hm.tr hn];grind
 .rw[show leB (n:Int) m.Node=true by unfold leB;simp;omega,cT];grind
theorem qu6(l:List Message)(hl:l.length<1000000)(hm:∀m∈l,SmallM m){n:Nat}(hn:n<=10):∀(suf:List Message)(i:Nat),l.drop i=suf->∃r:Int,z0j l ((l.length:Nat):Int) (i:Int) (n:Int)=some (r,(n:Int))/\leB 0 r=!q7n n suf
 |[],i,h=>by refine⟨-1,y41 _ _ _ _ _ ?_,by rfl⟩;rw[q0f h];rfl|y::suf,i,h=>by
  have hlt:=q0d h;obtain⟨r,h1,h2⟩:=qu6 l hl hm hn suf (i+1) (q03 h);have hf:=y5j (hm y (List.mem_of_mem_drop (i:=i) (by simp_all))) hn;by_cases hy:(decide (y.Node<(n:Int))&&insB y.Trust n)=true;·refine⟨r,y41 _ _ _ _ _ ?_,by rw[h2];simp[q7n,hy]⟩;rw[q08 h,cT,q04 h,hf,bS,hy,q01 (by omega)];grind
  .refine⟨i,y41 _ _ _ _ _ ?_,by rw[Bool.not_eq_true]at hy;simp[q7n,hy,leB]⟩;rw[Bool.not_eq_true]at hy;rw[q08 h,cT,q04 h,hf,bS,hy];rfl
theorem y5z(l:List Message)(hl:l.length<1000000)(hm:∀m∈l,SmallM m){n:Nat}(hn:n<=10):z1h l (n:Int)=some (!q7n n l,(n:Int)):=by apply yes;obtain⟨r,h1,h2⟩:=qu6 l hl hm hn l 0 rfl;have h3:z1l l (n:Int)=_:=yct _ _ _ h1;simp_all
theorem y3m{n:Nat}(hn:n<=10)(l:List Voter)(hl:l.length<1000000)(hv:∀v∈l,SmallV v)(a7:List Voter)(a9 a11:Int):∀(suf:List Voter)(i:Nat),l.drop i=suf->z30 l ((l.length:Nat):Int) (i:Int) a7 a9 a11 (n:Int)=some (q7k n i suf)
 |[],i,h=>by apply y7c;rw[q0f h];rfl|y::suf,i,h=>by
  have hlt:=q0d h;have hy:=hv y (List.mem_of_mem_drop (i:=i) (by simp_all));have ih:=y3m hn l hl hv a7 a9 a11 suf (i+1) (q03 h);apply y7c;rw[q08 h,cT,q04 h,qbl hy,bS,qdv hy.tr hn,bS,y5z _ hy.heard hy.msgs hn,bS,q01 (by omega),ih,q7k];by_cases e:y.Node=(i:Int);·rw[e,q0i];cases q2y y<;>cases insB y.Trust n<;>cases q7n n y.Heard<;>simp
  .rw[q1i e];grind
theorem q6i{z:Int}{n:Nat}:leB ((2^n:Nat):Int) z=!decide (z<((2^n:Nat):Int)):=by unfold leB;grind
theorem qhu{z:Int}:ltB z 0=!decide (0<=z):=by unfold ltB;grind
theorem qi9{m:Meeting}(h:SmallMt m):z5v m=some (q5q m):=by
 apply yfy;unfold q5q;by_cases h1:1<=m.Voters.length;case neg=>rw[q02 (by omega),cT,decide_eq_false (p:=q5z m) (fun g=>h1 g.1)];rfl
 rw[q00 (by omega),cF];by_cases h2:m.Voters.length<=10;case neg=>rw[q02 (by omega),cT,decide_eq_false (p:=q5z m) (fun g=>h2 g.2.1)];rfl
 have l1:z30 m.Voters ((m.Voters.length:Nat):Int) 0 m.Voters m.Stopped m.Ill ((m.Voters.length:Nat):Int)=_:=y3m h2 m.Voters h.len h.voters m.Voters m.Stopped m.Ill m.Voters 0 rfl;have hp:=qc0 h2;rw[q00 (by omega),cF,q0j (by omega),q0j (by omega),shlN h2,q6i,q6i,qhu,qhu,l1];by_cases h3:0<=m.Ill;case neg=>grind
 by_cases h4:m.Ill<((2^m.Voters.length:Nat):Int);case neg=>grind
 by_cases h5:0<=m.Stopped;case neg=>grind
 by_cases h6:m.Stopped<((2^m.Voters.length:Nat):Int);case neg=>grind
 have ha:andI .i64 m.Ill m.Stopped=((m.Ill.toNat&&&m.Stopped.toNat:Nat):Int):=by have:=q62 (a:=m.Ill.toNat) (b:=m.Stopped.toNat) (by omega) (by omega);grind
 rw[ha,decide_eq_true h3,decide_eq_true h4,decide_eq_true h5,decide_eq_true h6];simp only[nT,cF];by_cases h7:m.Ill.toNat&&&m.Stopped.toNat=0;·rw[decide_eq_true (p:=q5z m) ⟨h1,h2,⟨h3,h4⟩,⟨h5,h6⟩,h7⟩,h7,show(((0:Nat):Nat):Int)=0 from rfl,q0i,cF];rfl
 .rw[q1i (by omega),cT,decide_eq_false (p:=q5z m) (fun g=>h7 g.2.2.2.2)];rfl
theorem qwa{n:Nat}(hn:n<=10)(l:List Message)(hl:l.length<1000000)(hm:∀m∈l,SmallM m){a2 a14:List Voter}{a4 a6 a16 a18 a20 a22 a24:Int}{a26:List Int}{a28:List Trust}{a30 a32 a34:List Claim}{a36:List Message}{R:Bool}(hR:z3n (n:Int) a2 a4 (addI .i64 a6 1) a14 a16 a18=some R):∀(suf:List Message)(i:Nat),l.drop i=suf->z4a (n:Int) a2 a4 a6 l ((l.length:Nat):Int) (i:Int) a14 a16 a18 a20 a22 a24 a26 a28 a30 a32 a34 a36=some (q7n n suf&&R)
 |[],i,h=>by apply y94;rw[q0f h,cF,hR];rfl|y::suf,i,h=>by
  have hlt:=q0d h;have hy:=hm y (List.mem_of_mem_drop (i:=i) (by simp_all));apply y94;rw[q08 h,cT,q04 h,q0j (by omega),qtk _ hy.tr,bS,shlN hn,q6i,q01 (by omega),qwa hn l hl hm hR suf (i+1) (q03 h)];have e1:leB (n:Int) y.Node=!decide (y.Node<(n:Int)):=by unfold leB;grind
  have e2:decide (((uses y.Trust:Nat):Int)<((2^n:Nat):Int))=insB y.Trust n:=by unfold insB;grind
  rw[e1,e2];simp only[q7n,List.all_cons];cases decide (y.Node<(n:Int))<;>cases insB y.Trust n<;>simp
theorem y49{n:Nat}(hn:n<=10)(l:List Voter)(hl:l.length<1000000)(hv:∀v∈l,SmallV v)(a8:List Voter)(a10 a12:Int):∀(suf:List Voter)(i:Nat),l.drop i=suf->z3n (n:Int) l ((l.length:Nat):Int) (i:Int) a8 a10 a12=some (q7k n i suf)
 |[],i,h=>by apply y8a;rw[q0f h];rfl|y::suf,i,h=>by
  have hlt:=q0d h;have hy:=hv y (List.mem_of_mem_drop (i:=i) (by simp_all));have ih:=y49 hn l hl hv a8 a10 a12 suf (i+1) (q03 h);have hd:=hy.heard;have l2:z4a (n:Int) l ((l.length:Nat):Int) (i:Int) y.Heard ((y.Heard.length:Nat):Int) 0 a8 a10 a12 y.Node y.Seq y.Trust.Threshold y.Trust.Nodes y.Trust.Inner y.Votes y.Accepts y.Confirms y.Heard=_:=qwa hn y.Heard hd hy.msgs (by rw[q01 (by omega)];omega) y.Heard 0 rfl;have e2:decide (((uses y.Trust:Nat):Int)<((2^n:Nat):Int))=insB y.Trust n:=by unfold insB;grind
  apply y8a;rw[q08 h,cT,q04 h,qwr hy,bS,q0j (by omega),qtk _ hy.tr,bS,shlN hn,q6i,e2,l2,q7k];by_cases e:y.Node=(i:Int);·rw[e,q0i];cases q2y y<;>cases insB y.Trust n<;>simp
  .rw[q1i e];cases q2y y<;>simp[e]
theorem qt8{m:Meeting}(h:SmallMt m):z7c m=some (q5q m):=by
 apply ycy;unfold q5q;by_cases h1:1<=m.Voters.length;case neg=>rw[q02 (by omega),cT,decide_eq_false (p:=q5z m) (fun g=>h1 g.1)];rfl
 rw[q00 (by omega),cF];by_cases h2:m.Voters.length<=10;case neg=>rw[q02 (by omega),cT,decide_eq_false (p:=q5z m) (fun g=>h2 g.2.1)];rfl
 have l1:z3n ((m.Voters.length:Nat):Int) m.Voters ((m.Voters.length:Nat):Int) 0 m.Voters m.Stopped m.Ill=_:=y49 h2 m.Voters h.len h.voters m.Voters m.Stopped m.Ill m.Voters 0 rfl;have hp:=qc0 h2;rw[q00 (by omega),cF,q0j (by omega),q0j (by omega),shlN h2,q6i,q6i,qhu,qhu,l1];by_cases h3:0<=m.Ill;case neg=>grind
 by_cases h4:m.Ill<((2^m.Voters.length:Nat):Int);case neg=>grind
 by_cases h5:0<=m.Stopped;case neg=>grind
 by_cases h6:m.Stopped<((2^m.Voters.length:Nat):Int);case neg=>grind
 have ha:andI .i64 m.Ill m.Stopped=((m.Ill.toNat&&&m.Stopped.toNat:Nat):Int):=by have:=q62 (a:=m.Ill.toNat) (b:=m.Stopped.toNat) (by omega) (by omega);grind
 rw[ha,decide_eq_true h3,decide_eq_true h4,decide_eq_true h5,decide_eq_true h6];simp only[nT,cF];by_cases h7:m.Ill.toNat&&&m.Stopped.toNat=0;·rw[decide_eq_true (p:=q5z m) ⟨h1,h2,⟨h3,h4⟩,⟨h5,h6⟩,h7⟩,h7,show(((0:Nat):Nat):Int)=0 from rfl,q0i,cF];rfl
 .rw[q1i (by omega),cT,decide_eq_false (p:=q5z m) (fun g=>h7 g.2.2.2.2)];rfl
def pairK(k:Int):Bool:=decide (k=2\/k=5)
def mGone(m:Meeting)(p:Play):Bool:=if pairK p.Kind=true then has (m.Ill.toNat|||m.Stopped.toNat) p.To else has m.Stopped.toNat p.From
def mAsk(m:Meeting)(p:Play):Int:=if q5q m=false\/p.Kind<1\/5<p.Kind\/p.From<0\/(m.Voters.length:Int)<=p.From then 1 else if pairK p.Kind=true/\(p.To<0\/(m.Voters.length:Int)<=p.To\/p.To=p.From)then 1 else if has m.Ill.toNat p.From≠decide (p.Kind=5)then 13 else if mGone m p=true then 13 else 0
noncomputable def mChg(m:Meeting)(p:Play):Int×Voter×Int:=if p.Kind=1 then(p.From,(voteV (atV m.Voters p.From.toNat) p.Claim).1,(voteV (atV m.Voters p.From.toNat) p.Claim).2)else if p.Kind=2 then(p.To,(hearV (atV m.Voters p.To.toNat) (say (atV m.Voters p.From.toNat))).1,(hearV (atV m.Voters p.To.toNat) (say (atV m.Voters p.From.toNat))).2)else if p.Kind=3 then if verr p.Trust≠0 then(0,atV m.Voters p.From.toNat,verr p.Trust)else if insB p.Trust m.Voters.length=false then(0,atV m.Voters p.From.toNat,5)else(p.From,(declV (atV m.Voters p.From.toNat) p.Trust).1,(declV (atV m.Voters p.From.toNat) p.Trust).2)else if p.Kind=5 then if p.Message.Node≠p.From then(0,atV m.Voters p.From.toNat,8)else if msgB p.Message=false then(0,atV m.Voters p.From.toNat,1)else if insB p.Message.Trust m.Voters.length=false then(0,atV m.Voters p.From.toNat,5)else(p.To,(hearV (atV m.Voters p.To.toNat) p.Message).1,(hearV (atV m.Voters p.To.toNat) p.Message).2)else(p.From,atV m.Voters p.From.toNat,0)
def qrp:Meeting:=⟨[],0,0⟩
noncomputable def stepM(m:Meeting)(p:Play):Meeting×Int:=if mAsk m p≠0 then(qrp,mAsk m p)else if(mChg m p).2.2≠0 then(qrp,(mChg m p).2.2)else(⟨m.Voters.set (mChg m p).1.toNat (mChg m p).2.1,if p.Kind=4 then((m.Stopped.toNat|||2^p.From.toNat:Nat):Int)else m.Stopped,m.Ill⟩,0)
structure SmallP(p:Play):Prop where
 tr:Small p.Trust
 msg:SmallM p.Message
theorem yap(k:Int):z3q k=some (pairK k):=by
 apply yg7;unfold pairK;by_cases h:k=2;·subst h;rfl
 .rw[q0o h,cF];simp[eqB,h]
theorem q46{m:Meeting}:q5q m=true↔(1<=m.Voters.length/\m.Voters.length<=10/\(0<=m.Ill/\m.Ill<((2^m.Voters.length:Nat):Int))/\(0<=m.Stopped/\m.Stopped<((2^m.Voters.length:Nat):Int))/\m.Ill.toNat&&&m.Stopped.toNat=0)/\q7k m.Voters.length 0 m.Voters=true:=by unfold q5q;simp
theorem q4y{n:Nat}:∀{l:List Voter}{k:Nat},q7k n k l=true↔∀i,i<l.length->(atV l i).Node=((k+i:Nat):Int)/\q2y (atV l i)=true/\uses (atV l i).Trust<2^n/\∀x∈(atV l i).Heard,x.Node<(n:Int)/\uses x.Trust<2^n
 |[],k=>by simp[q7k]|v::r,k=>by
  have ih:=q4y (n:=n) (l:=r) (k:=k+1);have hh:q7n n v.Heard=true↔∀x∈v.Heard,x.Node<(n:Int)/\uses x.Trust<2^n:=by unfold q7n insB;simp
  rw[q7k,aT,aT,aT,aT,ih,hh,dT',insB,dT'];constructor;·rintro⟨h1,h2,h3,h4,h5⟩i hi;cases i with|zero=>exact⟨h1,h2,h3,h4⟩|succ i=>have:=h5 i (by simp_all);rw[show k+(i+1)=k+1+i by omega];exact this
  .intro h;obtain⟨h1,h2,h3,h4⟩:=h 0 (by simp);refine⟨h1,h2,h3,h4,fun i hi=>?_⟩;have:=h (i+1) (by simp_all);rw[show k+1+i=k+(i+1)by omega];exact this
theorem ya5{m:Meeting}(h:SmallMt m)(p:Play):z6p m p=some (mAsk m p):=by apply ye1;rw[qi9 h,bS];unfold mAsk;cases hv:q5q m with|false=>rfl|true=>
  obtain⟨⟨_,h2,⟨h3,h4⟩,⟨h5,h6⟩,_⟩,_⟩:=q46.1 hv;have hp:=qc0 h2;simp only[nT,cF,Bool.true_eq_false,false_or];by_cases k1:p.Kind<1;·rw[q02 k1,if_pos (.inl k1)];rfl
  by_cases k2:5<p.Kind;·rw[q00 (by omega),q02 k2,if_pos (.inr (.inl k2))];rfl
  by_cases k3:p.From<0;·rw[q00 (by omega),q00 (by omega),q02 k3,if_pos (.inr (.inr (.inl k3)))];rfl
  by_cases k4:(m.Voters.length:Int)<=p.From;·rw[q00 (by omega),q00 (by omega),q00 (by omega),show leB ((m.Voters.length:Nat):Int) p.From=true by unfold leB;simp_all,if_pos (.inr (.inr (.inr k4)))];rfl
  rw[q00 (by omega),q00 (by omega),q00 (by omega),show leB ((m.Voters.length:Nat):Int) p.From=false by unfold leB;simp_all,if_neg (by omega),yap,bS];have e1:z1t m.Ill p.From=some (has m.Ill.toNat p.From):=by have:=q1e (s:=m.Ill.toNat) (by omega) p.From;grind
  have e2:z1t m.Stopped p.From=some (has m.Stopped.toNat p.From):=by have:=q1e (s:=m.Stopped.toNat) (by omega) p.From;grind
  have e3:z1t (orI .i64 m.Ill m.Stopped) p.To=some (has (m.Ill.toNat|||m.Stopped.toNat) p.To):=by have ho:=q47 (a:=m.Ill.toNat) (b:=m.Stopped.toNat) (by omega) (by omega);rw[Int.toNat_of_nonneg h3,Int.toNat_of_nonneg h5]at ho;rw[ho];exact q1e (Nat.or_lt_two_pow (n:=10) (by omega) (by omega)) p.To
  have e4:eqB p.Kind 5=decide (p.Kind=5):=rfl;rw[e1,e2,e3,e4];unfold mGone;simp only[bS,cF];cases hk:pairK p.Kind with|true=>
   simp only[cT,true_and,if_true];by_cases t1:p.To<0;·rw[q02 t1,if_pos (.inl t1)];rfl
   by_cases t2:(m.Voters.length:Int)<=p.To;·rw[q00 (by omega),show leB ((m.Voters.length:Nat):Int) p.To=true by unfold leB;simp;omega,if_pos (.inr (.inl t2))];rfl
   by_cases t3:p.To=p.From;·rw[q00 (by omega),show leB ((m.Voters.length:Nat):Int) p.To=false by unfold leB;simp;omega,t3,q0m,if_pos (.inr (.inr rfl))];rfl
   rw[q00 (by omega),show leB ((m.Voters.length:Nat):Int) p.To=false by unfold leB;simp;omega,q0o t3,if_neg (by omega)];grind|false=>grind
theorem q4j{m:Meeting}{p:Play}(h:mAsk m p=0):q5q m=true/\1<=p.Kind/\p.Kind<=5/\0<=p.From/\p.From<(m.Voters.length:Int)/\(pairK p.Kind=true->0<=p.To/\p.To<(m.Voters.length:Int)/\p.To≠p.From/\has (m.Ill.toNat|||m.Stopped.toNat) p.To=false)/\has m.Ill.toNat p.From=decide (p.Kind=5)/\(pairK p.Kind=false->has m.Stopped.toNat p.From=false):=by
 unfold mAsk at h;split at h;·cases h
 .rename_i h1;split at h;·cases h
  .rename_i h2;split at h;·cases h
   .rename_i h3;split at h;·cases h
    .rename_i h4;have hv:q5q m=true:=by simp_all
     refine⟨hv,by omega,by omega,by omega,by omega,fun hk=>?_,by simp_all,fun hk=>?_⟩;·unfold mGone at h4;simp_all
     .unfold mGone at h4;simp_all
theorem yan{m:Meeting}(h:SmallMt m){p:Play}(hp:SmallP p)(ha:mAsk m p=0):z63 m p=some (mChg m p):=by
 obtain⟨hv,k1,k2,f1,f2,ht,_,_⟩:=q4j ha;obtain⟨⟨_,h2,_⟩,hvs⟩:=q46.1 hv;have gf:m.Voters[p.From.toNat]?=some (atV m.Voters p.From.toNat):=q4t (by omega);have vf:=q4y.1 hvs p.From.toNat (by omega);have sf:=h.voters _ (List.mem_of_getElem? gf);have rf:=(q0x.1 vf.2.1).1;apply yef;rw[q0t f1 gf];unfold mChg;by_cases e1:p.Kind=1;·rw[if_pos e1,e1,q0m,cT,qz9 sf,bS,q2b]
 rw[if_neg e1,q0o e1,cF];by_cases e2:p.Kind=2;·have ht:=ht (by rw[e2];rfl);have gt:m.Voters[p.To.toNat]?=some (atV m.Voters p.To.toNat):=q4t (by omega);have st:=h.voters _ (List.mem_of_getElem? gt);rw[if_pos e2,e2,q0m,cT,q0t ht.1 gt,y6f (q38 rf.tr).1 sf.votes sf.accs,bS,qrf st (q2f rf.say),bS,q2b]
 rw[if_neg e2,q0o e2,cF];by_cases e3:p.Kind=3
 .rw[if_pos e3,e3,q0m,cT,q8v _ hp.tr,bS,q2b];by_cases z:verr p.Trust=0;·rw[z,q0i,cF,if_neg (by simp),qdv hp.tr h2,bS,y3d sf hp.tr,bS,q2b];cases insB p.Trust m.Voters.length<;>simp
  .rw[q1i z,cT,if_pos z]
 rw[if_neg e3,q0o e3,cF];by_cases e5:p.Kind=5
 .have ht:=ht (by rw[e5];rfl);have gt:m.Voters[p.To.toNat]?=some (atV m.Voters p.To.toNat):=q4t (by omega);have st:=h.voters _ (List.mem_of_getElem? gt);rw[if_pos e5,e5,q0m,cT,q0t ht.1 gt,qce hp.msg,bS,q2b,qdv hp.msg.tr h2,bS,qrf st hp.msg,bS,q2b];by_cases z:p.Message.Node=p.From;·rw[z,q0i,cF,if_neg (by simp)];cases msgB p.Message<;>cases insB p.Message.Trust m.Voters.length<;>simp
  .rw[q1i z,cT,if_pos z]
 rw[if_neg e5,q0o e5,cF,q2b]
theorem y29{m:Meeting}{p:Play}(ha:mAsk m p=0)(h0:(mChg m p).2.2=0):(mChg m p).1=(if pairK p.Kind=true then p.To else p.From):=by
 obtain⟨hv,k1,k2,f1,f2,ht,_,_⟩:=q4j ha;unfold mChg at h0⊢;by_cases e1:p.Kind=1;·rw[if_pos e1,e1];rfl
 rw[if_neg e1]at h0⊢;by_cases e2:p.Kind=2;·rw[if_pos e2,e2];rfl
 rw[if_neg e2]at h0⊢;by_cases e3:p.Kind=3
 .rw[if_pos e3]at h0⊢;by_cases z:verr p.Trust=0
  .rw[if_neg (by simpa using z)]at h0⊢;by_cases y:insB p.Trust m.Voters.length=false;·rw[if_pos y]at h0;cases h0
   .rw[if_neg y,e3];rfl
  .rw[if_pos z]at h0;exact absurd h0 z
 rw[if_neg e3]at h0⊢;by_cases e5:p.Kind=5
 .rw[if_pos e5]at h0⊢;by_cases z:p.Message.Node=p.From
  .rw[if_neg (by simpa using z)]at h0⊢;by_cases y:msgB p.Message=false;·rw[if_pos y]at h0;cases h0
   .rw[if_neg y]at h0⊢;by_cases x:insB p.Message.Trust m.Voters.length=false;·rw[if_pos x]at h0;cases h0
    .rw[if_neg x,e5];rfl
  .rw[if_pos z]at h0;cases h0
 rw[if_neg e5];have:pairK p.Kind=false:=by unfold pairK;simp[e2,e5]
 simp_all
theorem qxb(l:List Voter)(hl:l.length<1000000):z3a l=some ((),l):=yed _ _ (by rw[q07 (by simp[q06];omega)];rfl)
theorem qvk{m:Meeting}(h:SmallMt m){p:Play}(hp:SmallP p):z5f m p=some (stepM m p):=by
 apply yg6;rw[ya5 h,bS,stepM];by_cases ha:mAsk m p=0;case neg=>rw[q1i ha,cT,if_pos ha];rfl
 rw[ha,q0i,cF,if_neg (by simp),yan h hp ha,bS];by_cases h0:(mChg m p).2.2=0;case neg=>rw[q1i h0,cT,if_pos h0];rfl
 obtain⟨hv,k1,k2,f1,f2,ht,_,_⟩:=q4j ha;obtain⟨⟨_,h2,_,⟨h5,h6⟩,_⟩,_⟩:=q46.1 hv;have hpw:=qc0 h2;have hat:=y29 ha h0;have hx:0<=(mChg m p).1/\(mChg m p).1<(m.Voters.length:Int):=by grind
 have gx:m.Voters[(mChg m p).1.toNat]?=some (atV m.Voters (mChg m p).1.toNat):=q4t (by omega);rw[h0,q0i,cF,if_neg (by simp),qxb _ h.len,bS];dsimp only;rw[q0t hx.1 gx];simp only[nthN,gx,q2b];by_cases e4:p.Kind=4
 .have hf:p.From=((p.From.toNat:Nat):Int):=by omega
  rw[if_pos e4,e4,q0m,cT,q0j f1];have hs:shlI .i64 1 p.From=((2^p.From.toNat:Nat):Int):=by rw[shl1 (by omega) (by omega)]
  have hpf:2^p.From.toNat<=2^10:=Nat.pow_le_pow_right (by decide) (by omega);have ho:orI .i64 m.Stopped ((2^p.From.toNat:Nat):Int)=((m.Stopped.toNat|||2^p.From.toNat:Nat):Int):=by have:=q47 (a:=m.Stopped.toNat) (b:=2^p.From.toNat) (by omega) (by omega);rw[Int.toNat_of_nonneg h5]at this;exact this
  grind
 .rw[if_neg e4,q0o e4,cF]
theorem qpa:∀t:Trust,Fits t->z4y t=some t:=by
 apply Trust.ind;intro t ih ht;have hsz:size t<1073741824:=ht;rw[q48]at hsz;have l1:∀(suf:List Trust)(i:Nat)(acc:List Trust)(a8:Int)(a10:List Int)(a12:List Trust)(a14:Int)(a16:List Int)(a18:List Trust)(a20:Int)(a22:List Int),t.Inner.drop i=suf->acc.length<=i->z3t t.Inner ((t.Inner.length:Nat):Int) (i:Int) a8 a10 a12 a14 a16 a18 a20 a22 acc=some ⟨a20,a22,acc++suf⟩:=by intro suf;induction suf with|nil=>intro i acc a8 a10 a12 a14 a16 a18 a20 a22 h ha;apply y8e;simp only[q0f h,cF,List.append_nil]|cons y suf ihs=>intro i acc a8 a10 a12 a14 a16 a18 a20 a22 h ha;have hlt:=q0d h;have hy:y∈t.Inner:=List.mem_of_mem_drop (by rw[h];exact List.mem_cons_self);apply y8e;simp only[q08 h,cT,q04 h,ih y hy (ht.mem hy),bS,q01 (show i<4611686018427387904 by omega),Trust.etaM];rw[q07 (by simp[q06];omega),ihs (i+1) (acc++[y]) _ _ _ _ _ _ _ _ (q03 h) (by simp;omega)];simp
 apply ycf;have h1:z22 t.Nodes=some ((),t.Nodes):=y77 _ _ (by rw[q07 (by simp[q06];omega)];rfl);rw[h1,bS,show(0:Int)=((0:Nat):Int)from rfl,l1 t.Inner 0 [] _ _ _ _ _ _ _ _ rfl (Nat.le_refl _)];simp
theorem qt6{m:Message}(ht:Fits m.Trust)(h1:m.Votes.length<1000000)(h2:m.Accepts.length<1000000):z3g m=some m:=by apply yg5;rw[qpa _ ht,bS,q3d _ h1,bS,q3d _ h2,bS,Trust.etaM]
theorem qps(l:List Message)(hl:l.length<1000000)(hm:∀m∈l,z3g m=some m){a3 a15 a21:List Voter}{a5 a7 a17 a19 a23 a25:Int}(ha:a15.length<1000000){n s t:Int}{ns:List Int}{is:List Trust}{va aa ca:List Claim}{R:Meeting}:∀(suf:List Message)(i:Nat)(acc:List Message),l.drop i=suf->acc.length<=i->z31 a3 a5 (addI .i64 a7 1) (a15++[Voter.mk n s ⟨t,ns,is⟩ va aa ca (acc++suf)]) a17 a19 a21 a23 a25=some R->z3s a3 a5 a7 l ((l.length:Nat):Int) (i:Int) a15 a17 a19 a21 a23 a25 n s t ns is va aa ca acc=some R|[],i,acc,h,hac,hR=>by apply y7a;rw[q0f h,cF,q07 (by simp[q06];omega)];simp_all|m::suf,i,acc,h,hac,hR=>by have hlt:=q0d h;apply y7a;rw[q08 h,cT,q04 h,hm m (List.mem_of_mem_drop (i:=i) (by simp_all)),bS,ql8,q07 (by simp[q06];omega),q01 (by omega)];exact qps l hl hm ha suf (i+1) (acc++[m]) (q03 h) (by simp_all) (by simp_all)
structure FreshA(v:Voter):Prop where
 tr:Fits v.Trust
 votes:v.Votes.length<1000000
 accs:v.Accepts.length<1000000
 confs:v.Confirms.length<1000000
 heard:v.Heard.length<1000000
 msgs:∀m∈v.Heard,z3g m=some m
theorem qr4(l:List Voter)(hl:l.length<1000000)(hf:∀v∈l,FreshA v)(a10 a12 a16 a18:Int)(a14:List Voter):∀(suf:List Voter)(i:Nat)(acc:List Voter),l.drop i=suf->acc.length<=i->z31 l ((l.length:Nat):Int) (i:Int) acc a10 a12 a14 a16 a18=some ⟨acc++suf,a10,a12⟩
 |[],i,acc,h,ha=>by apply y8p;rw[q0f h,cF,List.append_nil]|y::suf,i,acc,h,ha=>by
  have hlt:=q0d h;have hy:=hf y (List.mem_of_mem_drop (i:=i) (by simp_all));apply y8p;rw[q08 h,cT,q04 h,qpa _ hy.tr,bS,q3d _ hy.votes,bS,q3d _ hy.accs,bS,q3d _ hy.confs,bS];dsimp only;refine qps y.Heard hy.heard hy.msgs (by omega) y.Heard 0 [] rfl (Nat.le_refl _) ?_;have hv:Voter.mk y.Node y.Seq ⟨y.Trust.Threshold,y.Trust.Nodes,y.Trust.Inner⟩ y.Votes y.Accepts y.Confirms ([]++y.Heard)=y:=by simp
  rw[hv,q01 (by omega),qr4 l hl hf a10 a12 a16 a18 a14 suf (i+1) (acc++[y]) (q03 h) (by simp_all)];simp
theorem qz7{m:Meeting}(h:m.Voters.length<1000000)(hf:∀v∈m.Voters,FreshA v):z4v m=some m:=by apply yb9;have:=qr4 m.Voters h hf m.Stopped m.Ill 0 0 [] m.Voters 0 [] rfl (Nat.le_refl _);exact this
theorem y01{m:Message}(h:msgB m=true):z3g m=some m:=qt6 (q38 (q2q.1 h).2.2.1).1 (q2f h).votes (q2f h).accs
theorem Ready.freshA{v:Voter}(h:Ready v):FreshA v:=⟨(q38 h.tr).1,by have:=h.vlen;omega,by have:=h.alen;omega,by have:=h.clen;omega,by have:=h.hlen;omega,fun m hm=>y01 (h.msg m hm).1⟩
theorem qv0{S:List Voter}{b:Nat}(h:b<S.length):S.set b (atV S b)=S:=by
 apply List.ext_getElem?;intro i;rw[List.getElem?_set];by_cases e:b=i;·subst e;have:=q4t h;rw[if_pos rfl,if_pos h,this]
 simp_all
def Move(m:Meeting)(p:Play)(v u:Voter):Prop:=(p.Kind=1/\vcl p.Claim=true/\(∀y∈v.Votes++v.Accepts,¬Contra p.Claim y)/\u={v with Votes:=q16 (v.Votes++[p.Claim])})\/(p.Kind=2/\oldB v.Heard (say (atV m.Voters p.From.toNat))=false/\u={v with Heard:=hearL (say (atV m.Voters p.From.toNat)) v.Heard})\/(p.Kind=3/\valid p.Trust=true/\uses p.Trust<2^m.Voters.length/\u={v with Trust:=p.Trust})\/(p.Kind=5/\msgB p.Message=true/\p.Message.Node=p.From/\uses p.Message.Trust<2^m.Voters.length/\oldB v.Heard p.Message=false/\u={v with Heard:=hearL p.Message v.Heard})
def whoP(p:Play):Nat:=(if pairK p.Kind=true then p.To else p.From).toNat
noncomputable def stopP(m:Meeting)(p:Play):Int:=if p.Kind=4 then((m.Stopped.toNat|||2^p.From.toNat:Nat):Int)else m.Stopped
theorem qao{m:Meeting}{p:Play}(h:(stepM m p).2=0):mAsk m p=0/\∃w,(stepM m p).1=⟨m.Voters.set (whoP p) w,stopP m p,m.Ill⟩/\(w=atV m.Voters (whoP p)/\(p.Kind=1->p.Claim∈w.Votes)/\p.Kind≠2/\p.Kind≠5\/∃u,Move m p (atV m.Voters (whoP p)) u/\w=turnV (atV m.Voters (whoP p)) u):=by
 unfold stepM at h⊢;by_cases ha:mAsk m p=0;case neg=>rw[if_pos ha]at h;exact absurd h ha
 rw[if_neg (by simpa using ha)]at h⊢;by_cases h0:(mChg m p).2.2=0;case neg=>rw[if_pos h0]at h;exact absurd h h0
 rw[if_neg (by simpa using h0)];have hat:=y29 ha h0;refine⟨ha,(mChg m p).2.1,by rw[whoP,<-hat];rfl,?_⟩;obtain⟨hv,k1,k2,f1,f2,ht,_,_⟩:=q4j ha;obtain⟨_,hvs⟩:=q46.1 hv;unfold whoP;unfold mChg at h0⊢;by_cases e1:p.Kind=1
 .have hk:pairK p.Kind=false:=by rw[e1];rfl
  rw[if_pos e1]at h0⊢;dsimp only at h0⊢;rw[hk,if_neg (by simp)];unfold voteV at h0⊢;split at h0;·cases h0
  .rename_i g1;split at h0;·cases h0
   .rename_i g2;rw[if_neg g1,if_neg g2];split;·rename_i g3;exact .inl ⟨rfl,fun _=>g3,by omega,by omega⟩
    .refine .inr ⟨_,.inl ⟨e1,?_,fun y hy hc=>g2 ⟨y,hy,hc⟩,rfl⟩,rfl⟩;cases hx:vcl p.Claim with|true=>rfl|false=>exact absurd (.inr hx) g1
 rw[if_neg e1]at h0⊢;by_cases e2:p.Kind=2
 .have hk:pairK p.Kind=true:=by rw[e2];rfl
  rw[if_pos e2]at h0⊢;dsimp only at h0⊢;rw[hk,if_pos rfl];obtain⟨g1,g2,g3⟩:=qeq h0;have vt:=q4y.1 hvs p.To.toNat (by have:=ht hk;omega);rw[qal vt.2.1 g1 g2 g3];exact .inr ⟨_,.inr (.inl ⟨e2,g3,rfl⟩),rfl⟩
 rw[if_neg e2]at h0⊢;by_cases e3:p.Kind=3
 .have hk:pairK p.Kind=false:=by rw[e3];rfl
  rw[if_pos e3]at h0⊢;by_cases z:verr p.Trust=0;case neg=>rw[if_pos z]at h0;exact absurd h0 z
  rw[if_neg (by simpa using z)]at h0⊢;by_cases y:insB p.Trust m.Voters.length=false;case pos=>rw[if_pos y]at h0;cases h0
  rw[if_neg y]at h0⊢;dsimp only at h0⊢;rw[hk,if_neg (by simp)];have vf:=q4y.1 hvs p.From.toNat (by omega);have y':uses p.Trust<2^m.Voters.length:=by unfold insB at y;simpa using y
  unfold declV;rw[if_neg (by rw[vf.2.1];simp),if_neg (by simpa using z)];split;·exact .inl ⟨rfl,fun e=>absurd e e1,e2,by omega⟩
  .exact .inr ⟨_,.inr (.inr (.inl ⟨e3,(q66 _).1 z,y',rfl⟩)),rfl⟩
 rw[if_neg e3]at h0⊢;by_cases e5:p.Kind=5
 .have hk:pairK p.Kind=true:=by rw[e5];rfl
  rw[if_pos e5]at h0⊢;by_cases z:p.Message.Node=p.From;case neg=>rw[if_pos z]at h0;cases h0
  rw[if_neg (by simpa using z)]at h0⊢;by_cases y:msgB p.Message=false;case pos=>rw[if_pos y]at h0;cases h0
  rw[if_neg y]at h0⊢;by_cases x:insB p.Message.Trust m.Voters.length=false;case pos=>rw[if_pos x]at h0;cases h0
  rw[if_neg x]at h0⊢;dsimp only at h0⊢;rw[hk,if_pos rfl];obtain⟨g1,g2,g3⟩:=qeq h0;have vt:=q4y.1 hvs p.To.toNat (by have:=ht hk;omega);have x':uses p.Message.Trust<2^m.Voters.length:=by unfold insB at x;simpa using x
  rw[qal vt.2.1 g1 g2 g3];exact .inr ⟨_,.inr (.inr (.inr ⟨e5,g1,z,x',g3,rfl⟩)),rfl⟩
 rw[if_neg e5];have hk:pairK p.Kind=false:=by unfold pairK;simp[e2,e5]
 simp_all
structure PlayOk(P:Lay)(p:Play):Prop where
 vote:p.Kind=1->P.Cl p.Claim
 decl:p.Kind=3->P.T p.From.toNat p.Trust
 lie:p.Kind=5->∀y,y∈p.Message.Votes\/y∈p.Message.Accepts->P.Cl y
theorem qv8{P:Lay}{q:Nat}{S:List Voter}(hS:MtI P q S){a:Nat}(ha:a<P.N):Told P S (say (atV S a)):=by
 have A:=hS.all a ha;have hn:(say (atV S a)).Node=(a:Int):=A.node;refine⟨by omega,A.ins,A.cl,fun b hb he=>?_⟩;have:a=b:=by omega
 subst this;exact⟨A.tru hb,fun _ h=>h,fun _ h=>h,Int.le_refl _,fun _=>rfl⟩
theorem qsu{P:Lay}{q:Nat}{S:List Voter}(hS:MtI P q S){b:Nat}(hb:b<P.N){m:Message}(hm:msgB m=true)(hne:m.Node≠(b:Int))(ht:Told P S m):Up P S b {atV S b with Heard:=hearL m (atV S b).Heard}:=by
 have B:=hS.all b hb;obtain⟨hr,hc⟩:=q0x.1 B.valid;refine⟨hr.withH hm (by rw[B.node];omega),hc,B.node,rfl,fun _ h=>h,rfl,rfl,B.tru,B.ins,fun y hy=>B.cl y (.inl hy),fun x hx=>?_⟩;rcases qid hx with e|e;·simp_all
 .exact B.told x e
theorem y9n{P:Lay}{q:Nat}{m:Meeting}(hS:MtI P q m.Voters){p:Play}(hp:PlayOk P p)(hG:∀a:Nat,P.G a->has m.Ill.toNat (a:Int)=false)(ha:mAsk m p=0){u:Voter}(hu:Move m p (atV m.Voters (whoP p)) u):Up P m.Voters (whoP p) u/\whoP p<P.N:=by
 obtain⟨hv,k1,k2,f1,f2,ht,hi,hg⟩:=q4j ha;have hl:=hS.len;have hwN:whoP p<P.N:=by unfold whoP;grind
 refine⟨?_,hwN⟩;have B:=hS.all _ hwN;obtain⟨hr,hc⟩:=q0x.1 B.valid;rcases hu with⟨e,x1,x2,rfl⟩|⟨e,x1,rfl⟩|⟨e,x1,x2,rfl⟩|⟨e,x1,x2,x3,x4,rfl⟩
 .have hmp:=fun y=>qg7 (y:=y) (q0y.1 hr.votes).1 x1;refine⟨hr.withV p.Claim,?_,B.node,rfl,fun y hy=>(hmp y).2 (.inl hy),rfl,rfl,B.tru,B.ins,fun y hy=>?_,B.told⟩
  .have:consC ((atV m.Voters (whoP p)).Votes++[p.Claim])=true:=by rw[qfx hc,dT'];exact fun y hy hcc=>x2 y (by simp[hy]) hcc
   rw[q5f]at this⊢;simp_all
  .rcases(hmp y).1 hy with g|g;·exact B.cl y (.inl g)
   .rw[g];exact hp.vote e
 .have hk:pairK p.Kind=true:=by rw[e];rfl
  have h1:=ht hk;have hw:whoP p=p.To.toNat:=by unfold whoP;simp_all
  have A:=hS.all p.From.toNat (by omega);exact qsu hS hwN (q0x.1 A.valid).1.say (by show(atV m.Voters p.From.toNat).Node≠_;rw[A.node];omega) (qv8 hS (by omega))
 .have hk:pairK p.Kind=false:=by rw[e];rfl
  have hw:whoP p=p.From.toNat:=by unfold whoP;simp_all
  exact⟨hr.withT x1,hc,B.node,rfl,fun _ h=>h,rfl,rfl,fun _=>by rw[hw];exact hp.decl e,by simp_all,fun y hy=>B.cl y (.inl hy),B.told⟩
 .have hk:pairK p.Kind=true:=by rw[e];rfl
  have h1:=ht hk;have hw:whoP p=p.To.toNat:=by unfold whoP;rw[hk];rfl
  refine qsu hS hwN x1 (by omega) ⟨by rw[x2];omega,by rw[<-hl];exact x3,hp.lie e,fun a ha he=>?_⟩;grind
theorem mt_up{P:Lay}{q:Nat}{S:List Voter}(hS:MtI P q S):MtI P (q+1) S:=⟨hS.len,fun b hb=>by have B:=hS.all b hb;have:=B.seq;exact⟨B.valid,B.node,B.tru,B.ins,by omega,B.cl,B.set,B.told,B.conf⟩⟩
theorem y3z{P:Lay}(hN:P.N<=10){q:Nat}(hq:q<=100000){m:Meeting}(hS:MtI P q m.Voters){p:Play}(hp:PlayOk P p)(hG:∀a:Nat,P.G a->has m.Ill.toNat (a:Int)=false)(h:(stepM m p).2=0):MtI P (q+1) (stepM m p).1.Voters/\(∀b,b<P.N->Turn (atV m.Voters b) (atV (stepM m p).1.Voters b))/\∀I,Own P I->AcI P I m.Voters->AcI P I (stepM m p).1.Voters:=by
 obtain⟨ha,w,e,hw⟩:=qao h;have hl:=hS.len;rw[e];dsimp only;rcases hw with⟨rfl,_⟩|⟨u,hu,rfl⟩
 .obtain⟨hv,k1,k2,f1,f2,ht,hi,hg⟩:=q4j ha;have hwN:whoP p<m.Voters.length:=by unfold whoP;grind
  rw[qv0 hwN];exact⟨mt_up hS,fun b _=>Turn.refl _,fun I _ hA=>hA⟩
 .obtain⟨hU,hwN⟩:=y9n hS hp hG ha hu;obtain⟨h1,h2⟩:=y39 hN hS hwN hq hU (.inl rfl);refine⟨h1,fun b hb=>?_,fun I hO hA=>y9x hN hO hA (by omega) (hS.all _ hwN).node hU⟩;rw[q5k (by omega)];by_cases e:whoP p=b;·simp_all
  .rw[if_neg e];exact Turn.refl _
theorem y4v{P:Lay}(hN:P.N<=10)(h1:1<=P.N){q:Nat}{m:Meeting}(hS:MtI P q m.Voters)(hb:(0<=m.Ill/\m.Ill<((2^P.N:Nat):Int))/\(0<=m.Stopped/\m.Stopped<((2^P.N:Nat):Int))/\m.Ill.toNat&&&m.Stopped.toNat=0):q5q m=true:=by have hl:=hS.len;refine q46.2 ⟨⟨by omega,by omega,by simp_all,by simp_all,hb.2.2⟩,q4y.2 fun i hi=>?_⟩;have B:=hS.all i (by omega);rw[hl];refine⟨by rw[Nat.zero_add];exact B.node,B.valid,B.ins,fun x hx=>?_⟩;have T:=B.told x hx;have:=T.node;exact⟨by omega,T.ins⟩
theorem qvu{P:Lay}(hN:P.N<=10){q:Nat}{S:List Voter}(hS:MtI P q S):(∀v∈S,SmallV v)/\(∀v∈S,FreshA v)/\S.length<=10:=by
 have key:∀v∈S,Ready v:=fun v hv=>by obtain⟨i,hi⟩:=List.getElem?_of_mem hv;have hlt:i<S.length:=(List.getElem?_eq_some_iff.1 hi).1;have:=(q0x.1 (hS.all i (by have:=hS.len;omega)).valid).1;rw[q4t hlt]at hi;simp_all
 exact⟨fun v hv=>(key v hv).small,fun v hv=>(key v hv).freshA,by have:=hS.len;omega⟩
def Sets2(N:Nat)(m:Meeting):Prop:=(0<=m.Ill/\m.Ill<((2^N:Nat):Int))/\(0<=m.Stopped/\m.Stopped<((2^N:Nat):Int))/\m.Ill.toNat&&&m.Stopped.toNat=0
theorem qde{m:Meeting}{p:Play}(h:(stepM m p).2=0){N:Nat}(hl:m.Voters.length=N)(hs:Sets2 N m):Sets2 N (stepM m p).1/\(stepM m p).1.Ill=m.Ill/\(stepM m p).1.Stopped.toNat=(if p.Kind=4 then m.Stopped.toNat|||2^p.From.toNat else m.Stopped.toNat):=by
 obtain⟨ha,w,e,_⟩:=qao h;obtain⟨hv,k1,k2,f1,f2,ht,hi,hg⟩:=q4j ha;obtain⟨⟨_,l10,_⟩,_⟩:=q46.1 hv;obtain⟨s1,s2,s3⟩:=hs;rw[e];unfold stopP;by_cases e4:p.Kind=4
 .have hk:pairK p.Kind=false:=by rw[e4];rfl
  have hi':m.Ill.toNat.testBit p.From.toNat=false:=by
   have:has m.Ill.toNat p.From=false:=by rw[hi,e4];rfl
   have hf:p.From=((p.From.toNat:Nat):Int):=by omega
   rw[hf,q3a (by omega)]at this;exact this
  simp only[if_pos e4];have h1:m.Stopped.toNat|||2^p.From.toNat<2^N:=Nat.or_lt_two_pow (by omega) (Nat.pow_lt_pow_right (by decide) (by omega));refine⟨⟨s1,⟨by show(0:Int)<=((m.Stopped.toNat|||2^p.From.toNat:Nat):Int);omega,by show((m.Stopped.toNat|||2^p.From.toNat:Nat):Int)<_;omega⟩,?_⟩,by first|trivial|rfl,by first|trivial|rfl⟩;show m.Ill.toNat&&&((m.Stopped.toNat|||2^p.From.toNat:Nat):Int).toNat=0;rw[tN];apply Nat.eq_of_testBit_eq;grind
 .simp only[if_neg e4];exact⟨⟨s1,s2,s3⟩,by simp,by simp⟩
theorem qze{n:Int}(h1:1<=n)(h2:n<=10){l:List Int}{i:Int}(h:q0u l i):∃t j,z79 n 2 l i=some (t,l,j)/\valid t=true/\q0u l j:=by obtain⟨t,j,g1,g2,_,g4⟩:=qvz h1 h2 1 (by decide) h;grind
structure Gone(v:Voter)(k:Nat):Prop where
 valid:q2y v=true
 seq:v.Seq<=(k:Int)+1
theorem Gone.step{v w:Voter}{k:Nat}(h:Gone v k)(hk:k<1000)(hs:Step v w):Gone w (k+1):=by have:=h.seq;have:=hs.seq;exact⟨hs.ready (by omega),by omega⟩
theorem Gone.up{v:Voter}{k:Nat}(h:Gone v k):Gone v (k+1):=⟨h.valid,by have:=h.seq;omega⟩
theorem qnh{a n:Int}(h0:0<=a)(h:a<n)(hn:n<=1000):0<=remI .i64 (addI .i64 a 1) n/\remI .i64 (addI .i64 a 1) n<n:=by rw[q27 (by omega) (by omega),show remI .i64 (a+1) n=(a+1).tmod n from rfl];exact⟨Int.tmod_nonneg n (by omega),Int.tmod_lt_of_pos _ (by omega)⟩
theorem y03{l:List Int}{i:Int}(h:q0u l i):∃x j,z7s l i=some (x,l,j)/\x.Topic≠5/\q0u l j:=by
 obtain⟨x0,i0,g0,g0',g0'x,g0''⟩:=N_ok (n:=30) (by omega) (by omega) h;by_cases e:x0=29
 .obtain⟨x1,i1,g1,m1,g1'⟩:=qfi (ps:=[-1,0,7,8]) (by decide) (by decide) g0'';obtain⟨x2,i2,g2,_,g2'⟩:=qfi (ps:=[-1,0,15,16]) (by decide) (by decide) g1';refine⟨⟨x1,x2⟩,i2,y98 _ _ _ ?_,?_,g2'⟩;·rw[g0,bS];dsimp only;rw[e,q0m,cT,g1,bS];dsimp only;rw[g2];rfl
  grind
 .obtain⟨x1,i1,g1,_,m1,g1'⟩:=N_ok (n:=3) (by omega) (by omega) g0'';obtain⟨x2,i2,g2,_,_,g2'⟩:=N_ok (n:=3) (by omega) (by omega) g1';refine⟨⟨x1,x2⟩,i2,y98 _ _ _ ?_,by show x1≠5;omega,g2'⟩;rw[g0,bS];dsimp only;rw[q0o e,cF,g1,bS];simp_all
theorem qm4{l:List Int}:∀(n:Nat)(acc:List Claim)(i:Int),n+acc.length<=1000->(∀x∈acc,x.Topic≠5)->q0u l i->∃k j,z68 acc (n:Int) l i=some (k,l,j)/\k.length<=n+acc.length/\(∀x∈k,x.Topic≠5)/\q0u l j
 |0,acc,i,ha,hx,h=>⟨acc,i,y82 _ _ _ _ _ (by rfl),by omega,hx,h⟩
 |n+1,acc,i,ha,hx,h=>by obtain⟨x,i1,g1,q1,g1'⟩:=y03 h;obtain⟨k,j,g2,g3,g4,g5⟩:=qm4 n (acc++[x]) i1 (by simp;omega) (fun y hy=>by
   rcases List.mem_append.1 hy with hy|hy;·exact hx y hy
   .simp at hy;rw[hy];exact q1) g1';refine⟨k,j,y82 _ _ _ _ _ ?_,by simp at g3;omega,g4,g5⟩;rw[q02 (by omega),cT,g1,bS,q07 (by simp[q06];omega),q2n (by omega) (by omega),show((n+1:Nat):Int)-1=(n:Int)by omega];omega
theorem qwu{l:List Int}{i:Int}(h:q0u l i):∃k j,z7u 3 l i=some (k,l,j)/\k.length<=100/\(∀x∈k,x.Topic≠5)/\q0u l j:=by obtain⟨x0,i0,g0,g0',g0'x,g0''⟩:=N_ok (n:=4) (by omega) (by omega) h;obtain⟨m,rfl⟩:∃m:Nat,x0=m:=⟨x0.toNat,by omega⟩;obtain⟨k,j,g1,g2,g3,g4⟩:=qm4 (l:=l) m [] i0 (by simp;omega) (fun _ h=>by cases h) g0'';refine⟨k,j,yfa _ _ _ _ ?_,by simp at g2;omega,g3,g4⟩;rw[q27 (by omega) (by omega),show(3:Int)+1=4 from rfl,g0,bS];omega
theorem qgj{m:Int}(h1:1<=m)(h2:m<=10){l:List Int}{i:Int}(h:q0u l i):∃t j,z5t m l i=some (t,l,j)/\valid t=true/\q0u l j:=by
 obtain⟨t,j,g1,g2,g3⟩:=qze h1 h2 h;have hs:=q28 g2;have e0:valid ⟨1,[0],[]⟩=true:=by rfl
 by_cases a1:40<(size t:Int);·refine⟨_,j,y3w _ _ _ _ ?_,e0,g3⟩;rw[g1,bS];dsimp only;rw[qfy t hs,bS,q02 a1];rfl
 .by_cases a2:3<(depth t:Int);·refine⟨_,j,y3w _ _ _ _ ?_,e0,g3⟩;rw[g1,bS];dsimp only;rw[qfy t hs,bS,q00 (by omega),cF,qbm t hs,bS,q02 a2];rfl
  .refine⟨t,j,y3w _ _ _ _ ?_,g2,g3⟩;rw[g1,bS];dsimp only;rw[qfy t hs,bS,q00 (by omega),cF,qbm t hs,bS,q00 (by omega),cF,Trust.etaM]
structure DrawnP(N:Nat)(d:Bool)(p:Play):Prop where
 small:SmallP p
 vote:p.Kind=1->p.Claim.Topic≠5
 decl:p.Kind=3->d=true/\valid p.Trust=true
 lie:∀y,y∈p.Message.Votes\/y∈p.Message.Accepts->y.Topic≠5
 fr:0<=p.From/\p.From<(N:Int)
def noT:Trust:=⟨0,[],[]⟩
def noM:Message:=⟨0,0,noT,[],[]⟩
theorem q2a:Small noT:=by unfold Small noT;rw[qb7];simp[sizes]
theorem qet:SmallM noM:=⟨q2a,by simp[noM],by simp[noM]⟩
theorem q1v{N:Nat}{d:Bool}{k f t:Int}{c:Claim}{tr:Trust}(htr:Small tr)(h1:k=1->c.Topic≠5)(h3:k=3->d=true/\valid tr=true)(hf:0<=f/\f<(N:Int)):DrawnP N d ⟨k,f,t,c,tr,noM⟩:=⟨⟨htr,qet⟩,h1,h3,(fun y hy=>by rcases hy with h|h<;>cases h),hf⟩
theorem y2v(k:Int):Small ⟨1,[k],[]⟩:=by unfold Small;rw[qb7];simp[sizes]
def qqy(N:Nat)(d:Bool)(n:Nat)(l:List Int)(r:Option (List Play×List Int×Int)):Prop:=∃out j,r=some (out,l,j)/\(∀p∈out,DrawnP N d p)/\out.length=n/\q0u l j
theorem qi0{N:Nat}(hN:1<=N)(hN2:N<=10){d:Bool}{l:List Int}{ms:List Member}{n i:Nat}(hi:i<1000){ill:Int}{acc:List Play}(hac:acc.length<1000)(again:∀p j,DrawnP N d p->q0u l j->qqy N d n l (z0w ill (n:Int) d (acc++[p]) (N:Int) (addI .i64 (i:Int) 1) l j ms)):∀(r k:Nat)(f t j:Int),k+r=N->0<=f/\f<(N:Int)->0<=t/\t<(N:Int)->q0u l j->qqy N d n l (z2x ill (n:Int) d acc (N:Int) (i:Int) (k:Int) l j ms 5 f t 0 0 0 [] [] 0 0 0 [] [] [] [])
 |0,k,f,t,j,hk,hf,ht,h=>by
  obtain⟨x0,j0,g0,a0,b0,h0⟩:=N_ok (n:=2) (by decide) (by decide) h;obtain⟨x1,j1,g1,a1,b1,h1⟩:=N_ok (n:=2) (by decide) (by decide) h0;obtain⟨x2,j2,g2,a2,b2,h2⟩:=N_ok (n:=3) (by decide) (by decide) h1;have hrem:=qnh ht.1 ht.2 (by omega);have hne:(N:Int)≠0:=by omega
  have mk:∀(T:Int)(A:List Claim),A.length<1000000->(∀y∈A,y.Topic≠5)->DrawnP N d ⟨5,f,T,⟨0,0⟩,⟨0,[],[]⟩,⟨f,mulI .i64 2 (addI .i64 (i:Int) 1),⟨1,[f],[]⟩,[⟨x0,x1⟩],A⟩⟩:=fun T A hA hA5=>⟨⟨q2a,y2v f,by simp,hA⟩,(fun e=>by simp),(fun e=>by cases e),(fun y hy=>by grind),hf⟩;by_cases e2:x2=0
  .obtain⟨x3,j3,g3,l3,q3,h3⟩:=qwu h2;have g4:=ql9 x3 (by omega);have hl4:=q6n x3;have hq4:∀y∈q16 x3,y.Topic≠5:=fun y hy=>q3 y (q1m.1 hy).2;by_cases e:f=t;·obtain⟨out,j',r1,r2⟩:=again _ j3 (mk (remI .i64 (addI .i64 t 1) (N:Int)) (q16 x3) (by omega) hq4) h3;refine⟨out,j',qln _ _ _ _ _ _ _ _ _ _ _ _ _ _ _ _ _ _ _ _ _ _ _ _ _ _ ?_,r2⟩;rw[q00 (by omega),cF,g0,bS];dsimp only;rw[g1,bS];dsimp only;rw[g2,bS];dsimp only;rw[e2,q0m,cT,g3,bS];dsimp only;rw[g4,bS,e,q0m,cT,q0j hne,q07 (by simp[q06];omega)];simp_all
   .obtain⟨out,j',r1,r2⟩:=again _ j3 (mk t (q16 x3) (by omega) hq4) h3;refine⟨out,j',qln _ _ _ _ _ _ _ _ _ _ _ _ _ _ _ _ _ _ _ _ _ _ _ _ _ _ ?_,r2⟩;rw[q00 (by omega),cF,g0,bS];dsimp only;rw[g1,bS];dsimp only;rw[g2,bS];dsimp only;rw[e2,q0m,cT,g3,bS];dsimp only;rw[g4,bS,q0o e,cF,q07 (by simp[q06];omega)];omega
  .have hq:∀y∈[(⟨x0,x1⟩:Claim)],y.Topic≠5:=fun y hy=>by grind
   by_cases e:f=t;·obtain⟨out,j',r1,r2⟩:=again _ j2 (mk (remI .i64 (addI .i64 t 1) (N:Int)) [⟨x0,x1⟩] (by simp) hq) h2;refine⟨out,j',qln _ _ _ _ _ _ _ _ _ _ _ _ _ _ _ _ _ _ _ _ _ _ _ _ _ _ ?_,r2⟩;rw[q00 (by omega),cF,g0,bS];dsimp only;rw[g1,bS];dsimp only;rw[g2,bS];dsimp only;rw[q0o e2,cF,e,q0m,cT,q0j hne,q07 (by simp[q06];omega)];simp_all
   .obtain⟨out,j',r1,r2⟩:=again _ j2 (mk t [⟨x0,x1⟩] (by simp) hq) h2;refine⟨out,j',qln _ _ _ _ _ _ _ _ _ _ _ _ _ _ _ _ _ _ _ _ _ _ _ _ _ _ ?_,r2⟩;rw[q00 (by omega),cF,g0,bS];dsimp only;rw[g1,bS];dsimp only;rw[g2,bS];dsimp only;rw[q0o e2,cF,q0o e,cF,q07 (by simp[q06];omega)];omega|r+1,k,f,t,j,hk,hf,ht,h=>by
  have hne:(N:Int)≠0:=by omega
  have hrem:=qnh hf.1 hf.2 (by omega);cases hb:eqB (andI .i64 (shrI .i64 ill f) 1) 0 with|true=>obtain⟨out,j',r1,r2⟩:=qi0 hN hN2 hi hac again r (k+1) (remI .i64 (addI .i64 f 1) (N:Int)) t j (by omega) hrem ht h;refine⟨out,j',qln _ _ _ _ _ _ _ _ _ _ _ _ _ _ _ _ _ _ _ _ _ _ _ _ _ _ ?_,r2⟩;rw[q02 (by omega),cT,q0j hf.1,hb,cT,q0j hne,q01 (by omega)];omega|false=>obtain⟨out,j',r1,r2⟩:=qi0 hN hN2 hi hac again r (k+1) f t j (by omega) hf ht h;refine⟨out,j',qln _ _ _ _ _ _ _ _ _ _ _ _ _ _ _ _ _ _ _ _ _ _ _ _ _ _ ?_,r2⟩;rw[q02 (by omega),cT,q0j hf.1,hb,cF,q01 (by omega)];omega
theorem qw7{N:Nat}(hN:1<=N)(hN2:N<=10){d:Bool}{l:List Int}{ms:List Member}{ill:Int}{n:Nat}(hn:n<1000):∀(r i:Nat)(acc:List Play)(j:Int),i+r=n->acc.length=i->(∀p∈acc,DrawnP N d p)->q0u l j->qqy N d n l (z0w ill (n:Int) d acc (N:Int) (i:Int) l j ms)
 |0,i,acc,j,hi,ha,hD,h=>⟨acc,j,q6x _ _ _ _ _ _ _ _ _ _ (by rw[q00 (by omega)];rfl),hD,by omega,h⟩|r+1,i,acc,j,hi,ha,hD,h=>by
  have hne:(N:Int)≠0:=by omega
  have again:∀p j,DrawnP N d p->q0u l j->qqy N d n l (z0w ill (n:Int) d (acc++[p]) (N:Int) (addI .i64 (i:Int) 1) l j ms):=fun p j hp ht=>by rw[q01 (by omega)];refine qw7 hN hN2 hn r (i+1) (acc++[p]) j (by omega) (by simp[ha]) (fun x hx=>?_) ht;grind
  obtain⟨f,j0,g0,a0,b0,h0⟩:=N_ok (n:=(N:Int)) (by omega) (by omega) h;obtain⟨t0,j1,g1,a1,b1,h1⟩:=N_ok (n:=(N:Int)) (by omega) (by omega) h0;have hrem:=qnh a1 b1 (by omega);obtain⟨k,j2,g2,mk2,h2⟩:=qfi (ps:=[1,1,1,2,2,2,2,2,2,5,5,3,4]) (by decide) (by decide) h1;have hcap:∀p:Play,acc.length+[p].length<=100000:=fun p=>by grind
  by_cases e:f=t0
  .skip;by_cases e1:k=1;·obtain⟨x3,j3,g3,a3,b3,h3⟩:=N_ok (n:=2) (by decide) (by decide) h2;obtain⟨x4,j4,g4,a4,b4,h4⟩:=N_ok (n:=2) (by decide) (by decide) h3;obtain⟨out,j',r1,r2⟩:=again ⟨1,f,remI .i64 (addI .i64 t0 1) (N:Int),⟨x3,x4⟩,noT,noM⟩ j4 (q1v q2a (fun _=>by show x3≠5;omega) (fun e=>by cases e) ⟨a0,b0⟩) h4;refine⟨out,j',q6x _ _ _ _ _ _ _ _ _ _ ?_,r2⟩;rw[q02 (by omega),cT,g0,bS];dsimp only;rw[g1,bS];dsimp only;rw[show eqB f t0=true by rw[e];exact q0m _,cT,q0j hne,g2,bS];dsimp only;rw[e1,q0m,cT,g3,bS];dsimp only;rw[g4,bS];dsimp only;rw[q07 (by simp[q06];omega)];exact r1
   by_cases e2:k=2;·obtain⟨out,j',r1,r2⟩:=again ⟨2,f,remI .i64 (addI .i64 t0 1) (N:Int),⟨0,0⟩,noT,noM⟩ j2 (q1v q2a (fun e=>by cases e) (fun e=>by cases e) ⟨a0,b0⟩) h2;refine⟨out,j',q6x _ _ _ _ _ _ _ _ _ _ ?_,r2⟩;rw[q02 (by omega),cT,g0,bS];dsimp only;rw[g1,bS];dsimp only;rw[show eqB f t0=true by rw[e];exact q0m _,cT,q0j hne,g2,bS];dsimp only;rw[q0o e1,cF,e2,q0m,cT,q07 (by simp[q06];omega)];exact r1
   by_cases e3:k=3;·cases hd:d with|false=>rw[hd]at again;obtain⟨out,j',r1,r2⟩:=again ⟨2,f,remI .i64 (addI .i64 t0 1) (N:Int),⟨0,0⟩,noT,noM⟩ j2 (q1v q2a (fun e=>by cases e) (fun e=>by cases e) ⟨a0,b0⟩) h2;refine⟨out,j',q6x _ _ _ _ _ _ _ _ _ _ ?_,r2⟩;rw[q02 (by omega),cT,g0,bS];dsimp only;rw[g1,bS];dsimp only;rw[show eqB f t0=true by rw[e];exact q0m _,cT,q0j hne,g2,bS];dsimp only;rw[q0o e1,cF,q0o e2,cF,e3,q0m,cT,Bool.not_false,cT,q07 (by simp[q06];omega)];exact r1|true=>rw[hd]at again;obtain⟨t5,j5,g5,v5,h5⟩:=qgj (m:=(N:Int)) (by omega) (by omega) h2;obtain⟨out,j',r1,r2⟩:=again ⟨3,f,remI .i64 (addI .i64 t0 1) (N:Int),⟨0,0⟩,t5,noM⟩ j5 (q1v (q28 v5) (fun e=>by cases e) (fun _=>⟨rfl,v5⟩) ⟨a0,b0⟩) h5;refine⟨out,j',q6x _ _ _ _ _ _ _ _ _ _ ?_,r2⟩;rw[q02 (by omega),cT,g0,bS];dsimp only;rw[g1,bS];dsimp only;rw[show eqB f t0=true by rw[e];exact q0m _,cT,q0j hne,g2,bS];dsimp only;rw[q0o e1,cF,q0o e2,cF,e3,q0m,cT,nT,cF,g5,bS];dsimp only;rw[Trust.etaM,q07 (by simp[q06];omega)];exact r1
   by_cases e4:k=4
   .obtain⟨x6,j6,g6,a6,b6,h6⟩:=N_ok (n:=4) (by decide) (by decide) h2;by_cases e6:x6=0;·obtain⟨out,j',r1,r2⟩:=again ⟨4,f,remI .i64 (addI .i64 t0 1) (N:Int),⟨0,0⟩,noT,noM⟩ j6 (q1v q2a (fun e=>by cases e) (fun e=>by cases e) ⟨a0,b0⟩) h6;refine⟨out,j',q6x _ _ _ _ _ _ _ _ _ _ ?_,r2⟩;rw[q02 (by omega),cT,g0,bS];dsimp only;rw[g1,bS];dsimp only;rw[show eqB f t0=true by rw[e];exact q0m _,cT,q0j hne,g2,bS];dsimp only;rw[q0o e1,cF,q0o e2,cF,q0o e3,cF,e4,q0m,cT,g6,bS];dsimp only;rw[e6,q0m,cT,q07 (by simp[q06];omega)];exact r1
    .obtain⟨out,j',r1,r2⟩:=again ⟨2,f,remI .i64 (addI .i64 t0 1) (N:Int),⟨0,0⟩,noT,noM⟩ j6 (q1v q2a (fun e=>by cases e) (fun e=>by cases e) ⟨a0,b0⟩) h6;refine⟨out,j',q6x _ _ _ _ _ _ _ _ _ _ ?_,r2⟩;rw[q02 (by omega),cT,g0,bS];dsimp only;rw[g1,bS];dsimp only;rw[show eqB f t0=true by rw[e];exact q0m _,cT,q0j hne,g2,bS];dsimp only;rw[q0o e1,cF,q0o e2,cF,q0o e3,cF,e4,q0m,cT,g6,bS];dsimp only;rw[q0o e6,cF,q07 (by simp[q06];omega)];exact r1
   obtain⟨out,j',r1,r2⟩:=qi0 hN hN2 (i:=i) (by omega) (acc:=acc) (by omega) again N 0 f (remI .i64 (addI .i64 t0 1) (N:Int)) j2 (by omega) ⟨a0,b0⟩ hrem h2;refine⟨out,j',q6x _ _ _ _ _ _ _ _ _ _ ?_,r2⟩;rw[q02 (by omega),cT,g0,bS];dsimp only;rw[g1,bS];dsimp only;rw[show eqB f t0=true by rw[e];exact q0m _,cT,q0j hne,g2,bS];dsimp only;rw[q0o e1,cF,q0o e2,cF,q0o e3,cF,q0o e4,cF];omega
  .skip;by_cases e1:k=1;·obtain⟨x3,j3,g3,a3,b3,h3⟩:=N_ok (n:=2) (by decide) (by decide) h2;obtain⟨x4,j4,g4,a4,b4,h4⟩:=N_ok (n:=2) (by decide) (by decide) h3;obtain⟨out,j',r1,r2⟩:=again ⟨1,f,t0,⟨x3,x4⟩,noT,noM⟩ j4 (q1v q2a (fun _=>by show x3≠5;omega) (fun e=>by cases e) ⟨a0,b0⟩) h4;refine⟨out,j',q6x _ _ _ _ _ _ _ _ _ _ ?_,r2⟩;rw[q02 (by omega),cT,g0,bS];dsimp only;rw[g1,bS];dsimp only;rw[q0o e,cF,g2,bS];dsimp only;rw[e1,q0m,cT,g3,bS];dsimp only;rw[g4,bS];dsimp only;rw[q07 (by simp[q06];omega)];exact r1
   by_cases e2:k=2;·obtain⟨out,j',r1,r2⟩:=again ⟨2,f,t0,⟨0,0⟩,noT,noM⟩ j2 (q1v q2a (fun e=>by cases e) (fun e=>by cases e) ⟨a0,b0⟩) h2;refine⟨out,j',q6x _ _ _ _ _ _ _ _ _ _ ?_,r2⟩;rw[q02 (by omega),cT,g0,bS];dsimp only;rw[g1,bS];dsimp only;rw[q0o e,cF,g2,bS];dsimp only;rw[q0o e1,cF,e2,q0m,cT,q07 (by simp[q06];omega)];exact r1
   by_cases e3:k=3;·cases hd:d with|false=>rw[hd]at again;obtain⟨out,j',r1,r2⟩:=again ⟨2,f,t0,⟨0,0⟩,noT,noM⟩ j2 (q1v q2a (fun e=>by cases e) (fun e=>by cases e) ⟨a0,b0⟩) h2;refine⟨out,j',q6x _ _ _ _ _ _ _ _ _ _ ?_,r2⟩;rw[q02 (by omega),cT,g0,bS];dsimp only;rw[g1,bS];dsimp only;rw[q0o e,cF,g2,bS];dsimp only;rw[q0o e1,cF,q0o e2,cF,e3,q0m,cT,Bool.not_false,cT,q07 (by simp[q06];omega)];exact r1|true=>rw[hd]at again;obtain⟨t5,j5,g5,v5,h5⟩:=qgj (m:=(N:Int)) (by omega) (by omega) h2;obtain⟨out,j',r1,r2⟩:=again ⟨3,f,t0,⟨0,0⟩,t5,noM⟩ j5 (q1v (q28 v5) (fun e=>by cases e) (fun _=>⟨rfl,v5⟩) ⟨a0,b0⟩) h5;refine⟨out,j',q6x _ _ _ _ _ _ _ _ _ _ ?_,r2⟩;rw[q02 (by omega),cT,g0,bS];dsimp only;rw[g1,bS];dsimp only;rw[q0o e,cF,g2,bS];dsimp only;rw[q0o e1,cF,q0o e2,cF,e3,q0m,cT,nT,cF,g5,bS];dsimp only;rw[Trust.etaM,q07 (by simp[q06];omega)];exact r1
   by_cases e4:k=4
   .obtain⟨x6,j6,g6,a6,b6,h6⟩:=N_ok (n:=4) (by decide) (by decide) h2;by_cases e6:x6=0;·obtain⟨out,j',r1,r2⟩:=again ⟨4,f,t0,⟨0,0⟩,noT,noM⟩ j6 (q1v q2a (fun e=>by cases e) (fun e=>by cases e) ⟨a0,b0⟩) h6;refine⟨out,j',q6x _ _ _ _ _ _ _ _ _ _ ?_,r2⟩;rw[q02 (by omega),cT,g0,bS];dsimp only;rw[g1,bS];dsimp only;rw[q0o e,cF,g2,bS];dsimp only;rw[q0o e1,cF,q0o e2,cF,q0o e3,cF,e4,q0m,cT,g6,bS];dsimp only;rw[e6,q0m,cT,q07 (by simp[q06];omega)];exact r1
    .obtain⟨out,j',r1,r2⟩:=again ⟨2,f,t0,⟨0,0⟩,noT,noM⟩ j6 (q1v q2a (fun e=>by cases e) (fun e=>by cases e) ⟨a0,b0⟩) h6;refine⟨out,j',q6x _ _ _ _ _ _ _ _ _ _ ?_,r2⟩;rw[q02 (by omega),cT,g0,bS];dsimp only;rw[g1,bS];dsimp only;rw[q0o e,cF,g2,bS];dsimp only;rw[q0o e1,cF,q0o e2,cF,q0o e3,cF,e4,q0m,cT,g6,bS];dsimp only;rw[q0o e6,cF,q07 (by simp[q06];omega)];exact r1
   obtain⟨out,j',r1,r2⟩:=qi0 hN hN2 (i:=i) (by omega) (acc:=acc) (by omega) again N 0 f (t0) j2 (by omega) ⟨a0,b0⟩ ⟨a1,b1⟩ h2;refine⟨out,j',q6x _ _ _ _ _ _ _ _ _ _ ?_,r2⟩;rw[q02 (by omega),cT,g0,bS];dsimp only;rw[g1,bS];dsimp only;rw[q0o e,cF,g2,bS];dsimp only;rw[q0o e1,cF,q0o e2,cF,q0o e3,cF,q0o e4,cF];omega
theorem qwm{N:Nat}(hN:1<=N)(hN2:N<=10){d:Bool}{l:List Int}{c:Config}(hc:c.Members.length=N){ill:Int}{n:Nat}(hn:n<1000){j:Int}(h:q0u l j):qqy N d n l (z7j c ill (n:Int) d l j):=by obtain⟨out,j',r1,r2⟩:=qw7 hN hN2 hn (ms:=c.Members) (ill:=ill) (d:=d) n 0 [] j (by omega) rfl (fun _ h=>by cases h) h;refine⟨out,j',ycb _ _ _ _ _ _ _ ?_,r2⟩;simp_all
def qco(c:Config)(k:Nat):Voter:=⟨(k:Int),1,tr c k,[],[],[],[]⟩
def q42(c:Config):List Voter:=(List.range c.Members.length).map (qco c)
theorem qly(c:Config):(q42 c).length=c.Members.length:=by simp[q42]
theorem qov(c:Config){k:Nat}(h:k<c.Members.length):atV (q42 c) k=qco c k:=by
 have:=q4t (S:=q42 c) (b:=k) (by rw[qly];exact h);have h2:(q42 c)[k]?=some (qco c k):=by simp[q42,h]
 simp_all
theorem tr_at{c:Config}{i:Nat}{m:Member}(h:c.Members[i]?=some m):tr c i=m.Trust:=by unfold tr;simp_all
theorem qzq{N:Nat}{c:Config}(hc:ConfOk N c)(hd:∀m∈c.Members,m.Declared=true){k:Nat}(h:k<c.Members.length):valid (tr c k)=true/\uses (tr c k)<2^c.Members.length:=by
 have hget:c.Members[k]?=some c.Members[k]:=by simp
 have hm:=hc.mem _ (List.getElem_mem h);unfold MemOk at hm;rw[if_pos (hd _ (List.getElem_mem h))]at hm;rw[tr_at hget];exact⟨hm.1,qg4 _ hm.2⟩
theorem qu1{N:Nat}(hN:N<=10){c:Config}(hc:ConfOk N c)(hd:∀m∈c.Members,m.Declared=true)(a0:Int)(a10:List Member)(a12:List Voter)(a14 a16 a20 a22:Int):∀(r k:Nat),k+r=c.Members.length->z2z a0 c.Members ((c.Members.length:Nat):Int) (k:Int) a10 a12 a14 a16 ((List.range k).map (qco c)) a20 a22=some (⟨q42 c,a20,a22⟩,0)
 |0,k,h=>by apply y71;rw[q00 (by omega),cF,show k=c.Members.length by omega];rfl|r+1,k,h=>by
  have hlt:k<c.Members.length:=by omega
  have hl:=hc.le;have hget:c.Members[k]?=some c.Members[k]:=by simp
  have ht:=tr_at hget;obtain⟨hv,hu⟩:=qzq hc hd hlt;have hk:inR (k:Int)=true:=by simp[inR];omega
  apply y71;rw[q02 (by omega),cT,q0t (y:=c.Members[k]) (by omega) (by simp),hd _ (List.getElem_mem hlt),nT,cF,<-ht,qy7 _ (q28 hv),(qk5 hk hv).1,bS,q2b,q07 (by simp[q06];omega),q01 (by omega)];have:=qu1 hN hc hd a0 a10 a12 a14 a16 a20 a22 r (k+1) (by omega);rw[List.range_succ,List.map_append]at this;exact this
theorem qyt{N:Nat}(hN:N<=10){c:Config}(hc:ConfOk N c)(hd:∀m∈c.Members,m.Declared=true){ill:Nat}(hill:ill<2^c.Members.length):z6m c (ill:Int)=some (⟨q42 c,0,(ill:Int)⟩,0):=by have hl:=hc.le;have hp:=hc.pos;have hpw:=qc0 (n:=c.Members.length) (by omega);have h0:cerr c=0:=q6l.2 (hc.valid hN);apply yfe;rw[y4r (hc.smallC hN),bS,h0,q0i,cF,q0o (by omega),cF,q00 (by omega),cF,q0j (by omega),shlN (by omega),q6i,decide_eq_true (by omega)];exact qu1 hN hc hd _ _ _ _ _ _ _ c.Members.length 0 (by omega)
theorem qna(c:Config)(k:Nat):Settled (qco c k):=⟨fun x hx=>by simp[known,allM,q8e,qco,say,q1m]at hx,fun y hy=>by cases hy⟩
theorem qud{N:Nat}(hN:N<=10){c:Config}(hc:ConfOk N c)(hd:∀m∈c.Members,m.Declared=true){P:Lay}(hP:P.N=c.Members.length)(hT:∀b,b<P.N->P.G b->P.T b (tr c b)):MtI P 1 (q42 c):=by
 refine⟨by rw[qly,hP],fun b hb=>?_⟩;have hb':b<c.Members.length:=by omega
 have hl:=hc.le;obtain⟨hv,hu⟩:=qzq hc hd hb';have hk:inR (b:Int)=true:=by simp[inR];omega
 rw[show MtB P 1 (q42 c) b=MtB P 1 (q42 c) b from rfl];have e:=qov c hb';refine⟨by rw[e];exact(qk5 hk hv).2,by rw[e];rfl,fun hg=>by rw[e];exact hT b hb hg,by rw[e,hP];exact hu,by rw[e];show(1:Int)<=_;omega,?_,by rw[e];exact qna c b,fun m hm=>?_,fun _ y hy=>?_⟩;·rw[e];rintro y(h|h)<;>cases h
 .rw[e]at hm;cases hm
 .rw[e]at hy;cases hy
noncomputable def playM:List Play->Meeting->Meeting×List Int|[],m=>(m,[])|p::r,m=>((playM r (if(stepM m p).2=0 then(stepM m p).1 else m)).1,(stepM m p).2::(playM r (if(stepM m p).2=0 then(stepM m p).1 else m)).2)
def lay0(N:Nat):Lay:=⟨N,fun _=>False,fun _ _=>True,fun _=>True⟩
theorem ok0(N:Nat)(p:Play):PlayOk (lay0 N) p:=⟨fun _=>trivial,fun _=>trivial,fun _ _ _=>trivial⟩
theorem g0(N:Nat)(m:Meeting):∀a:Nat,(lay0 N).G a->has m.Ill.toNat (a:Int)=false:=fun _ h=>h.elim
structure GoodMt(N q:Nat)(m:Meeting):Prop where
 mt:MtI (lay0 N) q m.Voters
 sets:Sets2 N m
theorem GoodMt.small{N q:Nat}(hN:N<=10){m:Meeting}(h:GoodMt N q m):SmallMt m:=by obtain⟨h1,_,h3⟩:=qvu hN h.mt;exact⟨by omega,h1⟩
theorem GoodMt.fresh{N q:Nat}(hN:N<=10){m:Meeting}(h:GoodMt N q m):z4v m=some m:=by obtain⟨_,h2,h3⟩:=qvu hN h.mt;exact qz7 (by omega) h2
theorem GoodMt.valid{N q:Nat}(hN:N<=10)(h1:1<=N){m:Meeting}(h:GoodMt N q m):q5q m=true:=y4v (P:=lay0 N) hN h1 h.mt h.sets
theorem GoodMt.len{N q:Nat}{m:Meeting}(h:GoodMt N q m):m.Voters.length=N:=h.mt.len
theorem GoodMt.step{N q:Nat}(hN:N<=10)(hq:q<=100000){m:Meeting}(h:GoodMt N q m){p:Play}(h0:(stepM m p).2=0):GoodMt N (q+1) (stepM m p).1:=⟨(y3z (P:=lay0 N) hN hq h.mt (ok0 N p) (g0 N m) h0).1,(qde h0 h.len h.sets).1⟩
theorem GoodMt.up{N q:Nat}{m:Meeting}(h:GoodMt N q m):GoodMt N (q+1) m:=⟨mt_up h.mt,h.sets⟩
theorem qpn{N:Nat}(hN:N<=10):∀(l:List Play)(q:Nat)(m:Meeting),GoodMt N q m->q+l.length<=100000->GoodMt N (q+l.length) (playM l m).1
 |[],q,m,h,_=>h|p::r,q,m,h,hq=>by
  rw[playM,List.length_cons,show q+(r.length+1)=q+1+r.length by omega];rw[List.length_cons]at hq;dsimp only;refine qpn hN r (q+1) _ ?_ (by omega);split;·rename_i h0;exact h.step hN (by omega) h0
  .exact h.up
theorem qtd{N:Nat}(hN:N<=10)(l:List Play)(hl:l.length<=400)(hp:∀p∈l,SmallP p)(a10:List Member)(a12:List Voter)(a14 a16:Int):∀(suf:List Play)(i q:Nat)(acc:List Int)(m:Meeting),l.drop i=suf->acc.length<=i->GoodMt N q m->q+suf.length<=1000->z3u acc l ((l.length:Nat):Int) (i:Int) a10 a12 a14 a16 m.Voters m.Stopped m.Ill=some ((playM suf m).1,acc++(playM suf m).2,0)
 |[],i,q,acc,m,h,ha,hm,hq=>by apply y9j;rw[q0f h,cF,show Meeting.mk m.Voters m.Stopped m.Ill=m from rfl,hm.fresh hN,bS,playM,List.append_nil]|p::suf,i,q,acc,m,h,ha,hm,hq=>by
  have hlt:=q0d h;rw[List.length_cons]at hq;have hps:=hp p (List.mem_of_mem_drop (i:=i) (by simp_all));apply y9j;rw[q08 h,cT,q04 h,show Meeting.mk m.Voters m.Stopped m.Ill=m from rfl,qvk (hm.small hN) hps,bS,q01 (by omega),playM];by_cases h0:(stepM m p).2=0;·have ih:=qtd hN l hl hp a10 a12 a14 a16 suf (i+1) (q+1) (acc++[(stepM m p).2]) (stepM m p).1 (q03 h) (by simp_all) (hm.step hN (by omega) h0) (by omega);simp only[if_pos h0];rw[show eqB (stepM m p).2 0=true by rw[h0];rfl,cT,q07 (by simp[q06];omega),ih];simp
  .have ih:=qtd hN l hl hp a10 a12 a14 a16 suf (i+1) (q+1) (acc++[(stepM m p).2]) m (q03 h) (by simp_all) hm.up (by omega);simp only[if_neg h0];rw[q0o h0,cF,q07 (by simp[q06];omega),ih];simp
theorem qfl{N:Nat}(hN:N<=10){c:Config}(hc:ConfOk N c)(hd:∀m∈c.Members,m.Declared=true){ill:Nat}(hill:ill<2^c.Members.length):GoodMt c.Members.length 1 ⟨q42 c,0,(ill:Int)⟩:=⟨qud hN hc hd rfl fun _ _ h=>h.elim,⟨by simp,by grind⟩,⟨by simp,by grind⟩,Nat.and_zero _⟩
noncomputable def runM(c:Config)(ill:Nat)(l:List Play):Meeting×List Int:=playM l ⟨q42 c,0,(ill:Int)⟩
theorem qry{N:Nat}(hN:N<=10){c:Config}(hc:ConfOk N c)(hd:∀m∈c.Members,m.Declared=true){ill:Nat}(hill:ill<2^c.Members.length){l:List Play}(hl:l.length<=400)(hp:∀p∈l,SmallP p):z3w c (ill:Int) l=some ((runM c ill l).1,(runM c ill l).2,0):=by have hle:=hc.le;apply yfk;rw[qyt hN hc hd hill,bS];dsimp only;rw[q0i,cF,q00 (by omega),cF];exact qtd (N:=c.Members.length) (by omega) l hl hp _ _ _ _ l 0 1 [] ⟨q42 c,0,(ill:Int)⟩ rfl (Nat.le_refl _) (qfl hN hc hd hill) (by omega)
theorem quv{K:Nat->Meeting->Prop}:∀(l:List Play),(∀q m p,p∈l->q<=99000->K q m->(stepM m p).2=0->K (q+1) (stepM m p).1)->(∀q m,K q m->K (q+1) m)->∀(q:Nat)(m:Meeting),q+l.length<=99000->K q m->K (q+l.length) (playM l m).1|[],_,_,q,m,_,h=>h|p::r,hs,hu,q,m,hq,h=>by rw[playM,List.length_cons,show q+(r.length+1)=q+1+r.length by omega];rw[List.length_cons]at hq;dsimp only;refine quv r (fun q m x hx=>hs q m x (by simp[hx])) hu (q+1) _ (by omega) ?_;grind
def sendP(a b:Nat):Play:=⟨2,(a:Int),(b:Int),⟨0,0⟩,noT,noM⟩
theorem qs6(a b:Nat):SmallP (sendP a b):=⟨q2a,qet⟩
noncomputable def sendM(m:Meeting)(a b:Nat):Meeting:=if(stepM m (sendP a b)).2=0 then(stepM m (sendP a b)).1 else m
def tot(l:List Message):Nat:=(l.map fun m=>m.Seq.toNat).sum
def pot(m:Meeting):Nat:=(m.Voters.map fun v=>tot v.Heard).sum
theorem y0r:∀(l:List Nat)(i:Nat)(x:Nat),i<l.length->(l.set i x).sum+l.getD i 0=l.sum+x|[],i,x,h=>by cases h|y::l,0,x,_=>by grind|y::l,i+1,x,h=>by have:=y0r l i x (by simpa using h);grind
theorem qus{m:Message}(h1:1<=m.Seq):∀{l:List Message},oldB l m=false->tot l<tot (hearL m l)
 |[],_=>by simp[hearL,tot];omega|x::r,ho=>by
  rw[y3t,Bool.or_eq_false_iff]at ho;rw[hearL];split;·have:=qus h1 (l:=r) ho.2;simp only[tot,List.map_cons,List.sum_cons]at this⊢;omega
  .split
   .rename_i hn;have:¬m.Seq<=x.Seq:=by simp_all
    simp only[tot,List.map_cons,List.sum_cons];omega
   .simp only[tot,List.map_cons,List.sum_cons];omega
theorem q6e{m:Meeting}{a b:Nat}(h:(stepM m (sendP a b)).2=0):mAsk m (sendP a b)=0/\oldB (atV m.Voters b).Heard (say (atV m.Voters a))=false/\(stepM m (sendP a b)).1=⟨m.Voters.set b (turnV (atV m.Voters b) {atV m.Voters b with Heard:=hearL (say (atV m.Voters a)) (atV m.Voters b).Heard}),m.Stopped,m.Ill⟩/\a<m.Voters.length/\b<m.Voters.length/\a≠b/\m.Ill.toNat.testBit a=false/\(m.Ill.toNat|||m.Stopped.toNat).testBit b=false:=by
 obtain⟨ha,w,e,hw⟩:=qao h;obtain⟨hv,_,_,f1,f2,ht,hi,_⟩:=q4j ha;obtain⟨⟨_,l10,_⟩,_⟩:=q46.1 hv;obtain⟨t1,t2,t3,t4⟩:=ht rfl;have f2:(a:Int)<(m.Voters.length:Int):=f2;have t2:(b:Int)<(m.Voters.length:Int):=t2;have t3:(b:Int)≠(a:Int):=t3;have hwb:whoP (sendP a b)=b:=tN b;have hi:has m.Ill.toNat (a:Int)=false:=hi;have t4:has (m.Ill.toNat|||m.Stopped.toNat) (b:Int)=false:=t4;rw[q3a (by omega)]at hi t4;rw[hwb]at e hw;rcases hw with⟨_,_,h2,_⟩|⟨u,hu,rfl⟩;·exact absurd rfl h2
 .rcases hu with⟨k,_⟩|⟨_,g1,g2⟩|⟨k,_⟩|⟨k,_⟩;·cases k
  .have e1:(sendP a b).From.toNat=a:=tN a;rw[e1]at g1 g2;refine⟨ha,g1,?_,by omega,by omega,by omega,hi,t4⟩;rw[e,g2];rfl
  .cases k
  .cases k
theorem qm9(b u:Voter):(turnV b u).Heard=u.Heard:=by obtain⟨s,_,h2,_⟩:=q4e b u;rw[h2];exact(q2k u).2.2.2.2
theorem qvs{N q:Nat}{m:Meeting}(hm:GoodMt N q m){a b:Nat}(h:(stepM m (sendP a b)).2=0):pot m<pot (stepM m (sendP a b)).1:=by
 obtain⟨_,ho,e,ha,hb,_⟩:=q6e h;rw[e];unfold pot;dsimp only;have hA:=hm.mt.all a (by rw[<-hm.len];exact ha);have h1:=(q0x.1 hA.valid).1.seq.1;have ht:=qus (m:=say (atV m.Voters a)) h1 ho;rw[List.map_set];have hs:=y0r (m.Voters.map fun v=>tot v.Heard) b (tot (turnV (atV m.Voters b) {atV m.Voters b with Heard:=hearL (say (atV m.Voters a)) (atV m.Voters b).Heard}).Heard) (by simpa using hb);rw[qm9]at hs⊢;have hg:(m.Voters.map fun v=>tot v.Heard).getD b 0=tot (atV m.Voters b).Heard:=by rw[List.getD_eq_getElem?_getD,List.getElem?_map,q4t hb];rfl
 grind
theorem y2j{P:Lay}(hN:P.N<=10){q:Nat}(hq:q<=100000){m:Meeting}(hS:MtI P q m.Voters){a b:Nat}(h:(stepM m (sendP a b)).2=0):MtI P q (stepM m (sendP a b)).1.Voters:=by obtain⟨_,ho,e,ha,hb,hne,_⟩:=q6e h;have hl:=hS.len;have A:=hS.all a (by omega);have hU:=qsu hS (b:=b) (by omega) (q0x.1 A.valid).1.say (by show(atV m.Voters a).Node≠_;rw[A.node];omega) (qv8 hS (a:=a) (by omega));rw[e];exact(y39 hN hS (by omega) hq hU (.inr ⟨rfl,rfl,rfl⟩)).1
theorem GoodMt.send{N q:Nat}(hN:N<=10)(hq:q<=100000){m:Meeting}(hm:GoodMt N q m){a b:Nat}(h:(stepM m (sendP a b)).2=0):GoodMt N q (stepM m (sendP a b)).1:=⟨y2j (P:=lay0 N) hN hq hm.mt h,(qde h hm.len hm.sets).1⟩
noncomputable def sends(m:Meeting)(l:List (Nat×Nat)):Meeting:=l.foldl (fun m p=>sendM m p.1 p.2) m
structure SendR(m m':Meeting)(l:List (Nat×Nat)):Prop where
 le:pot m<=pot m'
 stay:pot m'=pot m->m'=m/\∀p∈l,(stepM m (sendP p.1 p.2)).2≠0
theorem q4r{N q:Nat}(hN:N<=10)(hq:q<=100000):∀(l:List (Nat×Nat))(m:Meeting),GoodMt N q m->GoodMt N q (sends m l)/\SendR m (sends m l) l
 |[],m,h=>⟨h,Nat.le_refl _,fun _=>⟨rfl,fun _ h=>by cases h⟩⟩|p::r,m,h=>by
  show GoodMt N q (sends (sendM m p.1 p.2) r)/\SendR m (sends (sendM m p.1 p.2) r) (p::r);unfold sendM;by_cases h0:(stepM m (sendP p.1 p.2)).2=0;·rw[if_pos h0];obtain⟨g1,g2⟩:=q4r hN hq r _ (h.send hN hq h0);have:=qvs h h0;have:=g2.le;exact⟨g1,by omega,fun e=>by omega⟩
  .rw[if_neg h0];obtain⟨g1,g2⟩:=q4r hN hq r m h;refine⟨g1,g2.le,fun e=>⟨(g2.stay e).1,fun x hx=>?_⟩⟩;rcases List.mem_cons.1 hx with e'|hx;·simp_all
   .exact(g2.stay e).2 x hx
theorem qdr{K:Meeting->Prop}(hK:∀m a b,K m->(stepM m (sendP a b)).2=0->K (stepM m (sendP a b)).1):∀(l:List (Nat×Nat))(m:Meeting),K m->K (sends m l)|[],_,h=>h|p::r,m,h=>by show K (sends (sendM m p.1 p.2) r);refine qdr hK r _ ?_;unfold sendM;grind
theorem qqv(m:Meeting)(l k:List (Nat×Nat)):sends m (l++k)=sends (sends m l) k:=List.foldl_append
def q9b(w:List Nat):List (Nat×Nat):=w.flatMap fun a=>w.map fun b=>(a,b)
theorem qjb{N q:Nat}(hN:N<=10)(hq:q<=100000)(w:List Nat)(hw:w.length<=10)(a:Nat){a8:List Int}{a10 a12:Int}{a26:List Voter}{a28 a30:Int}{R:Option (Meeting×Bool)}:∀(suf:List Nat)(i:Nat)(m:Meeting)(any:Bool),w.drop i=suf->GoodMt N q m->(∀m' any',m'=sends m (suf.map fun b=>(a,b))->any'=(any||decide (pot m<pot m'))->z33 (w.map Int.ofNat) any' a8 a10 (addI .i64 a12 1) m'.Voters m'.Stopped m'.Ill a26 a28 a30=R)->(∃r,R=some r)->z36 (w.map Int.ofNat) any (a:Int) a8 a10 a12 (w.map Int.ofNat) ((w.length:Nat):Int) (i:Int) m.Voters m.Stopped m.Ill a26 a28 a30=R
 |[],i,m,any,h,hm,hR,⟨r,hr⟩=>by rw[hr];apply y8v;rw[q0f h,cF,hR m any rfl (by simp),hr]|b::suf,i,m,any,h,hm,hR,⟨r,hr⟩=>by
  have hlt:=q0d h;have h':(w.map Int.ofNat).drop i=(b:Int)::suf.map Int.ofNat:=by rw[<-List.map_drop,h];rfl
  have hs:=qvk (hm.small hN) (qs6 a b);have hs:z5f (Meeting.mk m.Voters m.Stopped m.Ill) (Play.mk 2 (a:Int) (b:Int) (Claim.mk 0 0) (Trust.mk 0 [] []) (Message.mk 0 0 (Trust.mk 0 [] []) [] []))=some (stepM m (sendP a b)):=hs;rw[hr];apply y8v;rw[q02 (by omega),cT,q04 h',hs,bS,q01 (by omega),<-hr];by_cases h0:(stepM m (sendP a b)).2=0
  .rw[show eqB (stepM m (sendP a b)).2 0=true by rw[h0];rfl,cT];refine qjb hN hq w hw a suf (i+1) _ true (q03 h) (hm.send hN hq h0) (fun m' any' e1 e2=>?_) ⟨r,hr⟩;have hp:=qvs hm h0;have hp2:=(q4r hN hq (suf.map fun b=>(a,b)) _ (hm.send hN hq h0)).2.le;refine hR m' any' ?_ ?_;·rw[e1];show _=sends (sendM m a b) _;unfold sendM;rw[if_pos h0]
   grind
  .rw[q0o h0,cF];refine qjb hN hq w hw a suf (i+1) m any (q03 h) hm (fun m' any' e1 e2=>hR m' any' ?_ e2) ⟨r,hr⟩;rw[e1];show _=sends (sendM m a b) _;unfold sendM;simp_all
theorem qok{N q:Nat}(hN:N<=10)(hq:q<=100000)(w:List Nat)(hw:w.length<=10){a18:List Voter}{a20 a22:Int}:∀(suf:List Nat)(i:Nat)(m:Meeting)(any:Bool),w.drop i=suf->GoodMt N q m->z33 (w.map Int.ofNat) any (w.map Int.ofNat) ((w.length:Nat):Int) (i:Int) m.Voters m.Stopped m.Ill a18 a20 a22=some (sends m (suf.flatMap fun a=>w.map fun b=>(a,b)),any||decide (pot m<pot (sends m (suf.flatMap fun a=>w.map fun b=>(a,b)))))
 |[],i,m,any,h,hm=>by apply y76;rw[q0f h,cF];simp[sends]|a::suf,i,m,any,h,hm=>by
  have hlt:=q0d h;have h':(w.map Int.ofNat).drop i=(a:Int)::suf.map Int.ofNat:=by rw[<-List.map_drop,h];rfl
  apply y76;rw[q02 (by omega),cT,q04 h',List.length_map];refine qjb hN hq w hw a w 0 m any rfl hm (fun m' any' e1 e2=>?_) ⟨_,rfl⟩;obtain⟨g1,g2⟩:=q4r hN hq (w.map fun b=>(a,b)) m hm;rw[<-e1]at g1 g2;rw[q01 (by omega),qok hN hq w hw suf (i+1) m' any' (q03 h) g1,List.flatMap_cons,qqv,<-e1];have hp1:=g2.le;have hp2:=(q4r hN hq (suf.flatMap fun a=>w.map fun b=>(a,b)) m' g1).2.le;congr 2;grind
def q1x(N:Nat)(m:Meeting):List Nat:=nodes (2^N-1-m.Ill.toNat)
noncomputable def q7b(w:List Nat)(m:Meeting):Meeting:=sends m (q9b w)
theorem y2x{N q:Nat}(hN:N<=10)(hq:q<=100000){m:Meeting}(hm:GoodMt N q m):z60 m=some (q7b (q1x N m) m,decide (pot m<pot (q7b (q1x N m) m))):=by
 have hl:=hm.len;obtain⟨⟨s1,s2⟩,_⟩:=hm.sets;have hp:=qc0 hN;have hpos:=Nat.two_pow_pos N;have hw:z5h (subI .i64 (subI .i64 (shlI .i64 1 ((m.Voters.length:Nat):Int)) 1) m.Ill)=some ((q1x N m).map Int.ofNat):=by
  have e1:subI .i64 ((2^N:Nat):Int) 1=((2^N:Nat):Int)-1:=q2n (by omega) (by omega);rw[hl,shlN hN,e1,q2n (by omega) (by omega)];have:((2^N:Nat):Int)-1-m.Ill=((2^N-1-m.Ill.toNat:Nat):Int):=by omega
  rw[this];exact qof (by omega)
 apply ycm;rw[q0j (by omega),hw,bS];have:=qok hN hq (q1x N m) (qeu _) (a18:=[]) (a20:=0) (a22:=0) (q1x N m) 0 m false rfl hm;rw[List.length_map];rw[Bool.false_or]at this;exact this
noncomputable def iterM(w:List Nat):Nat->Meeting->Meeting|0,m=>m|n+1,m=>iterM w n (q7b w m)
theorem qj4{w:List Nat}{m:Meeting}(h:q7b w m=m):∀n,iterM w n m=m|0=>rfl|n+1=>by rw[iterM,h];exact qj4 h n
theorem qe7{K:Meeting->Prop}(hK:∀m a b,K m->(stepM m (sendP a b)).2=0->K (stepM m (sendP a b)).1)(w:List Nat):∀(n:Nat)(m:Meeting),K m->K (iterM w n m)|0,_,h=>h|n+1,m,h=>qe7 hK w n _ (qdr hK _ m h)
def BdM(B:Nat)(m:Meeting):Prop:=∀v∈m.Voters,∀x∈v.Heard,x.Seq.toNat<=B
theorem y9i{l:List Nat}{B:Nat}(h:∀x∈l,x<=B):l.sum<=l.length*B:=by induction l with|nil=>simp|cons y l ih=>have h1:=h y (by simp);have h2:=ih fun x hx=>h x (by grind);rw[List.sum_cons,List.length_cons,Nat.add_mul];omega
theorem ydv{N q B:Nat}(hN:N<=10){m:Meeting}(hm:GoodMt N q m)(hB:BdM B m):pot m<=10*(10*B):=by
 have h1:pot m<=(m.Voters.map fun v=>tot v.Heard).length*(10*B):=y9i fun x hx=>by
  obtain⟨v,hv,rfl⟩:=List.mem_map.1 hx;have h2:tot v.Heard<=(v.Heard.map fun m=>m.Seq.toNat).length*B:=y9i fun y hy=>by obtain⟨k,hk,rfl⟩:=List.mem_map.1 hy;exact hB v hv k hk
  obtain⟨i,hi⟩:=List.getElem?_of_mem hv;have hlt:i<m.Voters.length:=(List.getElem?_eq_some_iff.1 hi).1;have hr:=(q0x.1 (hm.mt.all i (by rw[<-hm.len];exact hlt)).valid).1;rw[q4t hlt]at hi;cases hi;have:=hr.hlen;rw[List.length_map]at h2;exact Nat.le_trans h2 (Nat.mul_le_mul_right B this)
 have hl:=hm.len;rw[List.length_map]at h1;exact Nat.le_trans h1 (Nat.mul_le_mul_right _ (by omega))
theorem BdM.send{N q B:Nat}(hB0:1000000<=B){m:Meeting}(hm:GoodMt N q m)(hB:BdM B m){a b:Nat}(h:(stepM m (sendP a b)).2=0):BdM B (stepM m (sendP a b)).1:=by
 obtain⟨_,_,e,ha,hb,_⟩:=q6e h;rw[e];intro v hv x hx;dsimp only at hv;rcases List.mem_or_eq_of_mem_set hv with g|g;·exact hB v g x hx
 .rw[g,qm9]at hx;rcases qid hx with g|g;·have hA:=hm.mt.all a (by rw[<-hm.len];exact ha);have h1:=(q0x.1 hA.valid).1.seq;rw[g];show(atV m.Voters a).Seq.toNat<=B;omega
  .exact hB _ (List.mem_of_getElem? (q4t hb)) x g
theorem yat(m:Meeting):∃B,1000000<=B/\BdM B m:=by
 have key:∀{l:List Nat}{x:Nat},x∈l->x<=l.sum:=by intro l;induction l with|nil=>simp|cons y l ih=>grind
 refine⟨1000000+pot m,by omega,fun v hv x hx=>?_⟩;have h1:x.Seq.toNat<=tot v.Heard:=key (List.mem_map_of_mem (f:=fun m:Message=>m.Seq.toNat) hx);have h2:tot v.Heard<=pot m:=key (List.mem_map_of_mem (f:=fun v:Voter=>tot v.Heard) hv);omega
theorem qwy{N q B:Nat}(hN:N<=10)(hq:q<=100000)(hB0:1000000<=B){m:Meeting}(hm:GoodMt N q m)(hB:BdM B m)(w:List Nat):GoodMt N q (q7b w m)/\BdM B (q7b w m):=qdr (K:=fun m=>GoodMt N q m/\BdM B m) (fun _m _a _b h h0=>⟨h.1.send hN hq h0,h.2.send hB0 h.1 h0⟩) _ m ⟨hm,hB⟩
theorem qwq{N:Nat}(w:List Nat)(m:Meeting):q1x N (q7b w m)=q1x N m:=qdr (K:=fun x=>q1x N x=q1x N m) (fun x a b h h0=>by rw[<-h];unfold q1x;rw[(q6e h0).2.2.1]) _ m rfl
theorem qv7{N q B:Nat}(hN:N<=10)(hq:q<=100000)(hB0:1000000<=B){a10:List Voter}{a12 a14:Int}:∀(n:Nat)(m:Meeting),GoodMt N q m->BdM B m->10*(10*B)-pot m<n->z3c true m.Voters m.Stopped m.Ill a10 a12 a14=some (iterM (q1x N m) n m,0)/\q7b (q1x N m) (iterM (q1x N m) n m)=iterM (q1x N m) n m
 |0,m,hm,hB,hn=>by omega|n+1,m,hm,hB,hn=>by
  obtain⟨g1,g2⟩:=qwy hN hq hB0 hm hB (q1x N m);have hR:=(q4r hN hq (q9b (q1x N m)) m hm).2;have hr:z60 (Meeting.mk m.Voters m.Stopped m.Ill)=_:=y2x hN hq hm;have hp:=hR.le;by_cases h:pot m<pot (q7b (q1x N m) m);·have hb:=ydv hN g1 g2;obtain⟨i1,i2⟩:=qv7 hN hq hB0 (a10:=a10) (a12:=a12) (a14:=a14) n (q7b (q1x N m) m) g1 g2 (by omega);rw[qwq]at i1 i2;refine⟨?_,i2⟩;apply y31;rw[cT,hr,bS,decide_eq_true h];exact i1
  .have e:q7b (q1x N m) m=m:=(hR.stay (by show pot (q7b (q1x N m) m)=pot m;have:pot m<=pot (q7b (q1x N m) m):=hp;omega)).1;rw[qj4 e];refine⟨?_,e⟩;apply y31;rw[cT,hr,bS,e,decide_eq_false (Nat.lt_irrefl (pot m))];apply y31;rw[cF,show Meeting.mk m.Voters m.Stopped m.Ill=m from rfl,hm.fresh hN,bS]
def Still(N:Nat)(m:Meeting):Prop:=q7b (q1x N m) m=m
theorem qn5{N q:Nat}(hN:N<=10)(h1:1<=N)(hq:q<=100000){m:Meeting}(hm:GoodMt N q m):∃n,z3x m=some (iterM (q1x N m) n m,0)/\Still N (iterM (q1x N m) n m):=by
 obtain⟨B,hB0,hB⟩:=yat m;obtain⟨g1,g2⟩:=qv7 hN hq hB0 (a10:=[]) (a12:=0) (a14:=0) (10*(10*B)-pot m+1) m hm hB (by omega);refine⟨10*(10*B)-pot m+1,yek _ _ ?_,?_⟩;·rw[qi9 (hm.small hN),hm.valid hN h1,bS];grind
 .unfold Still;have:q1x N (iterM (q1x N m) (10*(10*B)-pot m+1) m)=q1x N m:=qe7 (K:=fun x=>q1x N x=q1x N m) (fun x a b h h0=>by rw[<-h];unfold q1x;rw[(q6e h0).2.2.1]) _ _ m rfl;simp_all
theorem qy5{N q:Nat}(hN:N<=10)(h1:1<=N)(hq:q<=100000){m:Meeting}(hm:GoodMt N q m)(hs:Still N m):z3x m=some (m,0):=by obtain⟨n,h2,_⟩:=qn5 hN h1 hq hm;rw[h2,qj4 hs]
theorem qm3(a b:Meeting)(hl:a.Voters.length<1000000)(hk:a.Voters.length=b.Voters.length)(hs:∀v∈a.Voters,SmallV v):∀(suf suk:List Voter)(i:Nat),a.Voters.drop i=suf->b.Voters.drop i=suk->∃r,z4p ((a.Voters.length:Nat):Int) (i:Int) a.Voters a.Stopped a.Ill b.Voters b.Stopped b.Ill=some r/\(r=true↔suf=suk)
 |[],suk,i,h,h'=>by
  have:suk=[]:=by rw[<-h',List.drop_eq_nil_iff,<-hk];simp_all
  subst this;refine⟨true,y1e _ _ _ _ _ _ _ _ _ ?_,by simp⟩;rw[q0f h];rfl|y::suf,[],i,h,h'=>by have:=q0d h;have:=List.drop_eq_nil_iff.1 h';omega|y::suf,z::suk,i,h,h'=>by have hlt:=q0d h;have hy:=hs y (List.mem_of_mem_drop (i:=i) (by simp_all));obtain⟨r,g1,g2⟩:=qm3 a b hl hk hs suf suk (i+1) (q03 h) (q03 h');have hv:=y1g (a:=y) (b:=z);cases he:sameV y z with|true=>refine⟨r,y1e _ _ _ _ _ _ _ _ _ ?_,by rw[g2,hv.1 he];simp⟩;rw[q08 h,cT,q04 h,q04 h',qpr hy,bS,he,nT,cF,q01 (by omega)];omega|false=>
   refine⟨false,y1e _ _ _ _ _ _ _ _ _ ?_,?_⟩;·rw[q08 h,cT,q04 h,q04 h',qpr hy,bS,he];rfl
   simp_all
theorem qxo{a:Meeting}(h:SmallMt a)(b:Meeting):∃r,z6c a b=some r/\(r=true↔a=b):=by
 have key:∀r:Bool,a=b↔a.Voters=b.Voters/\a.Stopped=b.Stopped/\a.Ill=b.Ill:=fun _=>by cases a;cases b;simp
 by_cases h1:a.Stopped=b.Stopped;case neg=>exact⟨false,qwc _ _ _ (by rw[q1i h1];rfl),by simp;rintro rfl;exact h1 rfl⟩
 by_cases h2:a.Ill=b.Ill;case neg=>exact⟨false,qwc _ _ _ (by rw[h1,q0i,cF,q1i h2];rfl),by simp;rintro rfl;exact h2 rfl⟩
 by_cases h3:a.Voters.length=b.Voters.length;case neg=>exact⟨false,qwc _ _ _ (by rw[h1,q0i,cF,h2,q0i,cF,q1i (by omega)];rfl),by simp;rintro rfl;exact h3 rfl⟩
 obtain⟨r,g1,g2⟩:=qm3 a b h.len h3 h.voters a.Voters b.Voters 0 rfl rfl;refine⟨r,qwc _ _ _ ?_,?_⟩;·rw[show neB a.Stopped b.Stopped=false by rw[h1];exact q0i _,cF,show neB a.Ill b.Ill=false by rw[h2];exact q0i _,cF,show neB ((a.Voters.length:Nat):Int) ((b.Voters.length:Nat):Int)=false by rw[h3];exact q0i _,cF];exact g1
 simp_all
def c3:Config:=⟨[⟨true,⟨2,[0,1,2],[]⟩⟩,⟨true,⟨2,[0,1,2],[]⟩⟩,⟨true,⟨2,[0,1,2],[]⟩⟩]⟩
def t3:Trust:=⟨2,[0,1,2],[]⟩
def x3:Claim:=⟨0,1⟩
def a0:Voter:=⟨0,1,t3,[],[],[],[]⟩
def b0:Voter:=⟨1,1,t3,[],[],[],[]⟩
def d0:Voter:=⟨2,1,t3,[],[],[],[]⟩
def a1:Voter:=⟨0,2,t3,[x3],[],[],[]⟩
def b1:Voter:=⟨1,2,t3,[x3],[],[],[]⟩
def b2:Voter:=⟨1,3,t3,[x3],[x3],[],[say a1]⟩
def a2:Voter:=⟨0,3,t3,[x3],[x3],[x3],[say b2]⟩
def b3:Voter:=⟨1,3,t3,[x3],[x3],[x3],[say a2]⟩
def p3:List Play:=[⟨1,0,0,x3,noT,noM⟩,⟨1,1,0,x3,noT,noM⟩,⟨2,0,1,⟨0,0⟩,noT,noM⟩,⟨2,1,0,⟨0,0⟩,noT,noM⟩,⟨2,0,1,⟨0,0⟩,noT,noM⟩,⟨2,1,0,⟨0,0⟩,noT,noM⟩]
theorem q7u{b u:Voter}{A C:List Claim}{s:Int}(h1:(q0l u).Accepts=A)(h2:(q0l u).Confirms=C)(hs:(b.Trust=u.Trust/\b.Votes=u.Votes/\b.Accepts=A/\s=u.Seq)\/(¬(b.Trust=u.Trust/\b.Votes=u.Votes/\b.Accepts=A)/\s=u.Seq+1)):turnV b u=⟨u.Node,s,u.Trust,u.Votes,A,C,u.Heard⟩:=by
 obtain⟨g1,g2,g3,g4,g5⟩:=q2k u;have e:q0l u=⟨u.Node,u.Seq,u.Trust,u.Votes,A,C,u.Heard⟩:=by rw[<-g1,<-g2,<-g3,<-g4,<-g5,<-h1,<-h2]
 rw[turnV,e];grind
theorem qka{m:Meeting}{p:Play}{k:Int}{w:Voter}(ha:mAsk m p=0)(hc:mChg m p=(k,w,0))(h4:p.Kind≠4):stepM m p=(⟨m.Voters.set k.toNat w,m.Stopped,m.Ill⟩,0):=by unfold stepM;simp_all
theorem qyu{v w:Voter}{x:Claim}(h1:q2y v=true)(h2:vcl x=true)(h3:(v.Votes++v.Accepts)=[])(hw:turnV v {v with Votes:=q16 (v.Votes++[x])}=w):voteV v x=(w,0):=by have h5:v.Votes=[]:=(List.append_eq_nil_iff.1 h3).1;unfold voteV;simp_all
theorem ex1:stepM ⟨[a0,b0,d0],0,4⟩ ⟨1,0,0,x3,noT,noM⟩=(⟨[a1,b0,d0],0,4⟩,0):=by have hv:voteV a0 x3=(a1,0):=qyu (by rfl) (by rfl) rfl (q7u (A:=[]) (C:=[]) (s:=2) (by rfl) (by rfl) (.inr ⟨fun h=>by have:=h.2.1;revert this;decide+kernel,rfl⟩));exact qka (k:=0) (w:=a1) (by rfl) (by show((0:Int),(voteV a0 x3).1,(voteV a0 x3).2)=_;rw[hv]) (by decide)
theorem ex2:stepM ⟨[a1,b0,d0],0,4⟩ ⟨1,1,0,x3,noT,noM⟩=(⟨[a1,b1,d0],0,4⟩,0):=by have hv:voteV b0 x3=(b1,0):=qyu (by rfl) (by rfl) rfl (q7u (A:=[]) (C:=[]) (s:=2) (by rfl) (by rfl) (.inr ⟨fun h=>by have:=h.2.1;revert this;decide+kernel,rfl⟩));exact qka (k:=1) (w:=b1) (by rfl) (by show((1:Int),(voteV b0 x3).1,(voteV b0 x3).2)=_;rw[hv]) (by decide)
theorem ex3:stepM ⟨[a1,b1,d0],0,4⟩ ⟨2,0,1,⟨0,0⟩,noT,noM⟩=(⟨[a1,b2,d0],0,4⟩,0):=by
 have hv:hearV b1 (say a1)=(b2,0):=by rw[qal (by rfl) (by rfl) (by decide+kernel) (by rfl),q7u (A:=[x3]) (C:=[]) (s:=3) (by rfl) (by rfl) (.inr ⟨fun h=>by have:=h.2.2;revert this;decide+kernel,rfl⟩)];rfl
 exact qka (k:=1) (w:=b2) (by rfl) (by show((1:Int),(hearV b1 (say a1)).1,(hearV b1 (say a1)).2)=_;rw[hv]) (by decide)
theorem ex4:stepM ⟨[a1,b2,d0],0,4⟩ ⟨2,1,0,⟨0,0⟩,noT,noM⟩=(⟨[a2,b2,d0],0,4⟩,0):=by
 have hv:hearV a1 (say b2)=(a2,0):=by rw[qal (by rfl) (by rfl) (by decide+kernel) (by rfl),q7u (A:=[x3]) (C:=[x3]) (s:=3) (by rfl) (by rfl) (.inr ⟨fun h=>by have:=h.2.2;revert this;decide+kernel,rfl⟩)];rfl
 exact qka (k:=0) (w:=a2) (by rfl) (by show((0:Int),(hearV a1 (say b2)).1,(hearV a1 (say b2)).2)=_;rw[hv]) (by decide)
theorem ex5:stepM ⟨[a2,b2,d0],0,4⟩ ⟨2,0,1,⟨0,0⟩,noT,noM⟩=(⟨[a2,b3,d0],0,4⟩,0):=by
 have hv:hearV b2 (say a2)=(b3,0):=by rw[qal (by rfl) (by rfl) (by decide+kernel) (by rfl),q7u (b:=b2) (u:={b2 with Heard:=hearL (say a2) b2.Heard}) (A:=[x3]) (C:=[x3]) (s:=3) (by rfl) (by rfl) (.inl ⟨rfl,rfl,rfl,rfl⟩)];rfl
 exact qka (k:=1) (w:=b3) (by rfl) (by show((1:Int),(hearV b2 (say a2)).1,(hearV b2 (say a2)).2)=_;rw[hv]) (by decide)
theorem ex6:stepM ⟨[a2,b3,d0],0,4⟩ ⟨2,1,0,⟨0,0⟩,noT,noM⟩=(qrp,9):=by rfl
theorem ya2:playM p3 ⟨[a0,b0,d0],0,4⟩=(⟨[a2,b3,d0],0,4⟩,[0,0,0,0,0,9]):=by simp only[p3,playM,ex1,ex2,ex3,ex4,ex5,ex6,if_true];rfl
theorem y1a:law20_awake=some true:=by
 have hc:ConfOk 3 c3:=(q6l.1 (by decide+kernel)).conf (by decide) (by decide);have hd:∀m∈c3.Members,m.Declared=true:=fun m hm=>by simp[c3]at hm;rw[hm]
 have hr:=qry (N:=3) (by decide) hc hd (ill:=4) (by decide) (l:=p3) (by decide) (fun p hp=>by simp only[p3,List.mem_cons,List.not_mem_nil,or_false]at hp;rcases hp with rfl|rfl|rfl|rfl|rfl|rfl<;>exact⟨q2a,qet⟩);have hs:q42 c3=[a0,b0,d0]:=rfl;have he:runM c3 4 p3=(⟨[a2,b3,d0],0,4⟩,[0,0,0,0,0,9]):=by unfold runM;rw[hs];exact ya2
 rw[he]at hr;apply law20_awake_le;have h3:law20_three=some c3:=law20_three_le _ rfl;have hr':z3w c3 4 p3=some (⟨[a2,b3,d0],0,4⟩,[0,0,0,0,0,9],0):=hr;rw[h3,bS];show(z3w c3 4 p3).bind _=_;rw[hr',bS];have q1:z57 [x3] x3=some true:=by rw[qo6 _ (by decide)];rfl
 show((z57 [x3] x3).bind fun r=>bif r then(z57 [x3] x3).bind fun z=>some z else some false)=some true;simp_all
structure Party(n k:Nat)(d:Bool)(c:Config)(ill:Nat)(l:List Play):Prop where
 conf:ConfOk n c
 decl:∀m∈c.Members,m.Declared=true
 ill:ill<2^c.Members.length
 len:l.length=k
 plays:∀p∈l,DrawnP c.Members.length d p
theorem y4l{n k:Nat}(h1:2<=n)(hn:n<=6)(hk:k<1000){d:Bool}{tl:List Int}{i:Int}(h:q0u tl i):∃c ill l j,law20_party (n:Int) (k:Int) d tl i=some (c,((ill:Nat):Int),l,tl,j)/\Party n k d c ill l/\q0u tl j:=by
 obtain⟨c,j0,g0,c1,c2,t0⟩:=y1b h1 (by omega) h;have hle:=c1.le;have hpos:=c1.pos;have hp:=qc0 (n:=c.Members.length) (by omega);have hp0:=Nat.two_pow_pos c.Members.length;obtain⟨x1,j1,g1,a1,b1,t1⟩:=N_ok (n:=((2^c.Members.length:Nat):Int)) (by omega) (by omega) t0;obtain⟨x2,j2,g2,m2,t2⟩:=qfi (ps:=[0,1,2,x1]) (by simp) (by simp) t1;have hx2:0<=x2/\x2<=2000:=by grind
 have hand:andI .i64 x2 (subI .i64 ((2^c.Members.length:Nat):Int) 1)=((x2.toNat&&&(2^c.Members.length-1):Nat):Int):=by
  have e:subI .i64 ((2^c.Members.length:Nat):Int) 1=((2^c.Members.length-1:Nat):Int):=by rw[q2n (by omega) (by omega)];omega
  rw[e];have:=q62 (a:=x2.toNat) (b:=2^c.Members.length-1) (by omega) (by omega);grind
 obtain⟨l,j3,g3,q1,q2,t3⟩:=qwm (N:=c.Members.length) hpos (by omega) (d:=d) (c:=c) rfl (ill:=((x2.toNat&&&(2^c.Members.length-1):Nat):Int)) hk t2;refine⟨c,x2.toNat&&&(2^c.Members.length-1),l,j3,law20_party_le _ _ _ _ _ _ ?_,⟨c1,c2,?_,q2,q1⟩,t3⟩;·rw[g0,bS];dsimp only;rw[q0j (by omega),q0j (by omega),shlN (by omega),g1,bS];simp_all
 .have:=Nat.and_le_right (n:=x2.toNat) (m:=2^c.Members.length-1);omega
structure Kept(v w:Voter):Prop where
 votes:w.Votes=v.Votes
 tr:w.Trust=v.Trust
 accs:SubC v.Accepts w.Accepts
 confs:SubC v.Confirms w.Confirms
theorem Kept.refl(v:Voter):Kept v v:=⟨rfl,rfl,fun _ h=>h,fun _ h=>h⟩
theorem y3k{v:Voter}(hv:q2y v=true){m:Message}(h:(hearV v m).2=0):Kept v (hearV v m).1:=by obtain⟨h1,h2,h3⟩:=qeq h;obtain⟨hs,_⟩:=y3a hv h;rw[qal hv h1 h2 h3]at hs⊢;obtain⟨s,_,e,_⟩:=q4e v {v with Heard:=hearL m v.Heard};obtain⟨g1,g2,g3,g4,g5⟩:=q2k {v with Heard:=hearL m v.Heard};exact⟨by simp_all,by simp_all,hs.accs,hs.confs⟩
structure KeptM(m0 m:Meeting):Prop where
 stop:m.Stopped=m0.Stopped
 ill:m.Ill=m0.Ill
 len:m.Voters.length=m0.Voters.length
 kept:∀b,b<m0.Voters.length->Kept (atV m0.Voters b) (atV m.Voters b)idle:∀b,b<m0.Voters.length->(m0.Ill.toNat|||m0.Stopped.toNat).testBit b=true->atV m.Voters b=atV m0.Voters b
theorem qxq{N q:Nat}(hN:N<=10)(hq:q<=100000){m0:Meeting}(m:Meeting)(a b:Nat)(h:GoodMt N q m/\KeptM m0 m)(h0:(stepM m (sendP a b)).2=0):GoodMt N q (stepM m (sendP a b)).1/\KeptM m0 (stepM m (sendP a b)).1:=by
 obtain⟨hg,hk⟩:=h;refine⟨hg.send hN hq h0,?_⟩;obtain⟨_,ho,e,ha,hb,hne,hia,hib⟩:=q6e h0;have hl:=hg.len;have A:=hg.mt.all a (by show a<N;omega);have B:=hg.mt.all b (by show b<N;omega);have B':(atV m.Voters b).Node=(b:Int):=B.node;have hh:=qal B.valid (q0x.1 A.valid).1.say (by show(atV m.Voters a).Node≠(atV m.Voters b).Node;rw[A.node,B'];omega) ho;have hkp:=y3k B.valid (m:=say (atV m.Voters a)) (by rw[hh]);rw[hh]at hkp;rw[e];refine⟨hk.stop,hk.ill,by simp[hk.len],fun d hd=>?_,fun d hd hi=>?_⟩
 .have hd0:=hk.kept d hd;dsimp only;rw[q5k hb];by_cases e:b=d;·subst e;rw[if_pos rfl];exact⟨hkp.votes.trans hd0.votes,hkp.tr.trans hd0.tr,fun x hx=>hkp.accs x (hd0.accs x hx),fun x hx=>hkp.confs x (hd0.confs x hx)⟩
  simp_all
 .dsimp only;rw[q5k hb,if_neg];·exact hk.idle d hd hi
  .rintro rfl;rw[hk.ill,hk.stop,hi]at hib;grind
theorem qxa{N q:Nat}(hN:N<=10)(h1:1<=N)(hq:q<=100000){m:Meeting}(hm:GoodMt N q m):∃m',z3x m=some (m',0)/\Still N m'/\GoodMt N q m'/\KeptM m m':=by obtain⟨n,g1,g2⟩:=qn5 hN h1 hq hm;obtain⟨g3,g4⟩:=qe7 (K:=fun x=>GoodMt N q x/\KeptM m x) (qxq hN hq) (q1x N m) n m ⟨hm,rfl,rfl,rfl,fun b _=>Kept.refl _,fun _ _ _=>rfl⟩;simp_all
theorem qql{a b:List Claim}(hb:plainC b=true)(h:SubC a b):q16 (a++b)=b:=by
 refine qg2 (q3n _) hb fun x=>?_;rw[q1m,List.mem_append];constructor
 .rintro⟨_,h1|h1⟩;·exact h x h1
  omega
 .exact fun hx=>⟨(q0y.1 hb).1 x hx,.inr hx⟩
theorem qpg{N q:Nat}(hN:N<=10){m m':Meeting}(hm:GoodMt N q m)(hm':GoodMt N q m')(hk:KeptM m m'){c:Config}(hc:ConfOk N c)(a9:List Int)(a11:Int)(a27:List Voter)(a29 a31:Int):∀(r i:Nat),i+r=N->z29 m.Voters ((m.Voters.length:Nat):Int) (i:Int) a9 a11 c.Members m.Voters m.Stopped m.Ill m'.Voters m'.Stopped m'.Ill a27 a29 a31=some true
 |0,i,h=>by have hl:=hm.len;apply y6t;rw[q00 (by omega),cF];show(z5r c).bind _=_;rw[qi7 (hc.smallC hN),bS,q6l.2 (hc.valid hN),q0m,cT,y1a];rfl|r+1,i,h=>by
  have hl:=hm.len;have hl':=hm'.len;have g1:=q4t (S:=m.Voters) (b:=i) (by omega);have g2:=q4t (S:=m'.Voters) (b:=i) (by omega);have V:=(q0x.1 (hm.mt.all i (by show i<N;omega)).valid).1;have W:=(q0x.1 (hm'.mt.all i (by show i<N;omega)).valid).1;have K:=hk.kept i (by omega);obtain⟨⟨s1,s2⟩,⟨s3,s4⟩,_⟩:=hm.sets;have hp:=qc0 hN;have hor:orI .i64 m.Stopped m.Ill=((m.Ill.toNat|||m.Stopped.toNat:Nat):Int):=by have:=q47 (a:=m.Stopped.toNat) (b:=m.Ill.toNat) (by omega) (by omega);grind
  have v1:=V.vlen;have v2:=V.alen;have v3:=V.clen;have w2:=W.alen;have w3:=W.clen;have u2:=q6n ((atV m.Voters i).Accepts++(atV m'.Voters i).Accepts);have u3:=q6n ((atV m.Voters i).Confirms++(atV m'.Voters i).Confirms);have again:=qpg hN hm hm' hk hc a9 a11 a27 a29 a31 r (i+1) (by omega);apply y6t;rw[q02 (by omega),cT,q0t (y:=atV m.Voters i) (by omega) (by simp_all),q0t (y:=atV m'.Voters i) (by omega) (by simp_all),q5i _ _ (by omega),bS,decide_eq_true K.votes.symm,qp3 _ _ (by omega) (by omega),bS,q5i _ _ (by omega),bS,decide_eq_true (qql W.accs K.accs),qp3 _ _ (by omega) (by omega),bS,q5i _ _ (by omega),bS,decide_eq_true (qql W.confs K.confs),qns _ (q28 V.tr),bS,decide_eq_true K.tr.symm];simp only[nT,cF];rw[hor,q3g (Nat.or_lt_two_pow (n:=10) (by omega) (by omega)),bS,q3a (by omega),q01 (by omega)];cases hb:(m.Ill.toNat|||m.Stopped.toNat).testBit i with|true=>rw[cT,hk.idle i (by omega) hb,q0i,cF];omega|false=>simp_all
theorem qye:∀t,law20_AssemblyCalm t=some true:=by
 intro t;obtain⟨l,h0,h1⟩:=y93 t;obtain⟨c,ill,ps,j,p1,p2,p3⟩:=y4l (n:=5) (k:=20) (by decide) (by decide) (by decide) (d:=true) h1;have hle:=p2.conf.le;have hpos:=p2.conf.pos;have hN:c.Members.length<=10:=by omega
 have hr:=qry (N:=5) (by decide) p2.conf p2.decl p2.ill (l:=ps) (by have:=p2.len;omega) (fun p hp=>(p2.plays p hp).small);have hg:GoodMt c.Members.length (1+ps.length) (runM c ill ps).1:=qpn hN ps 1 _ (qfl (N:=5) (by decide) p2.conf p2.decl p2.ill) (by have:=p2.len;omega);have hq:1+ps.length<=100000:=by have:=p2.len;omega
 obtain⟨m',c1,c2,c3,c4⟩:=qxa hN hpos hq hg;have c5:=qy5 hN hpos hq c3 c2;have p1:law20_party 5 20 true l 0=_:=p1;obtain⟨r,s1,s2⟩:=qxo (c3.small hN) m';have hr1:r=true:=s2.2 rfl;have l1:=hg.len;have l2:=c3.len;apply law20_AssemblyCalm_le;rw[h0,bS];dsimp only;rw[p1,bS];dsimp only;rw[hr,bS];dsimp only;rw[c1,bS];dsimp only;rw[c5,bS];dsimp only;rw[q0i,cF,s1,bS,hr1,nT,cF,c4.ill,q0i,cF,c4.stop,q0i,cF,l2,q0i,cF,l1,q0i,cF,qt8 (c3.small hN),bS,c3.valid hN hpos,nT,cF];have hc':ConfOk c.Members.length c:=⟨hpos,Nat.le_refl _,p2.conf.mem⟩;have:=qpg hN hg c3 c4 hc' l j m'.Voters m'.Stopped m'.Ill c.Members.length 0 (by omega);rw[c4.ill,c4.stop,l1]at this;grind
theorem qgn:∀(l k:List Play)(m:Meeting),(playM (l++k) m).1=(playM k (playM l m).1).1|[],k,m=>rfl|p::r,k,m=>by rw[List.cons_append,playM,playM];exact qgn r k _
def q21(k:Nat):Play:=⟨4,(k:Int),0,⟨0,0⟩,noT,noM⟩
theorem qqw(k:Nat):SmallP (q21 k):=⟨q2a,qet⟩
structure Fst(N:Nat)(S:List Voter)(m:Meeting):Prop where
 good:GoodMt N 1 m
 vot:m.Voters=S
 ill:m.Ill=0
theorem y56{N:Nat}(hN:N<=10)(h1:1<=N){S:List Voter}{m:Meeting}(h:Fst N S m){k:Nat}(hk:k<N):Fst N S (if(stepM m (q21 k)).2=0 then(stepM m (q21 k)).1 else m)/\(if(stepM m (q21 k)).2=0 then(stepM m (q21 k)).1 else m).Stopped.toNat.testBit k=true/\∀j,m.Stopped.toNat.testBit j=true->(if(stepM m (q21 k)).2=0 then(stepM m (q21 k)).1 else m).Stopped.toNat.testBit j=true:=by
 have hl:=h.good.len;have hv:=h.good.valid hN h1;by_cases h0:(stepM m (q21 k)).2=0
 .simp only[if_pos h0];obtain⟨ha,w,e,hw⟩:=qao h0;obtain⟨s1,s2,s3⟩:=qde h0 hl h.good.sets;have hwk:whoP (q21 k)=k:=tN k;rw[hwk]at e hw;have hvo:(stepM m (q21 k)).1.Voters=m.Voters:=by
   rw[e];rcases hw with⟨rfl,_⟩|⟨u,hu,_⟩;·exact qv0 (by omega)
   .rcases hu with⟨c,_⟩|⟨c,_⟩|⟨c,_⟩|⟨c,_⟩<;>cases c
  have s3:(stepM m (q21 k)).1.Stopped.toNat=m.Stopped.toNat|||2^k:=by rw[s3];show(if(4:Int)=4 then m.Stopped.toNat|||2^((k:Int)).toNat else _)=_;rw[if_pos rfl,tN]
  refine⟨⟨⟨by rw[hvo];exact h.good.mt,s1⟩,by rw[hvo];exact h.vot,by rw[s2];exact h.ill⟩,?_,fun j hj=>?_⟩;·rw[s3,Nat.testBit_or,q8s];simp
  simp_all
 .simp only[if_neg h0];refine⟨h,?_,fun _ hj=>hj⟩;cases hb:m.Stopped.toNat.testBit k with|true=>rfl|false=>
   exfalso;apply h0;have hask:mAsk m (q21 k)=0:=by
    unfold mAsk;rw[if_neg,if_neg,if_neg,if_neg];·have:mGone m (q21 k)=has m.Stopped.toNat (k:Int):=rfl;rw[this,q3a (by omega),hb];simp
    .show¬(has m.Ill.toNat (k:Int)≠false);rw[h.ill,q3a (by omega)];simp
    .rintro⟨g,_⟩;cases g
    .rintro(g|g|g|g|g);·rw[hv]at g;cases g
     .have g:(4:Int)<1:=g;omega
     .have g:(5:Int)<4:=g;omega
     .have g:(k:Int)<0:=g;omega
     .have g:(m.Voters.length:Int)<=(k:Int):=g;omega
   have hc:(mChg m (q21 k)).2.2=0:=rfl;unfold stepM;simp_all
theorem y1q{N:Nat}(hN:N<=10)(h1:1<=N){S:List Voter}:∀(l:List Nat)(m:Meeting),(∀k∈l,k<N)->Fst N S m->Fst N S (playM (l.map q21) m).1/\(∀k∈l,(playM (l.map q21) m).1.Stopped.toNat.testBit k=true)/\∀j,m.Stopped.toNat.testBit j=true->(playM (l.map q21) m).1.Stopped.toNat.testBit j=true|[],m,_,h=>⟨h,(fun _ h=>by cases h),fun _ h=>h⟩|k::r,m,hl,h=>by obtain⟨g1,g2,g3⟩:=y56 hN h1 h (hl k (by simp));obtain⟨i1,i2,i3⟩:=y1q hN h1 r _ (fun x hx=>hl x (by simp[hx])) g1;rw[List.map_cons,playM];simp_all
def layW(c:Config)(G:Nat->Prop)(Cl:Claim->Prop):Lay:=⟨c.Members.length,G,fun k t=>t=tr c k,Cl⟩
theorem y4o(k:Int):has (0:Int).toNat k=false:=by unfold has;simp
structure Idle(c:Config)(gone:Nat)(q:Nat)(m:Meeting):Prop where
 mt:MtI (layW c (fun a=>a<c.Members.length) fun _=>True) q m.Voters
 good:GoodMt c.Members.length q m
 ill:m.Ill=0
 stop:∀k,gone.testBit k=true->m.Stopped.toNat.testBit k=true
 same:∀k,gone.testBit k=true->k<c.Members.length->atV m.Voters k=qco c k
theorem Idle.up{c:Config}{gone q:Nat}{m:Meeting}(h:Idle c gone q m):Idle c gone (q+1) m:=⟨mt_up h.mt,h.good.up,h.ill,h.stop,h.same⟩
theorem y40{c:Config}(hN:c.Members.length<=10){gone q:Nat}(hq:q<=99000){m:Meeting}(h:Idle c gone q m){p:Play}(hp:p.Kind=3->False)(h0:(stepM m p).2=0):Idle c gone (q+1) (stepM m p).1:=by
 have hG:∀a:Nat,(layW c (fun a=>a<c.Members.length) fun _=>True).G a->has m.Ill.toNat (a:Int)=false:=fun a _=>by rw[h.ill];exact y4o _
 have hP:PlayOk (layW c (fun a=>a<c.Members.length) fun _=>True) p:=⟨fun _=>trivial,fun e=>(hp e).elim,fun _ _ _=>trivial⟩;obtain⟨s1,s2,s3⟩:=qde h0 h.good.len h.good.sets;obtain⟨ha,w,e,hw⟩:=qao h0;obtain⟨hv,_,_,f1,f2,ht,hi,hs⟩:=q4j ha;have hl:=h.good.len;refine⟨(y3z hN (by omega) h.mt hP hG h0).1,h.good.step hN (by omega) h0,by rw[s2];exact h.ill,fun k hk=>?_,fun k hk hkN=>?_⟩
 .rw[s3];split;·rw[Nat.testBit_or,h.stop k hk];rfl
  .exact h.stop k hk
 .rw[e];dsimp only;have hwho:whoP p<c.Members.length/\whoP p≠k:=by unfold whoP;cases hk':pairK p.Kind with|true=>have:=ht hk';simp only[if_true];refine⟨by omega,fun e=>?_⟩;have h4:=this.2.2.2;rw[show p.To=((p.To.toNat:Nat):Int)by omega,e,q3a (by omega),Nat.testBit_or,h.stop k hk]at h4;grind|false=>simp only[fT,if_false];refine⟨by omega,fun e=>?_⟩;have h4:=hs hk';rw[show p.From=((p.From.toNat:Nat):Int)by omega,e,q3a (by omega),h.stop k hk]at h4;grind
  rw[q5k (by omega),if_neg hwho.2];exact h.same k hk hkN
theorem qzs{c:Config}(hN:c.Members.length<=10){gone q:Nat}(hq:q<=99000)(m:Meeting)(a b:Nat)(h:Idle c gone q m)(h0:(stepM m (sendP a b)).2=0):Idle c gone q (stepM m (sendP a b)).1:=by
 obtain⟨_,ho,e,ha,hb,hne,hia,hib⟩:=q6e h0;have hmt:=y2j (P:=layW c (fun a=>a<c.Members.length) fun _=>True) hN (by omega) h.mt h0;have hgd:=h.good.send hN (by omega) h0;refine⟨hmt,hgd,by rw[e];exact h.ill,fun k hk=>by rw[e];exact h.stop k hk,fun k hk hkN=>?_⟩;rw[e];dsimp only;rw[q5k hb,if_neg];·exact h.same k hk hkN
 .rintro rfl;rw[Nat.testBit_or,h.stop b hk]at hib;simp_all
theorem y36{c:Config}(hN:c.Members.length<=10)(hd:∀m∈c.Members,m.Declared=true){gone q:Nat}{m:Meeting}(h:Idle c gone q m)(hh:haltB c gone=true){b:Nat}(hb:b<c.Members.length):(atV m.Voters b).Confirms=[]:=by cases hC:(atV m.Voters b).Confirms with|nil=>rfl|cons y r=>
  exfalso;obtain⟨U,u1,u2,u3⟩:=(h.mt.all b hb).conf hb y (by rw[hC];simp);have u2:∀k,U.testBit k=true->k<c.Members.length:=u2;have u3:∀k,U.testBit k=true->y∈(atV m.Voters k).Accepts/\sat U (tr c k)=true:=fun k hk=>by obtain⟨g1,t,g2,g3⟩:=u3 k hk (u2 k hk);have g2:t=tr c k:=g2;exact⟨g1,by rw[<-g2];exact g3⟩
  have hQ:q2x c U:=⟨nz.2 ⟨b,u1⟩,fun k hk=>by have hk':=u2 k hk;exact q3k.2 ⟨by omega,c.Members[k],by simp[hk'],hd _ (List.getElem_mem hk')⟩,fun k hk=>(u3 k hk).2⟩;have hsub:Sub U (ndiff (2^c.Members.length-1) gone):=fun k hk=>by rw[q0b,Nat.testBit_two_pow_sub_one,aT,dT',Bool.not_eq_true'];refine⟨u2 k hk,?_⟩;cases hg:gone.testBit k with|false=>rfl|true=>have:=(u3 k hk).1;rw[h.same k hg (u2 k hk)]at this;cases this
  have hp:=qc0 hN;have hlt:ndiff (2^c.Members.length-1) gone<1024:=q6m (by omega);have:=qgu c hlt hQ hsub b u1;unfold haltB at hh;simp_all
theorem qma{N q:Nat}{m:Meeting}(hN:N<=10)(hl:m.Voters.length=N){a0:Bool}(hc:a0=true->∀b,b<N->(atV m.Voters b).Confirms=[])(hs:∀b,b<N->(atV m.Voters b).Confirms.length<=1000)(a8:List Int)(a10:Int)(a12:List Member)(a14:List Voter)(a16 a18:Int)(a20:List Voter)(a22 a24:Int):∀(r i:Nat),i+r=N->z24 a0 m.Voters ((m.Voters.length:Nat):Int) (i:Int) a8 a10 a12 a14 a16 a18 a20 a22 a24=some true|0,i,h=>by apply y8h;rw[q00 (by omega),cF,y1a];rfl|r+1,i,h=>by have g1:=q4t (S:=m.Voters) (b:=i) (by omega);have again:=qma (q:=q) hN hl hc hs a8 a10 a12 a14 a16 a18 a20 a22 a24 r (i+1) (by omega);apply y8h;rw[q02 (by omega),cT,q0t (y:=atV m.Voters i) (by omega) (by simp_all),q01 (by omega)];cases a0 with|true=>rw[cT,hc rfl i (by omega),q00 (by simp),cF];omega|false=>simp_all
theorem qli{a2:Int}{l:List Int}{i:Int}{ms:List Member}(w:List Nat)(hw:w.length<=10){R:Bool}(hR:z23 a2 (w.map q21) (w.map Int.ofNat) ((w.length:Nat):Int) ((w.length:Nat):Int) l i ms=some R):∀(suf pre:List Nat),w=pre++suf->z23 a2 (pre.map q21) (w.map Int.ofNat) ((w.length:Nat):Int) ((pre.length:Nat):Int) l i ms=some R
 |[],pre,h=>by simp_all|k::suf,pre,h=>by
  have hlen:w.length=pre.length+(suf.length+1):=by simp_all
  have again:=qli w hw hR suf (pre++[k]) (by simp_all);have hg:(w.map Int.ofNat)[pre.length]?=some (k:Int):=by simp_all
  apply y7j;rw[q02 (by omega),cT,q0t (y:=(k:Int)) (by omega) (by simp_all),q07 (by simp[q06];omega),q01 (by omega)];rw[List.map_append,List.length_append]at again;exact again
theorem qso:∀t,law20_AssemblyHalts t=some true:=by
 intro t;obtain⟨l,h0,h1⟩:=y93 t;obtain⟨c,j0,g0,c1,c2,t0⟩:=y1b (n:=5) (by decide) (by decide) h1;have g0:z7q 5 l 0=_:=g0;have hle:=c1.le;have hpos:=c1.pos;have hN:c.Members.length<=10:=by omega
 have hp:=qc0 hN;have hp0:=Nat.two_pow_pos c.Members.length;obtain⟨x1,j1,g1,a1,b1,t1⟩:=N_ok (n:=((2^c.Members.length:Nat):Int)) (by omega) (by omega) t0;obtain⟨gone,rfl⟩:∃g:Nat,x1=(g:Int):=⟨x1.toNat,by omega⟩;have hgone:gone<2^c.Members.length:=by omega
 obtain⟨ps,j2,g2,q1,q2,t2⟩:=qwm (N:=c.Members.length) hpos hN (d:=false) (c:=c) rfl (ill:=0) (n:=24) (by decide) t1;have hw:=qeu gone;have hlen:((nodes gone).map q21++ps).length<=400:=by simp;omega
 have hsm:∀p∈(nodes gone).map q21++ps,SmallP p:=fun p hp=>by
  rcases List.mem_append.1 hp with hp|hp;·obtain⟨k,_,rfl⟩:=List.mem_map.1 hp;exact qqw k
  .exact(q1 p hp).small
 have hr:=qry (N:=5) (by decide) c1 c2 (ill:=0) (by omega) hlen hsm;have hrun:(runM c 0 ((nodes gone).map q21++ps)).1=(playM ps (playM ((nodes gone).map q21) ⟨q42 c,0,((0:Nat):Int)⟩).1).1:=qgn _ _ _;have hF0:Fst c.Members.length (q42 c) ⟨q42 c,0,((0:Nat):Int)⟩:=⟨qfl (N:=5) (by decide) c1 c2 (by omega),rfl,rfl⟩;have hnb:∀k,k∈nodes gone↔gone.testBit k=true:=fun k=>by rw[q6f];exact⟨fun h=>h.1,fun h=>⟨h,q6b (by omega) h⟩⟩
 have hsubN:∀k,gone.testBit k=true->k<c.Members.length:=fun k hk=>by
  rcases Nat.lt_or_ge k c.Members.length with h|h;·exact h
  .rw[Nat.testBit_lt_two_pow (Nat.lt_of_lt_of_le hgone (Nat.pow_le_pow_right (by decide) h))]at hk;cases hk
 obtain⟨F1,F2,_⟩:=y1q hN hpos (S:=q42 c) (nodes gone) _ (fun k hk=>hsubN k ((hnb k).1 hk)) hF0;have hI0:Idle c gone 1 (playM ((nodes gone).map q21) ⟨q42 c,0,((0:Nat):Int)⟩).1:=by
  refine⟨?_,F1.good,F1.ill,fun k hk=>F2 k ((hnb k).2 hk),fun k hk hkN=>?_⟩;·rw[F1.vot];exact qud (N:=5) (by decide) c1 c2 rfl fun _ _ _=>rfl
  .rw[F1.vot];exact qov c hkN
 have hI1:Idle c gone (1+ps.length) (playM ps (playM ((nodes gone).map q21) ⟨q42 c,0,((0:Nat):Int)⟩).1).1:=quv (K:=Idle c gone) ps (fun q m p hp hq h h0=>y40 hN (by omega) h (fun e=>by have:=((q1 p hp).decl e).1;cases this) h0) (fun q m h=>h.up) 1 _ (by omega) hI0;rw[<-hrun]at hI1;obtain⟨n,k1,k2⟩:=qn5 hN hpos (by omega) hI1.good;have hI2:=qe7 (K:=Idle c gone (1+ps.length)) (qzs hN (by omega)) (q1x c.Members.length (runM c 0 ((nodes gone).map q21++ps)).1) n _ hI1;generalize hm2:iterM (q1x c.Members.length (runM c 0 ((nodes gone).map q21++ps)).1) n (runM c 0 ((nodes gone).map q21++ps)).1=m2 at*;have hl2:=hI2.good.len;obtain⟨_,⟨z1,z2⟩,_⟩:=hI2.good.sets;have hand:andI .i64 m2.Stopped (gone:Int)=(gone:Int):=by have:=q62 (a:=m2.Stopped.toNat) (b:=gone) (by omega) (by omega);rw[Int.toNat_of_nonneg z1]at this;rw[this];congr 1;apply Nat.eq_of_testBit_eq;intro i;rw[Nat.testBit_and];cases hg:gone.testBit i with|true=>rw[hI2.stop i hg];rfl|false=>simp
 apply law20_AssemblyHalts_le;rw[h0,bS];dsimp only;rw[g0,bS];dsimp only;rw[q0j (by omega),shlN hN,g1,bS];dsimp only;rw[qw1 (by omega),bS,List.length_map];refine qli (nodes gone) hw ?_ (nodes gone) [] rfl;apply y7j;rw[q00 (by omega),cF];have g2':z7j ⟨c.Members⟩ 0 24 false l j1=some (ps,l,j2):=g2;have hr':z3w ⟨c.Members⟩ 0 ((nodes gone).map q21++ps)=_:=hr;rw[g2',bS];dsimp only;rw[q07 (by simp[q06];omega),hr',bS];dsimp only;rw[k1,bS];dsimp only;rw[q0i,cF,hl2,q0i,cF,hand,q0i,cF];have hh:z75 ⟨c.Members⟩ (gone:Int)=some (haltB c gone,0):=by have:=qz8 (c1.smallC (by decide)) (gone:Int);rw[y64 (c1.valid (by decide)) hgone]at this;exact this
 rw[hh,bS];dsimp only;have:=qma (q:=0) hN hl2 (a0:=haltB c gone) (fun h b hb=>y36 hN c2 hI2 h hb) (fun b hb=>by have:=(q0x.1 (hI2.mt.all b hb).valid).1.clen;omega) l j2 c.Members (runM c 0 ((nodes gone).map q21++ps)).1.Voters (runM c 0 ((nodes gone).map q21++ps)).1.Stopped (runM c 0 ((nodes gone).map q21++ps)).1.Ill m2.Voters m2.Stopped m2.Ill c.Members.length 0 (by omega);simp_all
end Go.Proofs.YtdmfjabikomgiaaGreat
namespace Go.Proofs.YtdmfjabikomgiaaGreat
open Go Go.Ab Go.ChangeShapes Go.WideShapes Go.ChangeAt Go.WideMaps Go.WideElems Go.RowKit
theorem Tryz.own:ownKnob Tryz.prog.godebug=none:=by rfl
theorem Tryz.laidOut:laidOutB Tryz.prog=true:=by kernel_rfl
theorem qp9{f:Nat}(hlaw:∀zs:List Int,(∀z∈zs,(Lit.int .i64 z).wf=true)->∃n h',call env n f [.d (ints .i64 zs)] []=some (.d (.v (.bool true)),h')){W:World}{v:Value}{zs:List Int}(hz:∀z∈zs,(Lit.int .i64 z).wf=true)(hv:Rep W qcc (ints .i64 zs) v):Calls Tryz.prog f #[v] W fun e w'=>e=.returned (.bool true)/\Below W.heap.size W w':=by obtain⟨n,h',hc⟩:=hlaw zs hz;exact top (E:=env) (yg4 n) (fun g cs hg=>by cases hg) (ds:=[ints .i64 zs]) hc rfl (fun i d hd=>by cases i with|zero=>simp_all|succ i=>grind)
end Go.Proofs.YtdmfjabikomgiaaGreat
