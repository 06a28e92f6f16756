/- Laws of the printed functions. -/
import Derived.Test.YtdmfjabikomgiaaGreatP20SegA
namespace Go.Proofs.YtdmfjabikomgiaaGreat
open Go Go.Ab
variable {n : Nat} {m : Message} {z : Int}
def insB(t:Trust)(n:Nat):Bool:=decide (uses t<2^n)
def q7u(n:Nat)(l:LM):Bool:=l.all fun x=>decide (x.Node<(n:Int))&&insB x.Trust n
def q7s(n:Nat):Nat->LV->Bool|_,[]=>true|k,v::r=>decide (v.Node=(k:Int))&&(q21 v&&(insB v.Trust n&&(q7u n v.Heard&&q7s n (k+1) r)))
abbrev q6d(m:Meeting):Prop:=1<=m.Voters.length/\m.Voters.length<=10/\(0<=m.Ill/\m.Ill<((2^m.Voters.length:Nat):Int))/\(0<=m.Stopped/\m.Stopped<((2^m.Voters.length:Nat):Int))/\m.Ill.toNat&&&m.Stopped.toNat=0
def q3i(m:Meeting):Bool:=decide (q6d m)&&q7s m.Voters.length 0 m.Voters
structure SmallMt(m:Meeting):Prop where
 len:m.Voters.length<1000000
 voters:∀v∈m.Voters,SmallV v
theorem shlN(h:n<=10):shlI .i64 1 (n:Int)=((2^n:Nat):Int):=by rw[shl1 (by omega) (by omega),tN]
theorem qb4(h:n<=10):2^n<=1024:=Nat.pow_le_pow_right (by decide) h
theorem qdt{t:Trust}(ht:Small t)(hn:n<=10):z4a t (n:Int)=some (insB t n):=by apply yih;rw[q0i (by omega),qy3 t ht,bS,shlN hn];unfold ltB insB;congr 1;grind
theorem y7g(hm:SmallM m)(hn:n<=10):z7u m (n:Int)=some (!(decide (m.Node<(n:Int))&&insB m.Trust n),(n:Int)):=by
 apply yhy;by_cases h:m.Node<(n:Int);·rw[show leB (n:Int) m.Node=false by unfold leB;simp;omega,cF,qdt hm.tr hn];grind
 .rw[show leB (n:Int) m.Node=true by unfold leB;simp;omega,cT];grind
theorem qwl(l:LM)(hl:l.length<1000000)(hm:∀m∈l,SmallM m){n:Nat}(hn:n<=10):∀(suf:LM)(i:Nat),l.drop i=suf->∃r:Int,z04 l ((l.length:Nat):Int) (i:Int) (n:Int)=some (r,(n:Int))/\leB 0 r=!q7u n suf
 |[],i,h=>by refine⟨-1,y55 _ _ _ _ _ ?_,by rfl⟩;rw[q0c h];rfl|y::suf,i,h=>by
  have hlt:=q09 h;obtain⟨r,h1,h2⟩:=qwl l hl hm hn suf (i+1) (q01 h);have hf:=y7g (hm y (List.mem_of_mem_drop (i:=i) (by simp_all))) hn;by_cases hy:(decide (y.Node<(n:Int))&&insB y.Trust n)=true;·refine⟨r,y55 _ _ _ _ _ ?_,by rw[h2];simp[q7u,hy]⟩;rw[q05 h,cT,q02 h,hf,bS,hy,q03 (by omega)];grind
  .refine⟨i,y55 _ _ _ _ _ ?_,by rw[Bool.not_eq_true]at hy;simp[q7u,hy,leB]⟩;rw[Bool.not_eq_true]at hy;rw[q05 h,cT,q02 h,hf,bS,hy];rfl
theorem y6b(l:LM)(hl:l.length<1000000)(hm:∀m∈l,SmallM m)(hn:n<=10):z0m l (n:Int)=some (!q7u n l,(n:Int)):=by apply yhc;obtain⟨r,h1,h2⟩:=qwl l hl hm hn l 0 rfl;have h3:z0r l (n:Int)=_:=ygl _ _ _ h1;simp_all
theorem y2b{n:Nat}(hn:n<=10)(l:LV)(hl:l.length<1000000)(hv:∀v∈l,SmallV v)(a7:LV)(a9 a11:Int):∀(suf:LV)(i:Nat),l.drop i=suf->z2x l ((l.length:Nat):Int) (i:Int) a7 a9 a11 (n:Int)=some (q7s n i suf)
 |[],i,h=>by apply y8o;rw[q0c h];rfl|y::suf,i,h=>by
  have hlt:=q09 h;have hy:=hv y (List.mem_of_mem_drop (i:=i) (by simp_all));have ih:=y2b hn l hl hv a7 a9 a11 suf (i+1) (q01 h);apply y8o;rw[q05 h,cT,q02 h,qc4 hy,bS,qdt hy.tr hn,bS,y6b _ hy.heard hy.msgs hn,bS,q03 (by omega),ih,q7s];by_cases e:y.Node=(i:Int);·rw[e,q0g];cases q21 y<;>cases insB y.Trust n<;>cases q7u n y.Heard<;>simp
  .rw[q1c e];grind
theorem q6s:leB ((2^n:Nat):Int) z=!decide (z<((2^n:Nat):Int)):=by unfold leB;grind
theorem qi8:ltB z 0=!decide (0<=z):=by unfold ltB;grind
theorem q6y{m:Meeting}(h:SmallMt m):z4v m=some (q3i m):=by
 apply ydu;unfold q3i;by_cases h1:1<=m.Voters.length;case neg=>rw[q04 (by omega),cT,decide_eq_false (p:=q6d m) (fun g=>h1 g.1)];rfl
 rw[q00 (by omega),cF];by_cases h2:m.Voters.length<=10;case neg=>rw[q04 (by omega),cT,decide_eq_false (p:=q6d m) (fun g=>h2 g.2.1)];rfl
 have l1:z2x m.Voters ((m.Voters.length:Nat):Int) 0 m.Voters m.Stopped m.Ill ((m.Voters.length:Nat):Int)=_:=y2b h2 m.Voters h.len h.voters m.Voters m.Stopped m.Ill m.Voters 0 rfl;have hp:=qb4 h2;rw[q00 (by omega),cF,q0i (by omega),q0i (by omega),shlN h2,q6s,q6s,qi8,qi8,l1];by_cases h3:0<=m.Ill;case neg=>grind
 by_cases h4:m.Ill<((2^m.Voters.length:Nat):Int);case neg=>grind
 by_cases h5:0<=m.Stopped;case neg=>grind
 by_cases h6:m.Stopped<((2^m.Voters.length:Nat):Int);case neg=>grind
 have ha:andI .i64 m.Ill m.Stopped=((m.Ill.toNat&&&m.Stopped.toNat:Nat):Int):=by have:=q9g (a:=m.Ill.toNat) (b:=m.Stopped.toNat) (by omega) (by omega);grind
 rw[ha,decide_eq_true h3,decide_eq_true h4,decide_eq_true h5,decide_eq_true h6];simp only[nT,cF];by_cases h7:m.Ill.toNat&&&m.Stopped.toNat=0;·rw[decide_eq_true (p:=q6d m) ⟨h1,h2,⟨h3,h4⟩,⟨h5,h6⟩,h7⟩,h7,show(((0:Nat):Nat):Int)=0 from rfl,q0g,cF];rfl
 .rw[q1c (by omega),cT,decide_eq_false (p:=q6d m) (fun g=>h7 g.2.2.2.2)];rfl
theorem qvr{n:Nat}(hn:n<=10)(l:LM)(hl:l.length<1000000)(hm:∀m∈l,SmallM m){a2 a14:LV}{a4 a6 a16 a18 a20 a22 a24:Int}{a26:LI}{a28:LT}{a30 a32 a34:LC}{a36:LM}{R:Bool}(hR:z3z (n:Int) a2 a4 (addI .i64 a6 1) a14 a16 a18=some R):∀(suf:LM)(i:Nat),l.drop i=suf->z51 (n:Int) a2 a4 a6 l ((l.length:Nat):Int) (i:Int) a14 a16 a18 a20 a22 a24 a26 a28 a30 a32 a34 a36=some (q7u n suf&&R)
 |[],i,h=>by apply y86;rw[q0c h,cF,hR];rfl|y::suf,i,h=>by
  have hlt:=q09 h;have hy:=hm y (List.mem_of_mem_drop (i:=i) (by simp_all));apply y86;rw[q05 h,cT,q02 h,q0i (by omega),qio _ hy.tr,bS,shlN hn,q6s,q03 (by omega),qvr hn l hl hm hR suf (i+1) (q01 h)];have e1:leB (n:Int) y.Node=!decide (y.Node<(n:Int)):=by unfold leB;grind
  have e2:decide (((uses y.Trust:Nat):Int)<((2^n:Nat):Int))=insB y.Trust n:=by unfold insB;grind
  rw[e1,e2];simp only[q7u,List.all_cons];cases decide (y.Node<(n:Int))<;>cases insB y.Trust n<;>simp
theorem y1h{n:Nat}(hn:n<=10)(l:LV)(hl:l.length<1000000)(hv:∀v∈l,SmallV v)(a8:LV)(a10 a12:Int):∀(suf:LV)(i:Nat),l.drop i=suf->z3z (n:Int) l ((l.length:Nat):Int) (i:Int) a8 a10 a12=some (q7s n i suf)
 |[],i,h=>by apply y9v;rw[q0c h];rfl|y::suf,i,h=>by
  have hlt:=q09 h;have hy:=hv y (List.mem_of_mem_drop (i:=i) (by simp_all));have ih:=y1h hn l hl hv a8 a10 a12 suf (i+1) (q01 h);have hd:=hy.heard;have l2:z51 (n:Int) l ((l.length:Nat):Int) (i:Int) y.Heard ((y.Heard.length:Nat):Int) 0 a8 a10 a12 y.Node y.Seq y.Trust.Threshold y.Trust.Nodes y.Trust.Inner y.Votes y.Accepts y.Confirms y.Heard=_:=qvr hn y.Heard hd hy.msgs (by rw[q03 (by omega)];omega) y.Heard 0 rfl;have e2:decide (((uses y.Trust:Nat):Int)<((2^n:Nat):Int))=insB y.Trust n:=by unfold insB;grind
  apply y9v;rw[q05 h,cT,q02 h,qc9 hy,bS,q0i (by omega),qio _ hy.tr,bS,shlN hn,q6s,e2,l2,q7s];by_cases e:y.Node=(i:Int);·rw[e,q0g];cases q21 y<;>cases insB y.Trust n<;>simp
  .rw[q1c e];cases q21 y<;>simp[e]
theorem q6x{m:Meeting}(h:SmallMt m):z6d m=some (q3i m):=by
 apply yf3;unfold q3i;by_cases h1:1<=m.Voters.length;case neg=>rw[q04 (by omega),cT,decide_eq_false (p:=q6d m) (fun g=>h1 g.1)];rfl
 rw[q00 (by omega),cF];by_cases h2:m.Voters.length<=10;case neg=>rw[q04 (by omega),cT,decide_eq_false (p:=q6d m) (fun g=>h2 g.2.1)];rfl
 have l1:z3z ((m.Voters.length:Nat):Int) m.Voters ((m.Voters.length:Nat):Int) 0 m.Voters m.Stopped m.Ill=_:=y1h h2 m.Voters h.len h.voters m.Voters m.Stopped m.Ill m.Voters 0 rfl;have hp:=qb4 h2;rw[q00 (by omega),cF,q0i (by omega),q0i (by omega),shlN h2,q6s,q6s,qi8,qi8,l1];by_cases h3:0<=m.Ill;case neg=>grind
 by_cases h4:m.Ill<((2^m.Voters.length:Nat):Int);case neg=>grind
 by_cases h5:0<=m.Stopped;case neg=>grind
 by_cases h6:m.Stopped<((2^m.Voters.length:Nat):Int);case neg=>grind
 have ha:andI .i64 m.Ill m.Stopped=((m.Ill.toNat&&&m.Stopped.toNat:Nat):Int):=by have:=q9g (a:=m.Ill.toNat) (b:=m.Stopped.toNat) (by omega) (by omega);grind
 rw[ha,decide_eq_true h3,decide_eq_true h4,decide_eq_true h5,decide_eq_true h6];simp only[nT,cF];by_cases h7:m.Ill.toNat&&&m.Stopped.toNat=0;·rw[decide_eq_true (p:=q6d m) ⟨h1,h2,⟨h3,h4⟩,⟨h5,h6⟩,h7⟩,h7,show(((0:Nat):Nat):Int)=0 from rfl,q0g,cF];rfl
 .rw[q1c (by omega),cT,decide_eq_false (p:=q6d m) (fun g=>h7 g.2.2.2.2)];rfl
def pairK(k:Int):Bool:=decide (k=2\/k=5)
def mGone(m:Meeting)(p:Play):Bool:=if pairK p.Kind=true then has (m.Ill.toNat|||m.Stopped.toNat) p.To else has m.Stopped.toNat p.From
def mAsk(m:Meeting)(p:Play):Int:=if q3i m=false\/p.Kind<1\/5<p.Kind\/p.From<0\/(m.Voters.length:Int)<=p.From then 1 else if pairK p.Kind=true/\(p.To<0\/(m.Voters.length:Int)<=p.To\/p.To=p.From)then 1 else if has m.Ill.toNat p.From≠decide (p.Kind=5)then 13 else if mGone m p=true then 13 else 0
noncomputable def mChg(m:Meeting)(p:Play):Int×Voter×Int:=if p.Kind=1 then(p.From,(voteV (atV m.Voters p.From.toNat) p.Claim).1,(voteV (atV m.Voters p.From.toNat) p.Claim).2)else if p.Kind=2 then(p.To,(hearV (atV m.Voters p.To.toNat) (say (atV m.Voters p.From.toNat))).1,(hearV (atV m.Voters p.To.toNat) (say (atV m.Voters p.From.toNat))).2)else if p.Kind=3 then if verr p.Trust≠0 then(0,atV m.Voters p.From.toNat,verr p.Trust)else if insB p.Trust m.Voters.length=false then(0,atV m.Voters p.From.toNat,5)else(p.From,(declV (atV m.Voters p.From.toNat) p.Trust).1,(declV (atV m.Voters p.From.toNat) p.Trust).2)else if p.Kind=5 then if p.Message.Node≠p.From then(0,atV m.Voters p.From.toNat,8)else if msgB p.Message=false then(0,atV m.Voters p.From.toNat,1)else if insB p.Message.Trust m.Voters.length=false then(0,atV m.Voters p.From.toNat,5)else(p.To,(hearV (atV m.Voters p.To.toNat) p.Message).1,(hearV (atV m.Voters p.To.toNat) p.Message).2)else(p.From,atV m.Voters p.From.toNat,0)
def q1u:Meeting:=⟨[],0,0⟩
noncomputable def stepM(m:Meeting)(p:Play):Meeting×Int:=if mAsk m p≠0 then(q1u,mAsk m p)else if(mChg m p).2.2≠0 then(q1u,(mChg m p).2.2)else(⟨m.Voters.set (mChg m p).1.toNat (mChg m p).2.1,if p.Kind=4 then((m.Stopped.toNat|||2^p.From.toNat:Nat):Int)else m.Stopped,m.Ill⟩,0)
structure SmallP(p:Play):Prop where
 tr:Small p.Trust
 msg:SmallM p.Message
theorem ycf(k:Int):z42 k=some (pairK k):=by
 apply ygn;unfold pairK;by_cases h:k=2;·subst h;rfl
 .rw[q0d h,cF];simp[eqB,h]
theorem q10{m:Meeting}:q3i m=true↔(1<=m.Voters.length/\m.Voters.length<=10/\(0<=m.Ill/\m.Ill<((2^m.Voters.length:Nat):Int))/\(0<=m.Stopped/\m.Stopped<((2^m.Voters.length:Nat):Int))/\m.Ill.toNat&&&m.Stopped.toNat=0)/\q7s m.Voters.length 0 m.Voters=true:=by unfold q3i;simp
theorem q1v{n:Nat}:∀{l:LV}{k:Nat},q7s n k l=true↔∀i,i<l.length->(atV l i).Node=((k+i:Nat):Int)/\q21 (atV l i)=true/\uses (atV l i).Trust<2^n/\∀x∈(atV l i).Heard,x.Node<(n:Int)/\uses x.Trust<2^n
 |[],k=>by simp[q7s]|v::r,k=>by
  have ih:=q1v (n:=n) (l:=r) (k:=k+1);have hh:q7u n v.Heard=true↔∀x∈v.Heard,x.Node<(n:Int)/\uses x.Trust<2^n:=by unfold q7u insB;simp
  rw[q7s,aT,aT,aT,aT,ih,hh,dT,insB,dT];constructor;·rintro⟨h1,h2,h3,h4,h5⟩i hi;cases i with|zero=>exact⟨h1,h2,h3,h4⟩|succ i=>have:=h5 i (by simp_all);rw[show k+(i+1)=k+1+i by omega];exact this
  .intro h;obtain⟨h1,h2,h3,h4⟩:=h 0 (by simp);refine⟨h1,h2,h3,h4,fun i hi=>?_⟩;have:=h (i+1) (by simp_all);rw[show k+1+i=k+(i+1)by omega];exact this
theorem yby{m:Meeting}(h:SmallMt m)(p:Play):z8g m p=some (mAsk m p):=by apply ygr;rw[q6y h,bS];unfold mAsk;cases hv:q3i m with|false=>rfl|true=>
  obtain⟨⟨_,h2,⟨h3,h4⟩,⟨h5,h6⟩,_⟩,_⟩:=q10.1 hv;have hp:=qb4 h2;simp only[nT,cF,Bool.true_eq_false,false_or];by_cases k1:p.Kind<1;·rw[q04 k1,if_pos (.inl k1)];rfl
  by_cases k2:5<p.Kind;·rw[q00 (by omega),q04 k2,if_pos (.inr (.inl k2))];rfl
  by_cases k3:p.From<0;·rw[q00 (by omega),q00 (by omega),q04 k3,if_pos (.inr (.inr (.inl k3)))];rfl
  by_cases k4:(m.Voters.length:Int)<=p.From;·rw[q00 (by omega),q00 (by omega),q00 (by omega),show leB ((m.Voters.length:Nat):Int) p.From=true by unfold leB;simp_all,if_pos (.inr (.inr (.inr k4)))];rfl
  rw[q00 (by omega),q00 (by omega),q00 (by omega),show leB ((m.Voters.length:Nat):Int) p.From=false by unfold leB;simp_all,if_neg (by omega),ycf,bS];have e1:z15 m.Ill p.From=some (has m.Ill.toNat p.From):=by have:=q1i (s:=m.Ill.toNat) (by omega) p.From;grind
  have e2:z15 m.Stopped p.From=some (has m.Stopped.toNat p.From):=by have:=q1i (s:=m.Stopped.toNat) (by omega) p.From;grind
  have e3:z15 (orI .i64 m.Ill m.Stopped) p.To=some (has (m.Ill.toNat|||m.Stopped.toNat) p.To):=by have ho:=q3a (a:=m.Ill.toNat) (b:=m.Stopped.toNat) (by omega) (by omega);rw[Int.toNat_of_nonneg h3,Int.toNat_of_nonneg h5]at ho;rw[ho];exact q1i (Nat.or_lt_two_pow (n:=10) (by omega) (by omega)) p.To
  have e4:eqB p.Kind 5=decide (p.Kind=5):=rfl;rw[e1,e2,e3,e4];unfold mGone;simp only[bS,cF];cases hk:pairK p.Kind with|true=>
   simp only[cT,true_and,if_true];by_cases t1:p.To<0;·rw[q04 t1,if_pos (.inl t1)];rfl
   by_cases t2:(m.Voters.length:Int)<=p.To;·rw[q00 (by omega),show leB ((m.Voters.length:Nat):Int) p.To=true by unfold leB;simp;omega,if_pos (.inr (.inl t2))];rfl
   by_cases t3:p.To=p.From;·rw[q00 (by omega),show leB ((m.Voters.length:Nat):Int) p.To=false by unfold leB;simp;omega,t3,q0e,if_pos (.inr (.inr rfl))];rfl
   rw[q00 (by omega),show leB ((m.Voters.length:Nat):Int) p.To=false by unfold leB;simp;omega,q0d t3,if_neg (by omega)];grind|false=>grind
theorem q3p{m:Meeting}{p:Play}(h:mAsk m p=0):q3i m=true/\1<=p.Kind/\p.Kind<=5/\0<=p.From/\p.From<(m.Voters.length:Int)/\(pairK p.Kind=true->0<=p.To/\p.To<(m.Voters.length:Int)/\p.To≠p.From/\has (m.Ill.toNat|||m.Stopped.toNat) p.To=false)/\has m.Ill.toNat p.From=decide (p.Kind=5)/\(pairK p.Kind=false->has m.Stopped.toNat p.From=false):=by
 unfold mAsk at h;split at h;·cases h
 .rename_i h1;split at h;·cases h
  .rename_i h2;split at h;·cases h
   .rename_i h3;split at h;·cases h
    .rename_i h4;have hv:q3i m=true:=by simp_all
     refine⟨hv,by omega,by omega,by omega,by omega,fun hk=>?_,by simp_all,fun hk=>?_⟩;·unfold mGone at h4;simp_all
     .unfold mGone at h4;simp_all
theorem ycq{m:Meeting}(h:SmallMt m){p:Play}(hp:SmallP p)(ha:mAsk m p=0):z7q m p=some (mChg m p):=by
 obtain⟨hv,k1,k2,f1,f2,ht,_,_⟩:=q3p ha;obtain⟨⟨_,h2,_⟩,hvs⟩:=q10.1 hv;have gf:m.Voters[p.From.toNat]?=some (atV m.Voters p.From.toNat):=q2b (by omega);have vf:=q1v.1 hvs p.From.toNat (by omega);have sf:=h.voters _ (List.mem_of_getElem? gf);have rf:=(q14.1 vf.2.1).1;apply yg0;rw[q0m f1 gf];unfold mChg;by_cases e1:p.Kind=1;·rw[if_pos e1,e1,q0e,cT,y1q sf,bS,q0t]
 rw[if_neg e1,q0d e1,cF];by_cases e2:p.Kind=2;·have ht:=ht (by rw[e2];rfl);have gt:m.Voters[p.To.toNat]?=some (atV m.Voters p.To.toNat):=q2b (by omega);have st:=h.voters _ (List.mem_of_getElem? gt);rw[if_pos e2,e2,q0e,cT,q0m ht.1 gt,y66 (q34 rf.tr).1 sf.votes sf.accs,bS,qq2 st (q19 rf.say),bS,q0t]
 rw[if_neg e2,q0d e2,cF];by_cases e3:p.Kind=3
 .rw[if_pos e3,e3,q0e,cT,q9a _ hp.tr,bS,q0t];by_cases z:verr p.Trust=0;·rw[z,q0g,cF,if_neg (by simp),qdt hp.tr h2,bS,y2q sf hp.tr,bS,q0t];cases insB p.Trust m.Voters.length<;>simp
  .rw[q1c z,cT,if_pos z]
 rw[if_neg e3,q0d e3,cF];by_cases e5:p.Kind=5
 .have ht:=ht (by rw[e5];rfl);have gt:m.Voters[p.To.toNat]?=some (atV m.Voters p.To.toNat):=q2b (by omega);have st:=h.voters _ (List.mem_of_getElem? gt);rw[if_pos e5,e5,q0e,cT,q0m ht.1 gt,qdb hp.msg,bS,q0t,qdt hp.msg.tr h2,bS,qq2 st hp.msg,bS,q0t];by_cases z:p.Message.Node=p.From;·rw[z,q0g,cF,if_neg (by simp)];cases msgB p.Message<;>cases insB p.Message.Trust m.Voters.length<;>simp
  .rw[q1c z,cT,if_pos z]
 rw[if_neg e5,q0d e5,cF,q0t]
theorem y13{m:Meeting}{p:Play}(ha:mAsk m p=0)(h0:(mChg m p).2.2=0):(mChg m p).1=(if pairK p.Kind=true then p.To else p.From):=by
 obtain⟨hv,k1,k2,f1,f2,ht,_,_⟩:=q3p ha;unfold mChg at h0⊢;by_cases e1:p.Kind=1;·rw[if_pos e1,e1];rfl
 rw[if_neg e1]at h0⊢;by_cases e2:p.Kind=2;·rw[if_pos e2,e2];rfl
 rw[if_neg e2]at h0⊢;by_cases e3:p.Kind=3
 .rw[if_pos e3]at h0⊢;by_cases z:verr p.Trust=0
  .rw[if_neg (by simpa using z)]at h0⊢;by_cases y:insB p.Trust m.Voters.length=false;·rw[if_pos y]at h0;cases h0
   .rw[if_neg y,e3];rfl
  .rw[if_pos z]at h0;exact absurd h0 z
 rw[if_neg e3]at h0⊢;by_cases e5:p.Kind=5
 .rw[if_pos e5]at h0⊢;by_cases z:p.Message.Node=p.From
  .rw[if_neg (by simpa using z)]at h0⊢;by_cases y:msgB p.Message=false;·rw[if_pos y]at h0;cases h0
   .rw[if_neg y]at h0⊢;by_cases x:insB p.Message.Trust m.Voters.length=false;·rw[if_pos x]at h0;cases h0
    .rw[if_neg x,e5];rfl
  .rw[if_pos z]at h0;cases h0
 rw[if_neg e5];have:pairK p.Kind=false:=by unfold pairK;simp[e2,e5]
 simp_all
theorem qzc(l:LV)(hl:l.length<1000000):z3b l=some ((),l):=yir _ _ (by rw[q06 (by simp[q07];omega)];rfl)
theorem qop{m:Meeting}(h:SmallMt m){p:Play}(hp:SmallP p):z5n m p=some (stepM m p):=by
 apply ygf;rw[yby h,bS,stepM];by_cases ha:mAsk m p=0;case neg=>rw[q1c ha,cT,if_pos ha];rfl
 rw[ha,q0g,cF,if_neg (by simp),ycq h hp ha,bS];by_cases h0:(mChg m p).2.2=0;case neg=>rw[q1c h0,cT,if_pos h0];rfl
 obtain⟨hv,k1,k2,f1,f2,ht,_,_⟩:=q3p ha;obtain⟨⟨_,h2,_,⟨h5,h6⟩,_⟩,_⟩:=q10.1 hv;have hpw:=qb4 h2;have hat:=y13 ha h0;have hx:0<=(mChg m p).1/\(mChg m p).1<(m.Voters.length:Int):=by grind
 have gx:m.Voters[(mChg m p).1.toNat]?=some (atV m.Voters (mChg m p).1.toNat):=q2b (by omega);rw[h0,q0g,cF,if_neg (by simp),qzc _ h.len,bS];dsimp only;rw[q0m hx.1 gx];simp only[nthN,gx,q0t];by_cases e4:p.Kind=4
 .have hf:p.From=((p.From.toNat:Nat):Int):=by omega
  rw[if_pos e4,e4,q0e,cT,q0i f1];have hs:shlI .i64 1 p.From=((2^p.From.toNat:Nat):Int):=by rw[shl1 (by omega) (by omega)]
  have hpf:2^p.From.toNat<=2^10:=Nat.pow_le_pow_right (by decide) (by omega);have ho:orI .i64 m.Stopped ((2^p.From.toNat:Nat):Int)=((m.Stopped.toNat|||2^p.From.toNat:Nat):Int):=by have:=q3a (a:=m.Stopped.toNat) (b:=2^p.From.toNat) (by omega) (by omega);rw[Int.toNat_of_nonneg h5]at this;exact this
  grind
 .rw[if_neg e4,q0d e4,cF]
theorem qku:∀t:Trust,Fits t->z63 t=some t:=by
 apply Trust.ind;intro t ih ht;have hsz:size t<1073741824:=ht;rw[q2a]at hsz;have l1:∀(suf:LT)(i:Nat)(acc:LT)(a8:Int)(a10:LI)(a12:LT)(a14:Int)(a16:LI)(a18:LT)(a20:Int)(a22:LI),t.Inner.drop i=suf->acc.length<=i->z47 t.Inner ((t.Inner.length:Nat):Int) (i:Int) a8 a10 a12 a14 a16 a18 a20 a22 acc=some ⟨a20,a22,acc++suf⟩:=by intro suf;induction suf with|nil=>intro i acc a8 a10 a12 a14 a16 a18 a20 a22 h ha;apply yb3;simp only[q0c h,cF,List.append_nil]|cons y suf ihs=>intro i acc a8 a10 a12 a14 a16 a18 a20 a22 h ha;have hlt:=q09 h;have hy:y∈t.Inner:=List.mem_of_mem_drop (by rw[h];exact List.mem_cons_self);apply yb3;simp only[q05 h,cT,q02 h,ih y hy (ht.mem hy),bS,q03 (show i<4611686018427387904 by omega),Trust.etaM];rw[q06 (by simp[q07];omega),ihs (i+1) (acc++[y]) _ _ _ _ _ _ _ _ (q01 h) (by simp;omega)];simp
 apply yht;have h1:z1j t.Nodes=some ((),t.Nodes):=ybm _ _ (by rw[q06 (by simp[q07];omega)];rfl);rw[h1,bS,show(0:Int)=((0:Nat):Int)from rfl,l1 t.Inner 0 [] _ _ _ _ _ _ _ _ rfl (Nat.le_refl _)];simp
theorem qub(ht:Fits m.Trust)(h1:m.Votes.length<1000000)(h2:m.Accepts.length<1000000):z3g m=some m:=by apply ye5;rw[qku _ ht,bS,q48 _ h1,bS,q48 _ h2,bS,Trust.etaM]
theorem qqq(l:LM)(hl:l.length<1000000)(hm:∀m∈l,z3g m=some m){a3 a15 a21:LV}{a5 a7 a17 a19 a23 a25:Int}(ha:a15.length<1000000){n s t:Int}{ns:LI}{is:LT}{va aa ca:LC}{R:Meeting}:∀(suf:LM)(i:Nat)(acc:LM),l.drop i=suf->acc.length<=i->z2w a3 a5 (addI .i64 a7 1) (a15++[Voter.mk n s ⟨t,ns,is⟩ va aa ca (acc++suf)]) a17 a19 a21 a23 a25=some R->z44 a3 a5 a7 l ((l.length:Nat):Int) (i:Int) a15 a17 a19 a21 a23 a25 n s t ns is va aa ca acc=some R|[],i,acc,h,hac,hR=>by apply ya5;rw[q0c h,cF,q06 (by simp[q07];omega)];simp_all|m::suf,i,acc,h,hac,hR=>by have hlt:=q09 h;apply ya5;rw[q05 h,cT,q02 h,hm m (List.mem_of_mem_drop (i:=i) (by simp_all)),bS,qbc,q06 (by simp[q07];omega),q03 (by omega)];exact qqq l hl hm ha suf (i+1) (acc++[m]) (q01 h) (by simp_all) (by simp_all)
structure FreshA(v:Voter):Prop where
 tr:Fits v.Trust
 votes:v.Votes.length<1000000
 accs:v.Accepts.length<1000000
 confs:v.Confirms.length<1000000
 heard:v.Heard.length<1000000
 msgs:∀m∈v.Heard,z3g m=some m
theorem qr0(l:LV)(hl:l.length<1000000)(hf:∀v∈l,FreshA v)(a10 a12 a16 a18:Int)(a14:LV):∀(suf:LV)(i:Nat)(acc:LV),l.drop i=suf->acc.length<=i->z2w l ((l.length:Nat):Int) (i:Int) acc a10 a12 a14 a16 a18=some ⟨acc++suf,a10,a12⟩
 |[],i,acc,h,ha=>by apply y98;rw[q0c h,cF,List.append_nil]|y::suf,i,acc,h,ha=>by
  have hlt:=q09 h;have hy:=hf y (List.mem_of_mem_drop (i:=i) (by simp_all));apply y98;rw[q05 h,cT,q02 h,qku _ hy.tr,bS,q48 _ hy.votes,bS,q48 _ hy.accs,bS,q48 _ hy.confs,bS];dsimp only;refine qqq y.Heard hy.heard hy.msgs (by omega) y.Heard 0 [] rfl (Nat.le_refl _) ?_;have hv:Voter.mk y.Node y.Seq ⟨y.Trust.Threshold,y.Trust.Nodes,y.Trust.Inner⟩ y.Votes y.Accepts y.Confirms ([]++y.Heard)=y:=by simp
  rw[hv,q03 (by omega),qr0 l hl hf a10 a12 a16 a18 a14 suf (i+1) (acc++[y]) (q01 h) (by simp_all)];simp
theorem qkh{m:Meeting}(h:m.Voters.length<1000000)(hf:∀v∈m.Voters,FreshA v):z3v m=some m:=by apply yg6;have:=qr0 m.Voters h hf m.Stopped m.Ill 0 0 [] m.Voters 0 [] rfl (Nat.le_refl _);exact this
theorem y3r(h:msgB m=true):z3g m=some m:=qub (q34 (q3f.1 h).2.2.1).1 (q19 h).votes (q19 h).accs
theorem Ready.freshA{v:Voter}(h:Ready v):FreshA v:=⟨(q34 h.tr).1,by have:=h.vlen;omega,by have:=h.alen;omega,by have:=h.clen;omega,by have:=h.hlen;omega,fun m hm=>y3r (h.msg m hm).1⟩
variable {S : LV}
theorem y7i{b:Nat}(h:b<S.length):S.set b (atV S b)=S:=by
 apply List.ext_getElem?;intro i;rw[List.getElem?_set];by_cases e:b=i;·subst e;have:=q2b h;rw[if_pos rfl,if_pos h,this]
 grind
def Move(m:Meeting)(p:Play)(v u:Voter):Prop:=(p.Kind=1/\vcl p.Claim=true/\(∀y∈v.Votes++v.Accepts,¬Contra p.Claim y)/\u={v with Votes:=q0o (v.Votes++[p.Claim])})\/(p.Kind=2/\oldB v.Heard (say (atV m.Voters p.From.toNat))=false/\u={v with Heard:=hearL (say (atV m.Voters p.From.toNat)) v.Heard})\/(p.Kind=3/\valid p.Trust=true/\uses p.Trust<2^m.Voters.length/\u={v with Trust:=p.Trust})\/(p.Kind=5/\msgB p.Message=true/\p.Message.Node=p.From/\uses p.Message.Trust<2^m.Voters.length/\oldB v.Heard p.Message=false/\u={v with Heard:=hearL p.Message v.Heard})
def whoP(p:Play):Nat:=(if pairK p.Kind=true then p.To else p.From).toNat
noncomputable def stopP(m:Meeting)(p:Play):Int:=if p.Kind=4 then((m.Stopped.toNat|||2^p.From.toNat:Nat):Int)else m.Stopped
theorem q85{m:Meeting}{p:Play}(h:(stepM m p).2=0):mAsk m p=0/\∃w,(stepM m p).1=⟨m.Voters.set (whoP p) w,stopP m p,m.Ill⟩/\(w=atV m.Voters (whoP p)/\(p.Kind=1->p.Claim∈w.Votes)/\p.Kind≠2/\p.Kind≠5\/∃u,Move m p (atV m.Voters (whoP p)) u/\w=turnV (atV m.Voters (whoP p)) u):=by
 unfold stepM at h⊢;by_cases ha:mAsk m p=0;case neg=>rw[if_pos ha]at h;exact absurd h ha
 rw[if_neg (by simpa using ha)]at h⊢;by_cases h0:(mChg m p).2.2=0;case neg=>rw[if_pos h0]at h;exact absurd h h0
 rw[if_neg (by simpa using h0)];have hat:=y13 ha h0;refine⟨ha,(mChg m p).2.1,by rw[whoP,<-hat];rfl,?_⟩;obtain⟨hv,k1,k2,f1,f2,ht,_,_⟩:=q3p ha;obtain⟨_,hvs⟩:=q10.1 hv;unfold whoP;unfold mChg at h0⊢;by_cases e1:p.Kind=1
 .have hk:pairK p.Kind=false:=by rw[e1];rfl
  rw[if_pos e1]at h0⊢;dsimp only at h0⊢;rw[hk,if_neg (by simp)];unfold voteV at h0⊢;split at h0;·cases h0
  .rename_i g1;split at h0;·cases h0
   .rename_i g2;rw[if_neg g1,if_neg g2];split;·rename_i g3;exact .inl ⟨rfl,fun _=>g3,by omega,by omega⟩
    .refine .inr ⟨_,.inl ⟨e1,?_,fun y hy hc=>g2 ⟨y,hy,hc⟩,rfl⟩,rfl⟩;cases hx:vcl p.Claim with|true=>rfl|false=>exact absurd (.inr hx) g1
 rw[if_neg e1]at h0⊢;by_cases e2:p.Kind=2
 .have hk:pairK p.Kind=true:=by rw[e2];rfl
  rw[if_pos e2]at h0⊢;dsimp only at h0⊢;rw[hk,if_pos rfl];obtain⟨g1,g2,g3⟩:=qip h0;have vt:=q1v.1 hvs p.To.toNat (by have:=ht hk;omega);rw[qfp vt.2.1 g1 g2 g3];exact .inr ⟨_,.inr (.inl ⟨e2,g3,rfl⟩),rfl⟩
 rw[if_neg e2]at h0⊢;by_cases e3:p.Kind=3
 .have hk:pairK p.Kind=false:=by rw[e3];rfl
  rw[if_pos e3]at h0⊢;by_cases z:verr p.Trust=0;case neg=>rw[if_pos z]at h0;exact absurd h0 z
  rw[if_neg (by simpa using z)]at h0⊢;by_cases y:insB p.Trust m.Voters.length=false;case pos=>rw[if_pos y]at h0;cases h0
  rw[if_neg y]at h0⊢;dsimp only at h0⊢;rw[hk,if_neg (by simp)];have vf:=q1v.1 hvs p.From.toNat (by omega);have y':uses p.Trust<2^m.Voters.length:=by unfold insB at y;simpa using y
  unfold declV;rw[if_neg (by rw[vf.2.1];simp),if_neg (by simpa using z)];split;·exact .inl ⟨rfl,fun e=>absurd e e1,e2,by omega⟩
  .exact .inr ⟨_,.inr (.inr (.inl ⟨e3,(q4v _).1 z,y',rfl⟩)),rfl⟩
 rw[if_neg e3]at h0⊢;by_cases e5:p.Kind=5
 .have hk:pairK p.Kind=true:=by rw[e5];rfl
  rw[if_pos e5]at h0⊢;by_cases z:p.Message.Node=p.From;case neg=>rw[if_pos z]at h0;cases h0
  rw[if_neg (by simpa using z)]at h0⊢;by_cases y:msgB p.Message=false;case pos=>rw[if_pos y]at h0;cases h0
  rw[if_neg y]at h0⊢;by_cases x:insB p.Message.Trust m.Voters.length=false;case pos=>rw[if_pos x]at h0;cases h0
  rw[if_neg x]at h0⊢;dsimp only at h0⊢;rw[hk,if_pos rfl];obtain⟨g1,g2,g3⟩:=qip h0;have vt:=q1v.1 hvs p.To.toNat (by have:=ht hk;omega);have x':uses p.Message.Trust<2^m.Voters.length:=by unfold insB at x;simpa using x
  rw[qfp vt.2.1 g1 g2 g3];exact .inr ⟨_,.inr (.inr (.inr ⟨e5,g1,z,x',g3,rfl⟩)),rfl⟩
 rw[if_neg e5];have hk:pairK p.Kind=false:=by unfold pairK;simp[e2,e5]
 grind
def Sets2(N:Nat)(m:Meeting):Prop:=(0<=m.Ill/\m.Ill<((2^N:Nat):Int))/\(0<=m.Stopped/\m.Stopped<((2^N:Nat):Int))/\m.Ill.toNat&&&m.Stopped.toNat=0
theorem y4h{m:Meeting}{p:Play}(h:(stepM m p).2=0){N:Nat}(hl:m.Voters.length=N)(hs:Sets2 N m):Sets2 N (stepM m p).1/\(stepM m p).1.Ill=m.Ill/\(stepM m p).1.Stopped.toNat=(if p.Kind=4 then m.Stopped.toNat|||2^p.From.toNat else m.Stopped.toNat):=by
 obtain⟨ha,w,e,_⟩:=q85 h;obtain⟨hv,k1,k2,f1,f2,ht,hi,hg⟩:=q3p ha;obtain⟨⟨_,l10,_⟩,_⟩:=q10.1 hv;obtain⟨s1,s2,s3⟩:=hs;rw[e];unfold stopP;by_cases e4:p.Kind=4
 .have hk:pairK p.Kind=false:=by rw[e4];rfl
  have hi':m.Ill.toNat.testBit p.From.toNat=false:=by
   have:has m.Ill.toNat p.From=false:=by rw[hi,e4];rfl
   have hf:p.From=((p.From.toNat:Nat):Int):=by omega
   rw[hf,q76 (by omega)]at this;omega
  simp only[if_pos e4];have h1:m.Stopped.toNat|||2^p.From.toNat<2^N:=Nat.or_lt_two_pow (by omega) (Nat.pow_lt_pow_right (by decide) (by omega));refine⟨⟨s1,⟨by simp,by grind⟩,?_⟩,by simp,by rfl⟩;show m.Ill.toNat&&&((m.Stopped.toNat|||2^p.From.toNat:Nat):Int).toNat=0;rw[tN];apply Nat.eq_of_testBit_eq;grind
 .simp only[if_neg e4];exact⟨⟨s1,s2,s3⟩,by simp,by simp⟩
theorem y4w{m:Meeting}{p:Play}(ha:mAsk m p=0):whoP p<m.Voters.length:=by obtain⟨_,_,_,f1,f2,ht,_⟩:=q3p ha;unfold whoP;grind
structure Rdy(m:Meeting)(p:Play)(v u:Voter):Prop where
 ready:Ready u
 cons:consC u.Votes=true
 node:u.Node=v.Node
 seq:u.Seq=v.Seq
 votes:∀x∈v.Votes,x∈u.Votes
 accs:u.Accepts=v.Accepts
 confs:u.Confirms=v.Confirms
 ins:uses u.Trust<2^m.Voters.length
 heard:∀x∈u.Heard,x.Node<(m.Voters.length:Int)/\uses x.Trust<2^m.Voters.length
 same:p.Kind=2->u.Trust=v.Trust/\u.Votes=v.Votes
theorem qx7{m:Meeting}{p:Play}(ha:mAsk m p=0){u:Voter}(hu:Move m p (atV m.Voters (whoP p)) u):Rdy m p (atV m.Voters (whoP p)) u:=by
 obtain⟨hv,k1,k2,f1,f2,ht,_⟩:=q3p ha;have hwN:=y4w ha;have hvs:=q1v.1 (q10.1 hv).2;obtain⟨n1,v1,i1,h1⟩:=hvs _ hwN;obtain⟨n2,v2,i2,h2⟩:=hvs p.From.toNat (by omega);obtain⟨hr,hc⟩:=q14.1 v1;rw[Nat.zero_add]at n1 n2;have hne:pairK p.Kind=true->whoP p≠p.From.toNat:=fun hk=>by have:=ht hk;unfold whoP;rw[if_pos hk];omega
 rcases hu with⟨e,x1,x2,rfl⟩|⟨e,x1,rfl⟩|⟨e,x1,x2,rfl⟩|⟨e,x1,x2,x3,x4,rfl⟩
 .have hmp:=fun y=>qg7 (y:=y) (q0w.1 hr.votes).1 x1;refine⟨hr.withV p.Claim,?_,rfl,rfl,fun y hy=>(hmp y).2 (.inl hy),rfl,rfl,i1,h1,fun g=>by omega⟩;have:consC ((atV m.Voters (whoP p)).Votes++[p.Claim])=true:=by rw[qbx hc,dT];exact fun y hy hcc=>x2 y (by simp[hy]) hcc
  rw[q56]at this⊢;grind
 .have hn:=hne (by rw[e];rfl);refine⟨hr.withH (q14.1 v2).1.say (by show(atV m.Voters p.From.toNat).Node≠_;omega),hc,rfl,rfl,fun _ h=>h,rfl,rfl,i1,fun x hx=>?_,fun _=>⟨rfl,rfl⟩⟩;rcases qej hx with g|g;·rw[g];exact⟨by show(atV m.Voters p.From.toNat).Node<_;omega,i2⟩
  simp_all
 .exact⟨hr.withT x1,hc,rfl,rfl,fun _ h=>h,rfl,rfl,x2,h1,fun g=>by omega⟩
 .have hn:=hne (by rw[e];rfl);refine⟨hr.withH x1 (by omega),hc,rfl,rfl,fun _ h=>h,rfl,rfl,i1,fun x hx=>?_,fun g=>by omega⟩;rcases qej hx with g|g;·rw[g,x2];exact⟨f2,x3⟩
  simp_all
structure GoodMt(N q:Nat)(m:Meeting):Prop where
 val:q3i m=true
 len:m.Voters.length=N
 seq:∀b,b<N->(atV m.Voters b).Seq<=((q+(atV m.Voters b).Accepts.length:Nat):Int)
section
variable {N q : Nat} {m : Meeting} (h : GoodMt N q m)
include h
theorem GoodMt.at{b:Nat}(hb:b<N):(atV m.Voters b).Node=(b:Int)/\q21 (atV m.Voters b)=true/\uses (atV m.Voters b).Trust<2^N/\∀x∈(atV m.Voters b).Heard,x.Node<(N:Int)/\uses x.Trust<2^N:=by have:=q1v.1 (q10.1 h.val).2 b (by rw[h.len];exact hb);rw[h.len,Nat.zero_add]at this;omega
theorem GoodMt.sets:Sets2 N m:=by have:=(q10.1 h.val).1.2.2;rw[h.len]at this;exact this
theorem GoodMt.ready:∀v∈m.Voters,Ready v:=fun v hv=>by obtain⟨i,hi⟩:=List.getElem?_of_mem hv;have hlt:i<m.Voters.length:=(List.getElem?_eq_some_iff.1 hi).1;have:=(q14.1 (h.at (b:=i) (by rw[<-h.len];exact hlt)).2.1).1;rw[q2b hlt]at hi;simp_all
theorem GoodMt.small(hN:N<=10):SmallMt m:=⟨by have:=h.len;omega,fun v hv=>(h.ready v hv).small⟩
theorem GoodMt.fresh(hN:N<=10):z3v m=some m:=qkh (by have:=h.len;omega) fun v hv=>(h.ready v hv).freshA
theorem GoodMt.up:GoodMt N (q+1) m:=⟨h.val,h.len,fun b hb=>by have:=h.seq b hb;omega⟩
theorem GoodMt.move{q':Nat}(hN:N<=10)(hq:q<=100000){p:Play}(h0:(stepM m p).2=0)(hq':q'=q+1\/q'=q/\p.Kind=2):GoodMt N q' (stepM m p).1:=by
 have hs:=(y4h h0 h.len h.sets).1;obtain⟨ha,w,e,hw⟩:=q85 h0;have hl:=h.len;have hwN:whoP p<N:=by have:=y4w ha;omega
 have hpos:=(q10.1 h.val).1.1;rw[e]at hs⊢;have key:w.Node=(whoP p:Int)/\q21 w=true/\uses w.Trust<2^N/\(∀x∈w.Heard,x.Node<(N:Int)/\uses x.Trust<2^N)/\w.Seq<=((q'+w.Accepts.length:Nat):Int):=by
  obtain⟨a1,a2,a3,a4⟩:=h.at hwN;have a5:=h.seq _ hwN;rcases hw with⟨rfl,_⟩|⟨u,hu,rfl⟩;·grind
  .have R:=qx7 ha hu;have hbr:=(q14.1 a2).1;have T:=qfi (b:=atV m.Voters (whoP p)) R.ready R.cons R.node R.seq R.votes R.accs R.confs;obtain⟨s,h1,h2,h3⟩:=q4d (atV m.Voters (whoP p)) u;obtain⟨g1,g2,g3,g4,g5⟩:=q2s u;have hr:=R.ready.settle;have hsub:SubC (atV m.Voters (whoP p)).Accepts (q0r u).Accepts:=fun x hx=>qde 200 u R.ready x (by rw[R.accs];omega);have hle:=qzp hbr.accs hsub;have hal:=hr.alen;have hsq:=R.seq;have hseq:s<=((q'+(q0r u).Accepts.length:Nat):Int):=by
    rcases hq' with g|⟨g,k⟩;·omega
    .rcases h1 with j|j;·omega
     .obtain⟨z1,z2⟩:=R.same k;have hne:(atV m.Voters (whoP p)).Accepts≠(q0r u).Accepts:=fun ea=>by grind
      have:=qtk hbr.accs hr.accs hsub hne;omega
   have hS:(turnV (atV m.Voters (whoP p)) u).Seq=s:=by rw[h2]
   have hA:(turnV (atV m.Voters (whoP p)) u).Accepts=(q0r u).Accepts:=by rw[h2]
   have hT:(turnV (atV m.Voters (whoP p)) u).Trust=u.Trust:=by simp_all
   have hH:(turnV (atV m.Voters (whoP p)) u).Heard=u.Heard:=by simp_all
   have hi:=R.ins;have hh:=R.heard;rw[hl]at hi hh;exact⟨by rw[T.node,a1],T.ready (by omega),by simp_all,by simp_all,by simp_all⟩
 have at':∀b,atV (m.Voters.set (whoP p) w) b=if whoP p=b then w else atV m.Voters b:=fun b=>ybv (by omega) w b;refine⟨q10.2 ⟨⟨by simp_all,by simp_all,by simpa[hl]using hs.1,by simpa[hl]using hs.2.1,hs.2.2⟩,q1v.2 fun i hi=>?_⟩,by simp_all,fun b hb=>?_⟩
 .have hi:i<N:=by simp_all
  show(atV (m.Voters.set (whoP p) w) i).Node=_/\q21 (atV (m.Voters.set (whoP p) w) i)=true/\uses (atV (m.Voters.set (whoP p) w) i).Trust<2^(m.Voters.set (whoP p) w).length/\∀x∈(atV (m.Voters.set (whoP p) w) i).Heard,x.Node<((m.Voters.set (whoP p) w).length:Int)/\uses x.Trust<2^(m.Voters.set (whoP p) w).length;rw[at',List.length_set,hl,Nat.zero_add];split;·simp_all
  .exact h.at hi
 .show(atV (m.Voters.set (whoP p) w) b).Seq<=((q'+(atV (m.Voters.set (whoP p) w) b).Accepts.length:Nat):Int);rw[at'];split;·omega
  .have:=h.seq b hb;omega
theorem GoodMt.step(hN:N<=10)(hq:q<=100000){p:Play}(h0:(stepM m p).2=0):GoodMt N (q+1) (stepM m p).1:=h.move hN hq h0 (.inl rfl)
end
theorem y6z{N:Nat}(h1:1<=N)(hN:N<=10)(hl:S.length=N){ill:Int}(hi:0<=ill/\ill<((2^N:Nat):Int))(hS:∀b,b<N->∃t,atV S b=⟨(b:Int),1,t,[],[],[],[]⟩/\valid t=true/\uses t<2^N):GoodMt N 1 ⟨S,0,ill⟩:=by
 have hp:=Nat.two_pow_pos S.length;refine⟨q10.2 ⟨⟨by show 1<=S.length;omega,by show S.length<=10;omega,by simpa[hl]using hi,⟨Int.le_refl 0,by show(0:Int)<((2^S.length:Nat):Int);omega⟩,Nat.and_zero _⟩,q1v.2 fun i hi=>?_⟩,hl,fun b hb=>?_⟩;·have hi:i<S.length:=hi;obtain⟨t,e,hv,hu⟩:=hS i (by omega);show(atV S i).Node=_/\q21 (atV S i)=true/\uses (atV S i).Trust<2^S.length/\∀x∈(atV S i).Heard,_;rw[e,Nat.zero_add,hl];exact⟨rfl,(qiz (by simp[inR];omega) hv).2,hu,fun x hx=>by cases hx⟩
 grind
variable {l : LI} {i : Int}
theorem qxs(h:q0n l i):∃x j,z8b l i=some (x,l,j)/\q0n l j:=by
 obtain⟨x0,i0,g0,g0',g0'x,g0''⟩:=N_ok (n:=30) (by omega) (by omega) h;by_cases e:x0=29;·obtain⟨x1,i1,g1,_,g1'⟩:=q4l (ps:=[-1,0,7,8]) (by decide) (by decide) g0'';obtain⟨x2,i2,g2,_,g2'⟩:=q4l (ps:=[-1,0,15,16]) (by decide) (by decide) g1';refine⟨⟨x1,x2⟩,i2,qxz _ _ _ ?_,g2'⟩;rw[g0,bS];dsimp only;rw[e,q0e,cT,g1,bS];simp_all
 .obtain⟨x1,i1,g1,_,_,g1'⟩:=N_ok (n:=3) (by omega) (by omega) g0'';obtain⟨x2,i2,g2,_,_,g2'⟩:=N_ok (n:=3) (by omega) (by omega) g1';refine⟨⟨x1,x2⟩,i2,qxz _ _ _ ?_,g2'⟩;rw[g0,bS];dsimp only;rw[q0d e,cF,g1,bS];simp_all
theorem qsq{l:LI}:∀(n:Nat)(acc:LC)(i:Int),n+acc.length<=1000->q0n l i->∃k j,z4d acc (n:Int) l i=some (k,l,j)/\k.length<=n+acc.length/\q0n l j|0,acc,i,ha,h=>⟨acc,i,qwo _ _ _ _ _ (by rfl),by omega,h⟩|n+1,acc,i,ha,h=>by obtain⟨x,i1,g1,g1'⟩:=qxs h;obtain⟨k,j,g2,g3,g4⟩:=qsq n (acc++[x]) i1 (by simp;omega) g1';refine⟨k,j,qwo _ _ _ _ _ ?_,by simp at g3;omega,g4⟩;rw[q04 (by omega),cT,g1,bS,q06 (by simp[q07];omega),q46 (by omega) (by omega),show((n+1:Nat):Int)-1=(n:Int)by omega];omega
theorem y5d{n:Nat}(hn:n<=100)(h:q0n l i):∃k j,z7b (n:Int) l i=some (k,l,j)/\k.length<=n/\q0n l j:=by obtain⟨x0,i0,g0,g0',g0'x,g0''⟩:=N_ok (n:=(n:Int)+1) (by omega) (by omega) h;obtain⟨m,rfl⟩:∃m:Nat,x0=m:=⟨x0.toNat,by omega⟩;obtain⟨k,j,g1,g2,g3⟩:=qsq (l:=l) m [] i0 (by simp;omega) g0'';refine⟨k,j,yaq _ _ _ _ ?_,by simp at g2;omega,g3⟩;rw[q22 (by omega) (by omega),g0,bS];omega
theorem y0x{n:Int}(h1:1<=n)(h2:n<=10)(h:q0n l i):∃t j,z9c n 2 l i=some (t,l,j)/\valid t=true/\q0n l j:=by obtain⟨t,j,g1,g2,_,g4⟩:=qy2 h1 h2 1 (by decide) h;grind
theorem qly{t:Trust}(h:valid t=true):size t<1000000/\wf t=true:=⟨by have:=qne h;omega,(q34 h).2⟩
variable {l : LI} {i : Int} {N : Nat} {d : Bool}
theorem qp6{a n:Int}(h0:0<=a)(h:a<n)(hn:n<=1000):0<=remI .i64 (addI .i64 a 1) n/\remI .i64 (addI .i64 a 1) n<n:=by rw[q22 (by omega) (by omega),show remI .i64 (a+1) n=(a+1).tmod n from rfl];exact⟨Int.tmod_nonneg n (by omega),Int.tmod_lt_of_pos _ (by omega)⟩
theorem y1u(h:q0n l i):∃x j,z8b l i=some (x,l,j)/\x.Topic≠5/\q0n l j:=by
 obtain⟨x0,i0,g0,g0',g0'x,g0''⟩:=N_ok (n:=30) (by omega) (by omega) h;by_cases e:x0=29
 .obtain⟨x1,i1,g1,m1,g1'⟩:=q4l (ps:=[-1,0,7,8]) (by decide) (by decide) g0'';obtain⟨x2,i2,g2,_,g2'⟩:=q4l (ps:=[-1,0,15,16]) (by decide) (by decide) g1';refine⟨⟨x1,x2⟩,i2,qxz _ _ _ ?_,?_,g2'⟩;·rw[g0,bS];dsimp only;rw[e,q0e,cT,g1,bS];simp_all
  grind
 .obtain⟨x1,i1,g1,_,m1,g1'⟩:=N_ok (n:=3) (by omega) (by omega) g0'';obtain⟨x2,i2,g2,_,_,g2'⟩:=N_ok (n:=3) (by omega) (by omega) g1';refine⟨⟨x1,x2⟩,i2,qxz _ _ _ ?_,by show x1≠5;omega,g2'⟩;rw[g0,bS];dsimp only;rw[q0d e,cF,g1,bS];grind
theorem qm0{l:LI}:∀(n:Nat)(acc:LC)(i:Int),n+acc.length<=1000->(∀x∈acc,x.Topic≠5)->q0n l i->∃k j,z4d acc (n:Int) l i=some (k,l,j)/\k.length<=n+acc.length/\(∀x∈k,x.Topic≠5)/\q0n l j|0,acc,i,ha,hx,h=>⟨acc,i,qwo _ _ _ _ _ (by rfl),by omega,hx,h⟩|n+1,acc,i,ha,hx,h=>by obtain⟨x,i1,g1,q1,g1'⟩:=y1u h;obtain⟨k,j,g2,g3,g4,g5⟩:=qm0 n (acc++[x]) i1 (by grind) (fun y hy=>by grind) g1';refine⟨k,j,qwo _ _ _ _ _ ?_,by grind,g4,g5⟩;rw[q04 (by omega),cT,g1,bS,q06 (by simp[q07];omega),q46 (by omega) (by omega),show((n+1:Nat):Int)-1=(n:Int)by omega];omega
theorem y06(h:q0n l i):∃k j,z7b 3 l i=some (k,l,j)/\k.length<=100/\(∀x∈k,x.Topic≠5)/\q0n l j:=by obtain⟨x0,i0,g0,g0',g0'x,g0''⟩:=N_ok (n:=4) (by omega) (by omega) h;obtain⟨m,rfl⟩:∃m:Nat,x0=m:=⟨x0.toNat,by omega⟩;obtain⟨k,j,g1,g2,g3,g4⟩:=qm0 (l:=l) m [] i0 (by grind) (fun _ h=>by cases h) g0'';refine⟨k,j,yaq _ _ _ _ ?_,by grind,g3,g4⟩;rw[q22 (by omega) (by omega),show(3:Int)+1=4 from rfl,g0,bS];omega
theorem qhe{m:Int}(h1:1<=m)(h2:m<=10)(h:q0n l i):∃t j,z7c m l i=some (t,l,j)/\valid t=true/\q0n l j:=by
 obtain⟨t,j,g1,g2,g3⟩:=y0x h1 h2 h;have hs:=q3j g2;have e0:valid ⟨1,[0],[]⟩=true:=by rfl
 by_cases a1:40<(size t:Int);·refine⟨_,j,y2f _ _ _ _ ?_,e0,g3⟩;rw[g1,bS];dsimp only;rw[qgh t hs,bS,q04 a1];rfl
 .by_cases a2:3<(depth t:Int);·refine⟨_,j,y2f _ _ _ _ ?_,e0,g3⟩;rw[g1,bS];dsimp only;rw[qgh t hs,bS,q00 (by omega),cF,qbu t hs,bS,q04 a2];rfl
  .refine⟨t,j,y2f _ _ _ _ ?_,g2,g3⟩;rw[g1,bS];dsimp only;rw[qgh t hs,bS,q00 (by omega),cF,qbu t hs,bS,q00 (by omega),cF,Trust.etaM]
structure DrawnP(N:Nat)(d:Bool)(p:Play):Prop where
 small:SmallP p
 vote:p.Kind=1->p.Claim.Topic≠5
 decl:p.Kind=3->d=true/\valid p.Trust=true
 lie:∀y,y∈p.Message.Votes\/y∈p.Message.Accepts->y.Topic≠5
 fr:0<=p.From/\p.From<(N:Int)tb:TB p.Trust/\TB p.Message.Trust
def noT:Trust:=⟨0,[],[]⟩
def noM:Message:=⟨0,0,noT,[],[]⟩
theorem qf0:Small noT:=by unfold Small noT;rw[q8p];simp[sizes]
theorem ql5:SmallM noM:=⟨qf0,by simp[noM],by simp[noM]⟩
theorem q9s:TB noT:=qef
theorem q25{k f t:Int}{c:Claim}{tr:Trust}(htr:TB tr)(h1:k=1->c.Topic≠5)(h3:k=3->d=true/\valid tr=true)(hf:0<=f/\f<(N:Int)):DrawnP N d ⟨k,f,t,c,tr,noM⟩:=⟨⟨by have:=htr.1;show Small tr;unfold Small;omega,ql5⟩,h1,h3,(fun y hy=>by rcases hy with h|h<;>cases h),hf,htr,q9s⟩
theorem y2y(k:Int):Small ⟨1,[k],[]⟩:=by unfold Small;rw[q8p];simp[sizes]
def qs2(N:Nat)(d:Bool)(n:Nat)(l:LI)(r:Option (Unit×LI×Int×LP)):Prop:=∃out j,r=some ((),l,j,out)/\(∀p∈out,DrawnP N d p)/\out.length=n/\q0n l j
theorem qif{N:Nat}(hN:1<=N)(hN2:N<=10){d:Bool}{l:LI}{ms:LB}{n i:Nat}(hi:i<1000){ill:Int}{acc:LP}(hac:acc.length<1000)(again:∀p j,DrawnP N d p->q0n l j->qs2 N d n l (z0a ill (n:Int) d (acc++[p]) (N:Int) (addI .i64 (i:Int) 1) l j ms)):∀(r k:Nat)(f t j:Int),k+r=N->0<=f/\f<(N:Int)->0<=t/\t<(N:Int)->q0n l j->qs2 N d n l (z2q ill (n:Int) d acc (N:Int) (i:Int) (k:Int) l j ms 5 f t 0 0 0 [] [] 0 0 0 [] [] [] [])
 |0,k,f,t,j,hk,hf,ht,h=>by
  obtain⟨x0,j0,g0,a0,b0,h0⟩:=N_ok (n:=2) (by decide) (by decide) h;obtain⟨x1,j1,g1,a1,b1,h1⟩:=N_ok (n:=2) (by decide) (by decide) h0;obtain⟨x2,j2,g2,a2,b2,h2⟩:=N_ok (n:=3) (by decide) (by decide) h1;have hrem:=qp6 ht.1 ht.2 (by omega);have hne:(N:Int)≠0:=by omega
  have mk:∀(T:Int)(A:LC),A.length<1000000->(∀y∈A,y.Topic≠5)->DrawnP N d ⟨5,f,T,⟨0,0⟩,⟨0,[],[]⟩,⟨f,mulI .i64 2 (addI .i64 (i:Int) 1),⟨1,[f],[]⟩,[⟨x0,x1⟩],A⟩⟩:=fun T A hA hA5=>⟨⟨qf0,y2y f,by simp,hA⟩,(fun e=>by simp),(fun e=>by cases e),(fun y hy=>by grind),hf,q9s,⟨by rw[q8p];simp[sizes],by rfl⟩⟩;by_cases e2:x2=0
  .obtain⟨x3,j3,g3,l3,q3,h3⟩:=y06 h2;have g4:=qfz x3 (by omega);have hl4:=q42 x3;have hq4:∀y∈q0o x3,y.Topic≠5:=fun y hy=>q3 y (q27.1 hy).2;by_cases e:f=t;·obtain⟨out,j',r1,r2⟩:=again _ j3 (mk (remI .i64 (addI .i64 t 1) (N:Int)) (q0o x3) (by omega) hq4) h3;refine⟨out,j',qmo _ _ _ _ _ _ _ _ _ _ _ _ _ _ _ _ _ _ _ _ _ _ _ _ _ _ ?_,r2⟩;rw[q00 (by omega),cF,g0,bS];dsimp only;rw[g1,bS];dsimp only;rw[g2,bS];dsimp only;rw[e2,q0e,cT,g3,bS];dsimp only;rw[g4,bS,e,q0e,cT,q0i hne,q06 (by simp[q07];omega)];grind
   .obtain⟨out,j',r1,r2⟩:=again _ j3 (mk t (q0o x3) (by omega) hq4) h3;refine⟨out,j',qmo _ _ _ _ _ _ _ _ _ _ _ _ _ _ _ _ _ _ _ _ _ _ _ _ _ _ ?_,r2⟩;rw[q00 (by omega),cF,g0,bS];dsimp only;rw[g1,bS];dsimp only;rw[g2,bS];dsimp only;rw[e2,q0e,cT,g3,bS];dsimp only;rw[g4,bS,q0d e,cF,q06 (by simp[q07];omega)];omega
  .have hq:∀y∈[(⟨x0,x1⟩:Claim)],y.Topic≠5:=fun y hy=>by grind
   by_cases e:f=t;·obtain⟨out,j',r1,r2⟩:=again _ j2 (mk (remI .i64 (addI .i64 t 1) (N:Int)) [⟨x0,x1⟩] (by simp) hq) h2;refine⟨out,j',qmo _ _ _ _ _ _ _ _ _ _ _ _ _ _ _ _ _ _ _ _ _ _ _ _ _ _ ?_,r2⟩;rw[q00 (by omega),cF,g0,bS];dsimp only;rw[g1,bS];dsimp only;rw[g2,bS];dsimp only;rw[q0d e2,cF,e,q0e,cT,q0i hne,q06 (by simp[q07];omega)];grind
   .obtain⟨out,j',r1,r2⟩:=again _ j2 (mk t [⟨x0,x1⟩] (by simp) hq) h2;refine⟨out,j',qmo _ _ _ _ _ _ _ _ _ _ _ _ _ _ _ _ _ _ _ _ _ _ _ _ _ _ ?_,r2⟩;rw[q00 (by omega),cF,g0,bS];dsimp only;rw[g1,bS];dsimp only;rw[g2,bS];dsimp only;rw[q0d e2,cF,q0d e,cF,q06 (by simp[q07];omega)];omega|r+1,k,f,t,j,hk,hf,ht,h=>by
  have hne:(N:Int)≠0:=by omega
  have hrem:=qp6 hf.1 hf.2 (by omega);cases hb:eqB (andI .i64 (shrI .i64 ill f) 1) 0 with|true=>obtain⟨out,j',r1,r2⟩:=qif hN hN2 hi hac again r (k+1) (remI .i64 (addI .i64 f 1) (N:Int)) t j (by omega) hrem ht h;refine⟨out,j',qmo _ _ _ _ _ _ _ _ _ _ _ _ _ _ _ _ _ _ _ _ _ _ _ _ _ _ ?_,r2⟩;rw[q04 (by omega),cT,q0i hf.1,hb,cT,q0i hne,q03 (by omega)];omega|false=>obtain⟨out,j',r1,r2⟩:=qif hN hN2 hi hac again r (k+1) f t j (by omega) hf ht h;refine⟨out,j',qmo _ _ _ _ _ _ _ _ _ _ _ _ _ _ _ _ _ _ _ _ _ _ _ _ _ _ ?_,r2⟩;rw[q04 (by omega),cT,q0i hf.1,hb,cF,q03 (by omega)];omega
theorem qw2{N:Nat}(hN:1<=N)(hN2:N<=10){d:Bool}{l:LI}{ms:LB}{ill:Int}{n:Nat}(hn:n<1000):∀(r i:Nat)(acc:LP)(j:Int),i+r=n->acc.length=i->(∀p∈acc,DrawnP N d p)->q0n l j->qs2 N d n l (z0a ill (n:Int) d acc (N:Int) (i:Int) l j ms)
 |0,i,acc,j,hi,ha,hD,h=>⟨acc,j,q6m _ _ _ _ _ _ _ _ _ _ (by rw[q00 (by omega)];rfl),hD,by omega,h⟩|r+1,i,acc,j,hi,ha,hD,h=>by
  have hne:(N:Int)≠0:=by omega
  have again:∀p j,DrawnP N d p->q0n l j->qs2 N d n l (z0a ill (n:Int) d (acc++[p]) (N:Int) (addI .i64 (i:Int) 1) l j ms):=fun p j hp ht=>by rw[q03 (by omega)];refine qw2 hN hN2 hn r (i+1) (acc++[p]) j (by omega) (by grind) (fun x hx=>?_) ht;grind
  obtain⟨f,j0,g0,a0,b0,h0⟩:=N_ok (n:=(N:Int)) (by omega) (by omega) h;obtain⟨t0,j1,g1,a1,b1,h1⟩:=N_ok (n:=(N:Int)) (by omega) (by omega) h0;have hrem:=qp6 a1 b1 (by omega);obtain⟨k,j2,g2,mk2,h2⟩:=q4l (ps:=[1,1,1,2,2,2,2,2,2,5,5,3,4]) (by decide) (by decide) h1;have hcap:∀p:Play,acc.length+[p].length<=100000:=fun p=>by grind
  by_cases e:f=t0
  .skip;by_cases e1:k=1;·obtain⟨x3,j3,g3,a3,b3,h3⟩:=N_ok (n:=2) (by decide) (by decide) h2;obtain⟨x4,j4,g4,a4,b4,h4⟩:=N_ok (n:=2) (by decide) (by decide) h3;obtain⟨out,j',r1,r2⟩:=again ⟨1,f,remI .i64 (addI .i64 t0 1) (N:Int),⟨x3,x4⟩,noT,noM⟩ j4 (q25 q9s (fun _=>by grind) (fun e=>by cases e) ⟨a0,b0⟩) h4;refine⟨out,j',q6m _ _ _ _ _ _ _ _ _ _ ?_,r2⟩;rw[q04 (by omega),cT,g0,bS];dsimp only;rw[g1,bS];dsimp only;rw[show eqB f t0=true by rw[e];exact q0e _,cT,q0i hne,g2,bS];dsimp only;rw[e1,q0e,cT,g3,bS];dsimp only;rw[g4,bS];dsimp only;rw[q06 (by simp[q07];omega)];exact r1
   by_cases e2:k=2;·obtain⟨out,j',r1,r2⟩:=again ⟨2,f,remI .i64 (addI .i64 t0 1) (N:Int),⟨0,0⟩,noT,noM⟩ j2 (q25 q9s (fun e=>by simp) (fun e=>by cases e) ⟨a0,b0⟩) h2;refine⟨out,j',q6m _ _ _ _ _ _ _ _ _ _ ?_,r2⟩;rw[q04 (by omega),cT,g0,bS];dsimp only;rw[g1,bS];dsimp only;rw[show eqB f t0=true by rw[e];exact q0e _,cT,q0i hne,g2,bS];dsimp only;rw[q0d e1,cF,e2,q0e,cT,q06 (by simp[q07];omega)];exact r1
   by_cases e3:k=3;·cases hd:d with|false=>rw[hd]at again;obtain⟨out,j',r1,r2⟩:=again ⟨2,f,remI .i64 (addI .i64 t0 1) (N:Int),⟨0,0⟩,noT,noM⟩ j2 (q25 q9s (fun e=>by simp) (fun e=>by cases e) ⟨a0,b0⟩) h2;refine⟨out,j',q6m _ _ _ _ _ _ _ _ _ _ ?_,r2⟩;rw[q04 (by omega),cT,g0,bS];dsimp only;rw[g1,bS];dsimp only;rw[show eqB f t0=true by rw[e];exact q0e _,cT,q0i hne,g2,bS];dsimp only;rw[q0d e1,cF,q0d e2,cF,e3,q0e,cT,Bool.not_false,cT,q06 (by simp[q07];omega)];exact r1|true=>rw[hd]at again;obtain⟨t5,j5,g5,v5,h5⟩:=qhe (m:=(N:Int)) (by omega) (by omega) h2;obtain⟨out,j',r1,r2⟩:=again ⟨3,f,remI .i64 (addI .i64 t0 1) (N:Int),⟨0,0⟩,t5,noM⟩ j5 (q25 (qly v5) (fun e=>by simp) (fun _=>⟨rfl,v5⟩) ⟨a0,b0⟩) h5;refine⟨out,j',q6m _ _ _ _ _ _ _ _ _ _ ?_,r2⟩;rw[q04 (by omega),cT,g0,bS];dsimp only;rw[g1,bS];dsimp only;rw[show eqB f t0=true by rw[e];exact q0e _,cT,q0i hne,g2,bS];dsimp only;rw[q0d e1,cF,q0d e2,cF,e3,q0e,cT,nT,cF,g5,bS];dsimp only;rw[Trust.etaM,q06 (by simp[q07];omega)];exact r1
   by_cases e4:k=4
   .obtain⟨x6,j6,g6,a6,b6,h6⟩:=N_ok (n:=4) (by decide) (by decide) h2;by_cases e6:x6=0;·obtain⟨out,j',r1,r2⟩:=again ⟨4,f,remI .i64 (addI .i64 t0 1) (N:Int),⟨0,0⟩,noT,noM⟩ j6 (q25 q9s (fun e=>by simp) (fun e=>by cases e) ⟨a0,b0⟩) h6;refine⟨out,j',q6m _ _ _ _ _ _ _ _ _ _ ?_,r2⟩;rw[q04 (by omega),cT,g0,bS];dsimp only;rw[g1,bS];dsimp only;rw[show eqB f t0=true by rw[e];exact q0e _,cT,q0i hne,g2,bS];dsimp only;rw[q0d e1,cF,q0d e2,cF,q0d e3,cF,e4,q0e,cT,g6,bS];dsimp only;rw[e6,q0e,cT,q06 (by simp[q07];omega)];exact r1
    .obtain⟨out,j',r1,r2⟩:=again ⟨2,f,remI .i64 (addI .i64 t0 1) (N:Int),⟨0,0⟩,noT,noM⟩ j6 (q25 q9s (fun e=>by simp) (fun e=>by cases e) ⟨a0,b0⟩) h6;refine⟨out,j',q6m _ _ _ _ _ _ _ _ _ _ ?_,r2⟩;rw[q04 (by omega),cT,g0,bS];dsimp only;rw[g1,bS];dsimp only;rw[show eqB f t0=true by rw[e];exact q0e _,cT,q0i hne,g2,bS];dsimp only;rw[q0d e1,cF,q0d e2,cF,q0d e3,cF,e4,q0e,cT,g6,bS];dsimp only;rw[q0d e6,cF,q06 (by simp[q07];omega)];exact r1
   obtain⟨out,j',r1,r2⟩:=qif hN hN2 (i:=i) (by omega) (acc:=acc) (by omega) again N 0 f (remI .i64 (addI .i64 t0 1) (N:Int)) j2 (by omega) ⟨a0,b0⟩ hrem h2;refine⟨out,j',q6m _ _ _ _ _ _ _ _ _ _ ?_,r2⟩;rw[q04 (by omega),cT,g0,bS];dsimp only;rw[g1,bS];dsimp only;rw[show eqB f t0=true by rw[e];exact q0e _,cT,q0i hne,g2,bS];dsimp only;rw[q0d e1,cF,q0d e2,cF,q0d e3,cF,q0d e4,cF];omega
  .skip;by_cases e1:k=1;·obtain⟨x3,j3,g3,a3,b3,h3⟩:=N_ok (n:=2) (by decide) (by decide) h2;obtain⟨x4,j4,g4,a4,b4,h4⟩:=N_ok (n:=2) (by decide) (by decide) h3;obtain⟨out,j',r1,r2⟩:=again ⟨1,f,t0,⟨x3,x4⟩,noT,noM⟩ j4 (q25 q9s (fun _=>by grind) (fun e=>by cases e) ⟨a0,b0⟩) h4;refine⟨out,j',q6m _ _ _ _ _ _ _ _ _ _ ?_,r2⟩;rw[q04 (by omega),cT,g0,bS];dsimp only;rw[g1,bS];dsimp only;rw[q0d e,cF,g2,bS];dsimp only;rw[e1,q0e,cT,g3,bS];dsimp only;rw[g4,bS];dsimp only;rw[q06 (by simp[q07];omega)];exact r1
   by_cases e2:k=2;·obtain⟨out,j',r1,r2⟩:=again ⟨2,f,t0,⟨0,0⟩,noT,noM⟩ j2 (q25 q9s (fun e=>by simp) (fun e=>by cases e) ⟨a0,b0⟩) h2;refine⟨out,j',q6m _ _ _ _ _ _ _ _ _ _ ?_,r2⟩;rw[q04 (by omega),cT,g0,bS];dsimp only;rw[g1,bS];dsimp only;rw[q0d e,cF,g2,bS];dsimp only;rw[q0d e1,cF,e2,q0e,cT,q06 (by simp[q07];omega)];exact r1
   by_cases e3:k=3;·cases hd:d with|false=>rw[hd]at again;obtain⟨out,j',r1,r2⟩:=again ⟨2,f,t0,⟨0,0⟩,noT,noM⟩ j2 (q25 q9s (fun e=>by simp) (fun e=>by cases e) ⟨a0,b0⟩) h2;refine⟨out,j',q6m _ _ _ _ _ _ _ _ _ _ ?_,r2⟩;rw[q04 (by omega),cT,g0,bS];dsimp only;rw[g1,bS];dsimp only;rw[q0d e,cF,g2,bS];dsimp only;rw[q0d e1,cF,q0d e2,cF,e3,q0e,cT,Bool.not_false,cT,q06 (by simp[q07];omega)];exact r1|true=>rw[hd]at again;obtain⟨t5,j5,g5,v5,h5⟩:=qhe (m:=(N:Int)) (by omega) (by omega) h2;obtain⟨out,j',r1,r2⟩:=again ⟨3,f,t0,⟨0,0⟩,t5,noM⟩ j5 (q25 (qly v5) (fun e=>by simp) (fun _=>⟨rfl,v5⟩) ⟨a0,b0⟩) h5;refine⟨out,j',q6m _ _ _ _ _ _ _ _ _ _ ?_,r2⟩;rw[q04 (by omega),cT,g0,bS];dsimp only;rw[g1,bS];dsimp only;rw[q0d e,cF,g2,bS];dsimp only;rw[q0d e1,cF,q0d e2,cF,e3,q0e,cT,nT,cF,g5,bS];dsimp only;rw[Trust.etaM,q06 (by simp[q07];omega)];exact r1
   by_cases e4:k=4
   .obtain⟨x6,j6,g6,a6,b6,h6⟩:=N_ok (n:=4) (by decide) (by decide) h2;by_cases e6:x6=0;·obtain⟨out,j',r1,r2⟩:=again ⟨4,f,t0,⟨0,0⟩,noT,noM⟩ j6 (q25 q9s (fun e=>by simp) (fun e=>by cases e) ⟨a0,b0⟩) h6;refine⟨out,j',q6m _ _ _ _ _ _ _ _ _ _ ?_,r2⟩;rw[q04 (by omega),cT,g0,bS];dsimp only;rw[g1,bS];dsimp only;rw[q0d e,cF,g2,bS];dsimp only;rw[q0d e1,cF,q0d e2,cF,q0d e3,cF,e4,q0e,cT,g6,bS];dsimp only;rw[e6,q0e,cT,q06 (by simp[q07];omega)];exact r1
    .obtain⟨out,j',r1,r2⟩:=again ⟨2,f,t0,⟨0,0⟩,noT,noM⟩ j6 (q25 q9s (fun e=>by simp) (fun e=>by cases e) ⟨a0,b0⟩) h6;refine⟨out,j',q6m _ _ _ _ _ _ _ _ _ _ ?_,r2⟩;rw[q04 (by omega),cT,g0,bS];dsimp only;rw[g1,bS];dsimp only;rw[q0d e,cF,g2,bS];dsimp only;rw[q0d e1,cF,q0d e2,cF,q0d e3,cF,e4,q0e,cT,g6,bS];dsimp only;rw[q0d e6,cF,q06 (by simp[q07];omega)];exact r1
   obtain⟨out,j',r1,r2⟩:=qif hN hN2 (i:=i) (by omega) (acc:=acc) (by omega) again N 0 f (t0) j2 (by omega) ⟨a0,b0⟩ ⟨a1,b1⟩ h2;refine⟨out,j',q6m _ _ _ _ _ _ _ _ _ _ ?_,r2⟩;rw[q04 (by omega),cT,g0,bS];dsimp only;rw[g1,bS];dsimp only;rw[q0d e,cF,g2,bS];dsimp only;rw[q0d e1,cF,q0d e2,cF,q0d e3,cF,q0d e4,cF];omega
theorem y5w(hN:1<=N)(hN2:N<=10){c:Config}(hc:c.Members.length=N){ill:Int}{n:Nat}(hn:n<1000){j:Int}(h:q0n l j):qs2 N d n l (z9t c ill (n:Int) d l j):=by obtain⟨out,j',r1,r2⟩:=qw2 hN hN2 hn (ms:=c.Members) (ill:=ill) (d:=d) n 0 [] j (by omega) rfl (fun _ h=>by cases h) h;refine⟨out,j',ygy _ _ _ _ _ _ _ ?_,r2⟩;grind
end Go.Proofs.YtdmfjabikomgiaaGreat
