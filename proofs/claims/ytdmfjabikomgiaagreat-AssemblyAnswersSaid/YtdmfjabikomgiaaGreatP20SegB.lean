/- Laws of the printed functions. -/
import Derived.Test.YtdmfjabikomgiaaGreatP20SegA
import Derived.Deep.RegionHeld3
import Derived.Shelf.SlSortCmp.NoneTotal
import Derived.Test.YtdmfjabikomgiaaGreatMachC
import Derived.WalkKit
import Derived.Lib.SmallJoins
import Derived.Deep.RegionLaw
import Derived.Deep.DrawnRows
import Derived.Deep.AppendLies
import Derived.OwnWalk
import Derived.Laws.OwnMore
import Derived.Test.YtdmfjabikomgiaaGreatP20Env
import Derived.Test.YtdmfjabikomgiaaGreatP20Df
import Derived.OrdersHeld
import Derived.Deep.RegionHeld
import Derived.Test.YtdmfjabikomgiaaGreatP20Fchk
namespace Go.Proofs.YtdmfjabikomgiaaGreat
open Go Go.Ab
variable {n : Nat} {m : Message} {z : Int}
def insB(t:Trust)(n:Nat):Bool:=decide (uses t<2^n)
def q7u(n:Nat)(l:LM):Bool:=l.all fun x=>decide (x.Node<(n:Int))&&insB x.Trust n
def q7s(n:Nat):Nat->LV->Bool|_,[]=>true|k,v::r=>decide (v.Node=(k:Int))&&(q21 v&&(insB v.Trust n&&(q7u n v.Heard&&q7s n (k+1) r)))
abbrev q6d(m:Meeting):Prop:=1<=m.Voters.length/\m.Voters.length<=10/\(0<=m.Ill/\m.Ill<((2^m.Voters.length:Nat):Int))/\(0<=m.Stopped/\m.Stopped<((2^m.Voters.length:Nat):Int))/\m.Ill.toNat&&&m.Stopped.toNat=0
def q3i(m:Meeting):Bool:=decide (q6d m)&&q7s m.Voters.length 0 m.Voters
structure SmallMt(m:Meeting):Prop where
 len:m.Voters.length<1000000
 voters:∀v∈m.Voters,SmallV v
theorem shlN(h:n<=10):shlI .i64 1 (n:Int)=((2^n:Nat):Int):=by rw[shl1 (by omega) (by omega),tN]
theorem qb4(h:n<=10):2^n<=1024:=Nat.pow_le_pow_right (by decide) h
theorem qdt{t:Trust}(ht:Small t)(hn:n<=10):z4a t (n:Int)=some (insB t n):=by apply yih;rw[q0i (by omega),qy3 t ht,bS,shlN hn];unfold ltB insB;congr 1;grind
theorem y7g(hm:SmallM m)(hn:n<=10):z7u m (n:Int)=some (!(decide (m.Node<(n:Int))&&insB m.Trust n),(n:Int)):=by
 apply yhy;by_cases h:m.Node<(n:Int);·rw[show leB (n:Int) m.Node=false by unfold leB;simp;omega,cF,qdt hm.tr hn];grind
 .rw[show leB (n:Int) m.Node=true by unfold leB;simp;omega,cT];grind
theorem qwl(l:LM)(hl:l.length<1000000)(hm:∀m∈l,SmallM m){n:Nat}(hn:n<=10):∀(suf:LM)(i:Nat),l.drop i=suf->∃r:Int,z04 l ((l.length:Nat):Int) (i:Int) (n:Int)=some (r,(n:Int))/\leB 0 r=!q7u n suf
 |[],i,h=>by refine⟨-1,y55 _ _ _ _ _ ?_,by rfl⟩;rw[q0c h];rfl|y::suf,i,h=>by
  have hlt:=q09 h;obtain⟨r,h1,h2⟩:=qwl l hl hm hn suf (i+1) (q01 h);have hf:=y7g (hm y (List.mem_of_mem_drop (i:=i) (by simp_all))) hn;by_cases hy:(decide (y.Node<(n:Int))&&insB y.Trust n)=true;·refine⟨r,y55 _ _ _ _ _ ?_,by rw[h2];simp[q7u,hy]⟩;rw[q05 h,cT,q02 h,hf,bS,hy,q03 (by omega)];grind
  .refine⟨i,y55 _ _ _ _ _ ?_,by rw[Bool.not_eq_true]at hy;simp[q7u,hy,leB]⟩;rw[Bool.not_eq_true]at hy;rw[q05 h,cT,q02 h,hf,bS,hy];rfl
theorem y6b(l:LM)(hl:l.length<1000000)(hm:∀m∈l,SmallM m)(hn:n<=10):z0m l (n:Int)=some (!q7u n l,(n:Int)):=by apply yhc;obtain⟨r,h1,h2⟩:=qwl l hl hm hn l 0 rfl;have h3:z0r l (n:Int)=_:=ygl _ _ _ h1;simp_all
theorem y2b{n:Nat}(hn:n<=10)(l:LV)(hl:l.length<1000000)(hv:∀v∈l,SmallV v)(a7:LV)(a9 a11:Int):∀(suf:LV)(i:Nat),l.drop i=suf->z2x l ((l.length:Nat):Int) (i:Int) a7 a9 a11 (n:Int)=some (q7s n i suf)
 |[],i,h=>by apply y8o;rw[q0c h];rfl|y::suf,i,h=>by
  have hlt:=q09 h;have hy:=hv y (List.mem_of_mem_drop (i:=i) (by simp_all));have ih:=y2b hn l hl hv a7 a9 a11 suf (i+1) (q01 h);apply y8o;rw[q05 h,cT,q02 h,qc4 hy,bS,qdt hy.tr hn,bS,y6b _ hy.heard hy.msgs hn,bS,q03 (by omega),ih,q7s];by_cases e:y.Node=(i:Int);·rw[e,q0g];cases q21 y<;>cases insB y.Trust n<;>cases q7u n y.Heard<;>simp
  .rw[q1c e];grind
theorem q6s:leB ((2^n:Nat):Int) z=!decide (z<((2^n:Nat):Int)):=by unfold leB;grind
theorem qi8:ltB z 0=!decide (0<=z):=by unfold ltB;grind
theorem q6y{m:Meeting}(h:SmallMt m):z4v m=some (q3i m):=by
 apply ydu;unfold q3i;by_cases h1:1<=m.Voters.length;case neg=>rw[q04 (by omega),cT,decide_eq_false (p:=q6d m) (fun g=>h1 g.1)];rfl
 rw[q00 (by omega),cF];by_cases h2:m.Voters.length<=10;case neg=>rw[q04 (by omega),cT,decide_eq_false (p:=q6d m) (fun g=>h2 g.2.1)];rfl
 have l1:z2x m.Voters ((m.Voters.length:Nat):Int) 0 m.Voters m.Stopped m.Ill ((m.Voters.length:Nat):Int)=_:=y2b h2 m.Voters h.len h.voters m.Voters m.Stopped m.Ill m.Voters 0 rfl;have hp:=qb4 h2;rw[q00 (by omega),cF,q0i (by omega),q0i (by omega),shlN h2,q6s,q6s,qi8,qi8,l1];by_cases h3:0<=m.Ill;case neg=>grind
 by_cases h4:m.Ill<((2^m.Voters.length:Nat):Int);case neg=>grind
 by_cases h5:0<=m.Stopped;case neg=>grind
 by_cases h6:m.Stopped<((2^m.Voters.length:Nat):Int);case neg=>grind
 have ha:andI .i64 m.Ill m.Stopped=((m.Ill.toNat&&&m.Stopped.toNat:Nat):Int):=by have:=q9g (a:=m.Ill.toNat) (b:=m.Stopped.toNat) (by omega) (by omega);grind
 rw[ha,decide_eq_true h3,decide_eq_true h4,decide_eq_true h5,decide_eq_true h6];simp only[nT,cF];by_cases h7:m.Ill.toNat&&&m.Stopped.toNat=0;·rw[decide_eq_true (p:=q6d m) ⟨h1,h2,⟨h3,h4⟩,⟨h5,h6⟩,h7⟩,h7,show(((0:Nat):Nat):Int)=0 from rfl,q0g,cF];rfl
 .rw[q1c (by omega),cT,decide_eq_false (p:=q6d m) (fun g=>h7 g.2.2.2.2)];rfl
theorem qvr{n:Nat}(hn:n<=10)(l:LM)(hl:l.length<1000000)(hm:∀m∈l,SmallM m){a2 a14:LV}{a4 a6 a16 a18 a20 a22 a24:Int}{a26:LI}{a28:LT}{a30 a32 a34:LC}{a36:LM}{R:Bool}(hR:z3z (n:Int) a2 a4 (addI .i64 a6 1) a14 a16 a18=some R):∀(suf:LM)(i:Nat),l.drop i=suf->z51 (n:Int) a2 a4 a6 l ((l.length:Nat):Int) (i:Int) a14 a16 a18 a20 a22 a24 a26 a28 a30 a32 a34 a36=some (q7u n suf&&R)
 |[],i,h=>by apply y86;rw[q0c h,cF,hR];rfl|y::suf,i,h=>by
  have hlt:=q09 h;have hy:=hm y (List.mem_of_mem_drop (i:=i) (by simp_all));apply y86;rw[q05 h,cT,q02 h,q0i (by omega),qio _ hy.tr,bS,shlN hn,q6s,q03 (by omega),qvr hn l hl hm hR suf (i+1) (q01 h)];have e1:leB (n:Int) y.Node=!decide (y.Node<(n:Int)):=by unfold leB;grind
  have e2:decide (((uses y.Trust:Nat):Int)<((2^n:Nat):Int))=insB y.Trust n:=by unfold insB;grind
  rw[e1,e2];simp only[q7u,List.all_cons];cases decide (y.Node<(n:Int))<;>cases insB y.Trust n<;>simp
theorem y1h{n:Nat}(hn:n<=10)(l:LV)(hl:l.length<1000000)(hv:∀v∈l,SmallV v)(a8:LV)(a10 a12:Int):∀(suf:LV)(i:Nat),l.drop i=suf->z3z (n:Int) l ((l.length:Nat):Int) (i:Int) a8 a10 a12=some (q7s n i suf)
 |[],i,h=>by apply y9v;rw[q0c h];rfl|y::suf,i,h=>by
  have hlt:=q09 h;have hy:=hv y (List.mem_of_mem_drop (i:=i) (by simp_all));have ih:=y1h hn l hl hv a8 a10 a12 suf (i+1) (q01 h);have hd:=hy.heard;have l2:z51 (n:Int) l ((l.length:Nat):Int) (i:Int) y.Heard ((y.Heard.length:Nat):Int) 0 a8 a10 a12 y.Node y.Seq y.Trust.Threshold y.Trust.Nodes y.Trust.Inner y.Votes y.Accepts y.Confirms y.Heard=_:=qvr hn y.Heard hd hy.msgs (by rw[q03 (by omega)];omega) y.Heard 0 rfl;have e2:decide (((uses y.Trust:Nat):Int)<((2^n:Nat):Int))=insB y.Trust n:=by unfold insB;grind
  apply y9v;rw[q05 h,cT,q02 h,qc9 hy,bS,q0i (by omega),qio _ hy.tr,bS,shlN hn,q6s,e2,l2,q7s];by_cases e:y.Node=(i:Int);·rw[e,q0g];cases q21 y<;>cases insB y.Trust n<;>simp
  .rw[q1c e];cases q21 y<;>simp[e]
theorem q6x{m:Meeting}(h:SmallMt m):z6d m=some (q3i m):=by
 apply yf3;unfold q3i;by_cases h1:1<=m.Voters.length;case neg=>rw[q04 (by omega),cT,decide_eq_false (p:=q6d m) (fun g=>h1 g.1)];rfl
 rw[q00 (by omega),cF];by_cases h2:m.Voters.length<=10;case neg=>rw[q04 (by omega),cT,decide_eq_false (p:=q6d m) (fun g=>h2 g.2.1)];rfl
 have l1:z3z ((m.Voters.length:Nat):Int) m.Voters ((m.Voters.length:Nat):Int) 0 m.Voters m.Stopped m.Ill=_:=y1h h2 m.Voters h.len h.voters m.Voters m.Stopped m.Ill m.Voters 0 rfl;have hp:=qb4 h2;rw[q00 (by omega),cF,q0i (by omega),q0i (by omega),shlN h2,q6s,q6s,qi8,qi8,l1];by_cases h3:0<=m.Ill;case neg=>grind
 by_cases h4:m.Ill<((2^m.Voters.length:Nat):Int);case neg=>grind
 by_cases h5:0<=m.Stopped;case neg=>grind
 by_cases h6:m.Stopped<((2^m.Voters.length:Nat):Int);case neg=>grind
 have ha:andI .i64 m.Ill m.Stopped=((m.Ill.toNat&&&m.Stopped.toNat:Nat):Int):=by have:=q9g (a:=m.Ill.toNat) (b:=m.Stopped.toNat) (by omega) (by omega);grind
 rw[ha,decide_eq_true h3,decide_eq_true h4,decide_eq_true h5,decide_eq_true h6];simp only[nT,cF];by_cases h7:m.Ill.toNat&&&m.Stopped.toNat=0;·rw[decide_eq_true (p:=q6d m) ⟨h1,h2,⟨h3,h4⟩,⟨h5,h6⟩,h7⟩,h7,show(((0:Nat):Nat):Int)=0 from rfl,q0g,cF];rfl
 .rw[q1c (by omega),cT,decide_eq_false (p:=q6d m) (fun g=>h7 g.2.2.2.2)];rfl
def pairK(k:Int):Bool:=decide (k=2\/k=5)
def mGone(m:Meeting)(p:Play):Bool:=if pairK p.Kind=true then has (m.Ill.toNat|||m.Stopped.toNat) p.To else has m.Stopped.toNat p.From
def mAsk(m:Meeting)(p:Play):Int:=if q3i m=false\/p.Kind<1\/5<p.Kind\/p.From<0\/(m.Voters.length:Int)<=p.From then 1 else if pairK p.Kind=true/\(p.To<0\/(m.Voters.length:Int)<=p.To\/p.To=p.From)then 1 else if has m.Ill.toNat p.From≠decide (p.Kind=5)then 13 else if mGone m p=true then 13 else 0
noncomputable def mChg(m:Meeting)(p:Play):Int×Voter×Int:=if p.Kind=1 then(p.From,(voteV (atV m.Voters p.From.toNat) p.Claim).1,(voteV (atV m.Voters p.From.toNat) p.Claim).2)else if p.Kind=2 then(p.To,(hearV (atV m.Voters p.To.toNat) (say (atV m.Voters p.From.toNat))).1,(hearV (atV m.Voters p.To.toNat) (say (atV m.Voters p.From.toNat))).2)else if p.Kind=3 then if verr p.Trust≠0 then(0,atV m.Voters p.From.toNat,verr p.Trust)else if insB p.Trust m.Voters.length=false then(0,atV m.Voters p.From.toNat,5)else(p.From,(declV (atV m.Voters p.From.toNat) p.Trust).1,(declV (atV m.Voters p.From.toNat) p.Trust).2)else if p.Kind=5 then if p.Message.Node≠p.From then(0,atV m.Voters p.From.toNat,8)else if msgB p.Message=false then(0,atV m.Voters p.From.toNat,1)else if insB p.Message.Trust m.Voters.length=false then(0,atV m.Voters p.From.toNat,5)else(p.To,(hearV (atV m.Voters p.To.toNat) p.Message).1,(hearV (atV m.Voters p.To.toNat) p.Message).2)else(p.From,atV m.Voters p.From.toNat,0)
def q1u:Meeting:=⟨[],0,0⟩
noncomputable def stepM(m:Meeting)(p:Play):Meeting×Int:=if mAsk m p≠0 then(q1u,mAsk m p)else if(mChg m p).2.2≠0 then(q1u,(mChg m p).2.2)else(⟨m.Voters.set (mChg m p).1.toNat (mChg m p).2.1,if p.Kind=4 then((m.Stopped.toNat|||2^p.From.toNat:Nat):Int)else m.Stopped,m.Ill⟩,0)
structure SmallP(p:Play):Prop where
 tr:Small p.Trust
 msg:SmallM p.Message
theorem ycf(k:Int):z42 k=some (pairK k):=by
 apply ygn;unfold pairK;by_cases h:k=2;·subst h;rfl
 .rw[q0d h,cF];simp[eqB,h]
theorem q10{m:Meeting}:q3i m=true↔(1<=m.Voters.length/\m.Voters.length<=10/\(0<=m.Ill/\m.Ill<((2^m.Voters.length:Nat):Int))/\(0<=m.Stopped/\m.Stopped<((2^m.Voters.length:Nat):Int))/\m.Ill.toNat&&&m.Stopped.toNat=0)/\q7s m.Voters.length 0 m.Voters=true:=by unfold q3i;simp
theorem q1v{n:Nat}:∀{l:LV}{k:Nat},q7s n k l=true↔∀i,i<l.length->(atV l i).Node=((k+i:Nat):Int)/\q21 (atV l i)=true/\uses (atV l i).Trust<2^n/\∀x∈(atV l i).Heard,x.Node<(n:Int)/\uses x.Trust<2^n
 |[],k=>by simp[q7s]|v::r,k=>by
  have ih:=q1v (n:=n) (l:=r) (k:=k+1);have hh:q7u n v.Heard=true↔∀x∈v.Heard,x.Node<(n:Int)/\uses x.Trust<2^n:=by unfold q7u insB;simp
  rw[q7s,aT,aT,aT,aT,ih,hh,dT,insB,dT];constructor;·rintro⟨h1,h2,h3,h4,h5⟩i hi;cases i with|zero=>exact⟨h1,h2,h3,h4⟩|succ i=>have:=h5 i (by simp_all);rw[show k+(i+1)=k+1+i by omega];exact this
  .intro h;obtain⟨h1,h2,h3,h4⟩:=h 0 (by simp);refine⟨h1,h2,h3,h4,fun i hi=>?_⟩;have:=h (i+1) (by simp_all);rw[show k+1+i=k+(i+1)by omega];exact this
theorem yby{m:Meeting}(h:SmallMt m)(p:Play):z8g m p=some (mAsk m p):=by apply ygr;rw[q6y h,bS];unfold mAsk;cases hv:q3i m with|false=>rfl|true=>
  obtain⟨⟨_,h2,⟨h3,h4⟩,⟨h5,h6⟩,_⟩,_⟩:=q10.1 hv;have hp:=qb4 h2;simp only[nT,cF,Bool.true_eq_false,false_or];by_cases k1:p.Kind<1;·rw[q04 k1,if_pos (.inl k1)];rfl
  by_cases k2:5<p.Kind;·rw[q00 (by omega),q04 k2,if_pos (.inr (.inl k2))];rfl
  by_cases k3:p.From<0;·rw[q00 (by omega),q00 (by omega),q04 k3,if_pos (.inr (.inr (.inl k3)))];rfl
  by_cases k4:(m.Voters.length:Int)<=p.From;·rw[q00 (by omega),q00 (by omega),q00 (by omega),show leB ((m.Voters.length:Nat):Int) p.From=true by unfold leB;simp_all,if_pos (.inr (.inr (.inr k4)))];rfl
  rw[q00 (by omega),q00 (by omega),q00 (by omega),show leB ((m.Voters.length:Nat):Int) p.From=false by unfold leB;simp_all,if_neg (by omega),ycf,bS];have e1:z15 m.Ill p.From=some (has m.Ill.toNat p.From):=by have:=q1i (s:=m.Ill.toNat) (by omega) p.From;grind
  have e2:z15 m.Stopped p.From=some (has m.Stopped.toNat p.From):=by have:=q1i (s:=m.Stopped.toNat) (by omega) p.From;grind
  have e3:z15 (orI .i64 m.Ill m.Stopped) p.To=some (has (m.Ill.toNat|||m.Stopped.toNat) p.To):=by have ho:=q3a (a:=m.Ill.toNat) (b:=m.Stopped.toNat) (by omega) (by omega);rw[Int.toNat_of_nonneg h3,Int.toNat_of_nonneg h5]at ho;rw[ho];exact q1i (Nat.or_lt_two_pow (n:=10) (by omega) (by omega)) p.To
  have e4:eqB p.Kind 5=decide (p.Kind=5):=rfl;rw[e1,e2,e3,e4];unfold mGone;simp only[bS,cF];cases hk:pairK p.Kind with|true=>
   simp only[cT,true_and,if_true];by_cases t1:p.To<0;·rw[q04 t1,if_pos (.inl t1)];rfl
   by_cases t2:(m.Voters.length:Int)<=p.To;·rw[q00 (by omega),show leB ((m.Voters.length:Nat):Int) p.To=true by unfold leB;simp;omega,if_pos (.inr (.inl t2))];rfl
   by_cases t3:p.To=p.From;·rw[q00 (by omega),show leB ((m.Voters.length:Nat):Int) p.To=false by unfold leB;simp;omega,t3,q0e,if_pos (.inr (.inr rfl))];rfl
   rw[q00 (by omega),show leB ((m.Voters.length:Nat):Int) p.To=false by unfold leB;simp;omega,q0d t3,if_neg (by omega)];grind|false=>grind
theorem q3p{m:Meeting}{p:Play}(h:mAsk m p=0):q3i m=true/\1<=p.Kind/\p.Kind<=5/\0<=p.From/\p.From<(m.Voters.length:Int)/\(pairK p.Kind=true->0<=p.To/\p.To<(m.Voters.length:Int)/\p.To≠p.From/\has (m.Ill.toNat|||m.Stopped.toNat) p.To=false)/\has m.Ill.toNat p.From=decide (p.Kind=5)/\(pairK p.Kind=false->has m.Stopped.toNat p.From=false):=by
 unfold mAsk at h;split at h;·cases h
 .rename_i h1;split at h;·cases h
  .rename_i h2;split at h;·cases h
   .rename_i h3;split at h;·cases h
    .rename_i h4;have hv:q3i m=true:=by simp_all
     refine⟨hv,by omega,by omega,by omega,by omega,fun hk=>?_,by simp_all,fun hk=>?_⟩;·unfold mGone at h4;simp_all
     .unfold mGone at h4;simp_all
theorem ycq{m:Meeting}(h:SmallMt m){p:Play}(hp:SmallP p)(ha:mAsk m p=0):z7q m p=some (mChg m p):=by
 obtain⟨hv,k1,k2,f1,f2,ht,_,_⟩:=q3p ha;obtain⟨⟨_,h2,_⟩,hvs⟩:=q10.1 hv;have gf:m.Voters[p.From.toNat]?=some (atV m.Voters p.From.toNat):=q2b (by omega);have vf:=q1v.1 hvs p.From.toNat (by omega);have sf:=h.voters _ (List.mem_of_getElem? gf);have rf:=(q14.1 vf.2.1).1;apply yg0;rw[q0m f1 gf];unfold mChg;by_cases e1:p.Kind=1;·rw[if_pos e1,e1,q0e,cT,y1q sf,bS,q0t]
 rw[if_neg e1,q0d e1,cF];by_cases e2:p.Kind=2;·have ht:=ht (by rw[e2];rfl);have gt:m.Voters[p.To.toNat]?=some (atV m.Voters p.To.toNat):=q2b (by omega);have st:=h.voters _ (List.mem_of_getElem? gt);rw[if_pos e2,e2,q0e,cT,q0m ht.1 gt,y66 (q34 rf.tr).1 sf.votes sf.accs,bS,qq2 st (q19 rf.say),bS,q0t]
 rw[if_neg e2,q0d e2,cF];by_cases e3:p.Kind=3
 .rw[if_pos e3,e3,q0e,cT,q9a _ hp.tr,bS,q0t];by_cases z:verr p.Trust=0;·rw[z,q0g,cF,if_neg (by simp),qdt hp.tr h2,bS,y2q sf hp.tr,bS,q0t];cases insB p.Trust m.Voters.length<;>simp
  .rw[q1c z,cT,if_pos z]
 rw[if_neg e3,q0d e3,cF];by_cases e5:p.Kind=5
 .have ht:=ht (by rw[e5];rfl);have gt:m.Voters[p.To.toNat]?=some (atV m.Voters p.To.toNat):=q2b (by omega);have st:=h.voters _ (List.mem_of_getElem? gt);rw[if_pos e5,e5,q0e,cT,q0m ht.1 gt,qdb hp.msg,bS,q0t,qdt hp.msg.tr h2,bS,qq2 st hp.msg,bS,q0t];by_cases z:p.Message.Node=p.From;·rw[z,q0g,cF,if_neg (by simp)];cases msgB p.Message<;>cases insB p.Message.Trust m.Voters.length<;>simp
  .rw[q1c z,cT,if_pos z]
 rw[if_neg e5,q0d e5,cF,q0t]
theorem y13{m:Meeting}{p:Play}(ha:mAsk m p=0)(h0:(mChg m p).2.2=0):(mChg m p).1=(if pairK p.Kind=true then p.To else p.From):=by
 obtain⟨hv,k1,k2,f1,f2,ht,_,_⟩:=q3p ha;unfold mChg at h0⊢;by_cases e1:p.Kind=1;·rw[if_pos e1,e1];rfl
 rw[if_neg e1]at h0⊢;by_cases e2:p.Kind=2;·rw[if_pos e2,e2];rfl
 rw[if_neg e2]at h0⊢;by_cases e3:p.Kind=3
 .rw[if_pos e3]at h0⊢;by_cases z:verr p.Trust=0
  .rw[if_neg (by simpa using z)]at h0⊢;by_cases y:insB p.Trust m.Voters.length=false;·rw[if_pos y]at h0;cases h0
   .rw[if_neg y,e3];rfl
  .rw[if_pos z]at h0;exact absurd h0 z
 rw[if_neg e3]at h0⊢;by_cases e5:p.Kind=5
 .rw[if_pos e5]at h0⊢;by_cases z:p.Message.Node=p.From
  .rw[if_neg (by simpa using z)]at h0⊢;by_cases y:msgB p.Message=false;·rw[if_pos y]at h0;cases h0
   .rw[if_neg y]at h0⊢;by_cases x:insB p.Message.Trust m.Voters.length=false;·rw[if_pos x]at h0;cases h0
    .rw[if_neg x,e5];rfl
  .rw[if_pos z]at h0;cases h0
 rw[if_neg e5];have:pairK p.Kind=false:=by unfold pairK;simp[e2,e5]
 simp_all
theorem qzc(l:LV)(hl:l.length<1000000):z3b l=some ((),l):=yir _ _ (by rw[q06 (by simp[q07];omega)];rfl)
theorem qop{m:Meeting}(h:SmallMt m){p:Play}(hp:SmallP p):z5n m p=some (stepM m p):=by
 apply ygf;rw[yby h,bS,stepM];by_cases ha:mAsk m p=0;case neg=>rw[q1c ha,cT,if_pos ha];rfl
 rw[ha,q0g,cF,if_neg (by simp),ycq h hp ha,bS];by_cases h0:(mChg m p).2.2=0;case neg=>rw[q1c h0,cT,if_pos h0];rfl
 obtain⟨hv,k1,k2,f1,f2,ht,_,_⟩:=q3p ha;obtain⟨⟨_,h2,_,⟨h5,h6⟩,_⟩,_⟩:=q10.1 hv;have hpw:=qb4 h2;have hat:=y13 ha h0;have hx:0<=(mChg m p).1/\(mChg m p).1<(m.Voters.length:Int):=by grind
 have gx:m.Voters[(mChg m p).1.toNat]?=some (atV m.Voters (mChg m p).1.toNat):=q2b (by omega);rw[h0,q0g,cF,if_neg (by simp),qzc _ h.len,bS];dsimp only;rw[q0m hx.1 gx];simp only[nthN,gx,q0t];by_cases e4:p.Kind=4
 .have hf:p.From=((p.From.toNat:Nat):Int):=by omega
  rw[if_pos e4,e4,q0e,cT,q0i f1];have hs:shlI .i64 1 p.From=((2^p.From.toNat:Nat):Int):=by rw[shl1 (by omega) (by omega)]
  have hpf:2^p.From.toNat<=2^10:=Nat.pow_le_pow_right (by decide) (by omega);have ho:orI .i64 m.Stopped ((2^p.From.toNat:Nat):Int)=((m.Stopped.toNat|||2^p.From.toNat:Nat):Int):=by have:=q3a (a:=m.Stopped.toNat) (b:=2^p.From.toNat) (by omega) (by omega);rw[Int.toNat_of_nonneg h5]at this;exact this
  grind
 .rw[if_neg e4,q0d e4,cF]
theorem qku:∀t:Trust,Fits t->z63 t=some t:=by
 apply Trust.ind;intro t ih ht;have hsz:size t<1073741824:=ht;rw[q2a]at hsz;have l1:∀(suf:LT)(i:Nat)(acc:LT)(a8:Int)(a10:LI)(a12:LT)(a14:Int)(a16:LI)(a18:LT)(a20:Int)(a22:LI),t.Inner.drop i=suf->acc.length<=i->z47 t.Inner ((t.Inner.length:Nat):Int) (i:Int) a8 a10 a12 a14 a16 a18 a20 a22 acc=some ⟨a20,a22,acc++suf⟩:=by intro suf;induction suf with|nil=>intro i acc a8 a10 a12 a14 a16 a18 a20 a22 h ha;apply yb3;simp only[q0c h,cF,List.append_nil]|cons y suf ihs=>intro i acc a8 a10 a12 a14 a16 a18 a20 a22 h ha;have hlt:=q09 h;have hy:y∈t.Inner:=List.mem_of_mem_drop (by rw[h];exact List.mem_cons_self);apply yb3;simp only[q05 h,cT,q02 h,ih y hy (ht.mem hy),bS,q03 (show i<4611686018427387904 by omega),Trust.etaM];rw[q06 (by simp[q07];omega),ihs (i+1) (acc++[y]) _ _ _ _ _ _ _ _ (q01 h) (by simp;omega)];simp
 apply yht;have h1:z1j t.Nodes=some ((),t.Nodes):=ybm _ _ (by rw[q06 (by simp[q07];omega)];rfl);rw[h1,bS,show(0:Int)=((0:Nat):Int)from rfl,l1 t.Inner 0 [] _ _ _ _ _ _ _ _ rfl (Nat.le_refl _)];simp
theorem qub(ht:Fits m.Trust)(h1:m.Votes.length<1000000)(h2:m.Accepts.length<1000000):z3g m=some m:=by apply ye5;rw[qku _ ht,bS,q48 _ h1,bS,q48 _ h2,bS,Trust.etaM]
theorem qqq(l:LM)(hl:l.length<1000000)(hm:∀m∈l,z3g m=some m){a3 a15 a21:LV}{a5 a7 a17 a19 a23 a25:Int}(ha:a15.length<1000000){n s t:Int}{ns:LI}{is:LT}{va aa ca:LC}{R:Meeting}:∀(suf:LM)(i:Nat)(acc:LM),l.drop i=suf->acc.length<=i->z2w a3 a5 (addI .i64 a7 1) (a15++[Voter.mk n s ⟨t,ns,is⟩ va aa ca (acc++suf)]) a17 a19 a21 a23 a25=some R->z44 a3 a5 a7 l ((l.length:Nat):Int) (i:Int) a15 a17 a19 a21 a23 a25 n s t ns is va aa ca acc=some R|[],i,acc,h,hac,hR=>by apply ya5;rw[q0c h,cF,q06 (by simp[q07];omega)];simp_all|m::suf,i,acc,h,hac,hR=>by have hlt:=q09 h;apply ya5;rw[q05 h,cT,q02 h,hm m (List.mem_of_mem_drop (i:=i) (by simp_all)),bS,qbc,q06 (by simp[q07];omega),q03 (by omega)];exact qqq l hl hm ha suf (i+1) (acc++[m]) (q01 h) (by simp_all) (by simp_all)
structure FreshA(v:Voter):Prop where
 tr:Fits v.Trust
 votes:v.Votes.length<1000000
 accs:v.Accepts.length<1000000
 confs:v.Confirms.length<1000000
 heard:v.Heard.length<1000000
 msgs:∀m∈v.Heard,z3g m=some m
theorem qr0(l:LV)(hl:l.length<1000000)(hf:∀v∈l,FreshA v)(a10 a12 a16 a18:Int)(a14:LV):∀(suf:LV)(i:Nat)(acc:LV),l.drop i=suf->acc.length<=i->z2w l ((l.length:Nat):Int) (i:Int) acc a10 a12 a14 a16 a18=some ⟨acc++suf,a10,a12⟩
 |[],i,acc,h,ha=>by apply y98;rw[q0c h,cF,List.append_nil]|y::suf,i,acc,h,ha=>by
  have hlt:=q09 h;have hy:=hf y (List.mem_of_mem_drop (i:=i) (by simp_all));apply y98;rw[q05 h,cT,q02 h,qku _ hy.tr,bS,q48 _ hy.votes,bS,q48 _ hy.accs,bS,q48 _ hy.confs,bS];dsimp only;refine qqq y.Heard hy.heard hy.msgs (by omega) y.Heard 0 [] rfl (Nat.le_refl _) ?_;have hv:Voter.mk y.Node y.Seq ⟨y.Trust.Threshold,y.Trust.Nodes,y.Trust.Inner⟩ y.Votes y.Accepts y.Confirms ([]++y.Heard)=y:=by simp
  rw[hv,q03 (by omega),qr0 l hl hf a10 a12 a16 a18 a14 suf (i+1) (acc++[y]) (q01 h) (by simp_all)];simp
theorem qkh{m:Meeting}(h:m.Voters.length<1000000)(hf:∀v∈m.Voters,FreshA v):z3v m=some m:=by apply yg6;have:=qr0 m.Voters h hf m.Stopped m.Ill 0 0 [] m.Voters 0 [] rfl (Nat.le_refl _);exact this
theorem y3r(h:msgB m=true):z3g m=some m:=qub (q34 (q3f.1 h).2.2.1).1 (q19 h).votes (q19 h).accs
theorem Ready.freshA{v:Voter}(h:Ready v):FreshA v:=⟨(q34 h.tr).1,by have:=h.vlen;omega,by have:=h.alen;omega,by have:=h.clen;omega,by have:=h.hlen;omega,fun m hm=>y3r (h.msg m hm).1⟩
variable {S : LV}
theorem y7i{b:Nat}(h:b<S.length):S.set b (atV S b)=S:=by
 apply List.ext_getElem?;intro i;rw[List.getElem?_set];by_cases e:b=i;·subst e;have:=q2b h;rw[if_pos rfl,if_pos h,this]
 grind
def Move(m:Meeting)(p:Play)(v u:Voter):Prop:=(p.Kind=1/\vcl p.Claim=true/\(∀y∈v.Votes++v.Accepts,¬Contra p.Claim y)/\u={v with Votes:=q0o (v.Votes++[p.Claim])})\/(p.Kind=2/\oldB v.Heard (say (atV m.Voters p.From.toNat))=false/\u={v with Heard:=hearL (say (atV m.Voters p.From.toNat)) v.Heard})\/(p.Kind=3/\valid p.Trust=true/\uses p.Trust<2^m.Voters.length/\u={v with Trust:=p.Trust})\/(p.Kind=5/\msgB p.Message=true/\p.Message.Node=p.From/\uses p.Message.Trust<2^m.Voters.length/\oldB v.Heard p.Message=false/\u={v with Heard:=hearL p.Message v.Heard})
def whoP(p:Play):Nat:=(if pairK p.Kind=true then p.To else p.From).toNat
noncomputable def stopP(m:Meeting)(p:Play):Int:=if p.Kind=4 then((m.Stopped.toNat|||2^p.From.toNat:Nat):Int)else m.Stopped
theorem q85{m:Meeting}{p:Play}(h:(stepM m p).2=0):mAsk m p=0/\∃w,(stepM m p).1=⟨m.Voters.set (whoP p) w,stopP m p,m.Ill⟩/\(w=atV m.Voters (whoP p)/\(p.Kind=1->p.Claim∈w.Votes)/\p.Kind≠2/\p.Kind≠5\/∃u,Move m p (atV m.Voters (whoP p)) u/\w=turnV (atV m.Voters (whoP p)) u):=by
 unfold stepM at h⊢;by_cases ha:mAsk m p=0;case neg=>rw[if_pos ha]at h;exact absurd h ha
 rw[if_neg (by simpa using ha)]at h⊢;by_cases h0:(mChg m p).2.2=0;case neg=>rw[if_pos h0]at h;exact absurd h h0
 rw[if_neg (by simpa using h0)];have hat:=y13 ha h0;refine⟨ha,(mChg m p).2.1,by rw[whoP,<-hat];rfl,?_⟩;obtain⟨hv,k1,k2,f1,f2,ht,_,_⟩:=q3p ha;obtain⟨_,hvs⟩:=q10.1 hv;unfold whoP;unfold mChg at h0⊢;by_cases e1:p.Kind=1
 .have hk:pairK p.Kind=false:=by rw[e1];rfl
  rw[if_pos e1]at h0⊢;dsimp only at h0⊢;rw[hk,if_neg (by simp)];unfold voteV at h0⊢;split at h0;·cases h0
  .rename_i g1;split at h0;·cases h0
   .rename_i g2;rw[if_neg g1,if_neg g2];split;·rename_i g3;exact .inl ⟨rfl,fun _=>g3,by omega,by omega⟩
    .refine .inr ⟨_,.inl ⟨e1,?_,fun y hy hc=>g2 ⟨y,hy,hc⟩,rfl⟩,rfl⟩;cases hx:vcl p.Claim with|true=>rfl|false=>exact absurd (.inr hx) g1
 rw[if_neg e1]at h0⊢;by_cases e2:p.Kind=2
 .have hk:pairK p.Kind=true:=by rw[e2];rfl
  rw[if_pos e2]at h0⊢;dsimp only at h0⊢;rw[hk,if_pos rfl];obtain⟨g1,g2,g3⟩:=qip h0;have vt:=q1v.1 hvs p.To.toNat (by have:=ht hk;omega);rw[qfp vt.2.1 g1 g2 g3];exact .inr ⟨_,.inr (.inl ⟨e2,g3,rfl⟩),rfl⟩
 rw[if_neg e2]at h0⊢;by_cases e3:p.Kind=3
 .have hk:pairK p.Kind=false:=by rw[e3];rfl
  rw[if_pos e3]at h0⊢;by_cases z:verr p.Trust=0;case neg=>rw[if_pos z]at h0;exact absurd h0 z
  rw[if_neg (by simpa using z)]at h0⊢;by_cases y:insB p.Trust m.Voters.length=false;case pos=>rw[if_pos y]at h0;cases h0
  rw[if_neg y]at h0⊢;dsimp only at h0⊢;rw[hk,if_neg (by simp)];have vf:=q1v.1 hvs p.From.toNat (by omega);have y':uses p.Trust<2^m.Voters.length:=by unfold insB at y;simpa using y
  unfold declV;rw[if_neg (by rw[vf.2.1];simp),if_neg (by simpa using z)];split;·exact .inl ⟨rfl,fun e=>absurd e e1,e2,by omega⟩
  .exact .inr ⟨_,.inr (.inr (.inl ⟨e3,(q4v _).1 z,y',rfl⟩)),rfl⟩
 rw[if_neg e3]at h0⊢;by_cases e5:p.Kind=5
 .have hk:pairK p.Kind=true:=by rw[e5];rfl
  rw[if_pos e5]at h0⊢;by_cases z:p.Message.Node=p.From;case neg=>rw[if_pos z]at h0;cases h0
  rw[if_neg (by simpa using z)]at h0⊢;by_cases y:msgB p.Message=false;case pos=>rw[if_pos y]at h0;cases h0
  rw[if_neg y]at h0⊢;by_cases x:insB p.Message.Trust m.Voters.length=false;case pos=>rw[if_pos x]at h0;cases h0
  rw[if_neg x]at h0⊢;dsimp only at h0⊢;rw[hk,if_pos rfl];obtain⟨g1,g2,g3⟩:=qip h0;have vt:=q1v.1 hvs p.To.toNat (by have:=ht hk;omega);have x':uses p.Message.Trust<2^m.Voters.length:=by unfold insB at x;simpa using x
  rw[qfp vt.2.1 g1 g2 g3];exact .inr ⟨_,.inr (.inr (.inr ⟨e5,g1,z,x',g3,rfl⟩)),rfl⟩
 rw[if_neg e5];have hk:pairK p.Kind=false:=by unfold pairK;simp[e2,e5]
 grind
def Sets2(N:Nat)(m:Meeting):Prop:=(0<=m.Ill/\m.Ill<((2^N:Nat):Int))/\(0<=m.Stopped/\m.Stopped<((2^N:Nat):Int))/\m.Ill.toNat&&&m.Stopped.toNat=0
theorem y4h{m:Meeting}{p:Play}(h:(stepM m p).2=0){N:Nat}(hl:m.Voters.length=N)(hs:Sets2 N m):Sets2 N (stepM m p).1/\(stepM m p).1.Ill=m.Ill/\(stepM m p).1.Stopped.toNat=(if p.Kind=4 then m.Stopped.toNat|||2^p.From.toNat else m.Stopped.toNat):=by
 obtain⟨ha,w,e,_⟩:=q85 h;obtain⟨hv,k1,k2,f1,f2,ht,hi,hg⟩:=q3p ha;obtain⟨⟨_,l10,_⟩,_⟩:=q10.1 hv;obtain⟨s1,s2,s3⟩:=hs;rw[e];unfold stopP;by_cases e4:p.Kind=4
 .have hk:pairK p.Kind=false:=by rw[e4];rfl
  have hi':m.Ill.toNat.testBit p.From.toNat=false:=by
   have:has m.Ill.toNat p.From=false:=by rw[hi,e4];rfl
   have hf:p.From=((p.From.toNat:Nat):Int):=by omega
   rw[hf,q76 (by omega)]at this;omega
  simp only[if_pos e4];have h1:m.Stopped.toNat|||2^p.From.toNat<2^N:=Nat.or_lt_two_pow (by omega) (Nat.pow_lt_pow_right (by decide) (by omega));refine⟨⟨s1,⟨by simp,by grind⟩,?_⟩,by simp,by rfl⟩;show m.Ill.toNat&&&((m.Stopped.toNat|||2^p.From.toNat:Nat):Int).toNat=0;rw[tN];apply Nat.eq_of_testBit_eq;grind
 .simp only[if_neg e4];exact⟨⟨s1,s2,s3⟩,by simp,by simp⟩
theorem y4w{m:Meeting}{p:Play}(ha:mAsk m p=0):whoP p<m.Voters.length:=by obtain⟨_,_,_,f1,f2,ht,_⟩:=q3p ha;unfold whoP;grind
structure Rdy(m:Meeting)(p:Play)(v u:Voter):Prop where
 ready:Ready u
 cons:consC u.Votes=true
 node:u.Node=v.Node
 seq:u.Seq=v.Seq
 votes:∀x∈v.Votes,x∈u.Votes
 accs:u.Accepts=v.Accepts
 confs:u.Confirms=v.Confirms
 ins:uses u.Trust<2^m.Voters.length
 heard:∀x∈u.Heard,x.Node<(m.Voters.length:Int)/\uses x.Trust<2^m.Voters.length
 same:p.Kind=2->u.Trust=v.Trust/\u.Votes=v.Votes
theorem qx7{m:Meeting}{p:Play}(ha:mAsk m p=0){u:Voter}(hu:Move m p (atV m.Voters (whoP p)) u):Rdy m p (atV m.Voters (whoP p)) u:=by
 obtain⟨hv,k1,k2,f1,f2,ht,_⟩:=q3p ha;have hwN:=y4w ha;have hvs:=q1v.1 (q10.1 hv).2;obtain⟨n1,v1,i1,h1⟩:=hvs _ hwN;obtain⟨n2,v2,i2,h2⟩:=hvs p.From.toNat (by omega);obtain⟨hr,hc⟩:=q14.1 v1;rw[Nat.zero_add]at n1 n2;have hne:pairK p.Kind=true->whoP p≠p.From.toNat:=fun hk=>by have:=ht hk;unfold whoP;rw[if_pos hk];omega
 rcases hu with⟨e,x1,x2,rfl⟩|⟨e,x1,rfl⟩|⟨e,x1,x2,rfl⟩|⟨e,x1,x2,x3,x4,rfl⟩
 .have hmp:=fun y=>qg7 (y:=y) (q0w.1 hr.votes).1 x1;refine⟨hr.withV p.Claim,?_,rfl,rfl,fun y hy=>(hmp y).2 (.inl hy),rfl,rfl,i1,h1,fun g=>by omega⟩;have:consC ((atV m.Voters (whoP p)).Votes++[p.Claim])=true:=by rw[qbx hc,dT];exact fun y hy hcc=>x2 y (by simp[hy]) hcc
  rw[q56]at this⊢;grind
 .have hn:=hne (by rw[e];rfl);refine⟨hr.withH (q14.1 v2).1.say (by show(atV m.Voters p.From.toNat).Node≠_;omega),hc,rfl,rfl,fun _ h=>h,rfl,rfl,i1,fun x hx=>?_,fun _=>⟨rfl,rfl⟩⟩;rcases qej hx with g|g;·rw[g];exact⟨by show(atV m.Voters p.From.toNat).Node<_;omega,i2⟩
  simp_all
 .exact⟨hr.withT x1,hc,rfl,rfl,fun _ h=>h,rfl,rfl,x2,h1,fun g=>by omega⟩
 .have hn:=hne (by rw[e];rfl);refine⟨hr.withH x1 (by omega),hc,rfl,rfl,fun _ h=>h,rfl,rfl,i1,fun x hx=>?_,fun g=>by omega⟩;rcases qej hx with g|g;·rw[g,x2];exact⟨f2,x3⟩
  simp_all
structure GoodMt(N q:Nat)(m:Meeting):Prop where
 val:q3i m=true
 len:m.Voters.length=N
 seq:∀b,b<N->(atV m.Voters b).Seq<=((q+(atV m.Voters b).Accepts.length:Nat):Int)
section
variable {N q : Nat} {m : Meeting} (h : GoodMt N q m)
include h
theorem GoodMt.at{b:Nat}(hb:b<N):(atV m.Voters b).Node=(b:Int)/\q21 (atV m.Voters b)=true/\uses (atV m.Voters b).Trust<2^N/\∀x∈(atV m.Voters b).Heard,x.Node<(N:Int)/\uses x.Trust<2^N:=by have:=q1v.1 (q10.1 h.val).2 b (by rw[h.len];exact hb);rw[h.len,Nat.zero_add]at this;omega
theorem GoodMt.sets:Sets2 N m:=by have:=(q10.1 h.val).1.2.2;rw[h.len]at this;exact this
theorem GoodMt.ready:∀v∈m.Voters,Ready v:=fun v hv=>by obtain⟨i,hi⟩:=List.getElem?_of_mem hv;have hlt:i<m.Voters.length:=(List.getElem?_eq_some_iff.1 hi).1;have:=(q14.1 (h.at (b:=i) (by rw[<-h.len];exact hlt)).2.1).1;rw[q2b hlt]at hi;simp_all
theorem GoodMt.small(hN:N<=10):SmallMt m:=⟨by have:=h.len;omega,fun v hv=>(h.ready v hv).small⟩
theorem GoodMt.fresh(hN:N<=10):z3v m=some m:=qkh (by have:=h.len;omega) fun v hv=>(h.ready v hv).freshA
theorem GoodMt.up:GoodMt N (q+1) m:=⟨h.val,h.len,fun b hb=>by have:=h.seq b hb;omega⟩
theorem GoodMt.move{q':Nat}(hN:N<=10)(hq:q<=100000){p:Play}(h0:(stepM m p).2=0)(hq':q'=q+1\/q'=q/\p.Kind=2):GoodMt N q' (stepM m p).1:=by
 have hs:=(y4h h0 h.len h.sets).1;obtain⟨ha,w,e,hw⟩:=q85 h0;have hl:=h.len;have hwN:whoP p<N:=by have:=y4w ha;omega
 have hpos:=(q10.1 h.val).1.1;rw[e]at hs⊢;have key:w.Node=(whoP p:Int)/\q21 w=true/\uses w.Trust<2^N/\(∀x∈w.Heard,x.Node<(N:Int)/\uses x.Trust<2^N)/\w.Seq<=((q'+w.Accepts.length:Nat):Int):=by
  obtain⟨a1,a2,a3,a4⟩:=h.at hwN;have a5:=h.seq _ hwN;rcases hw with⟨rfl,_⟩|⟨u,hu,rfl⟩;·grind
  .have R:=qx7 ha hu;have hbr:=(q14.1 a2).1;have T:=qfi (b:=atV m.Voters (whoP p)) R.ready R.cons R.node R.seq R.votes R.accs R.confs;obtain⟨s,h1,h2,h3⟩:=q4d (atV m.Voters (whoP p)) u;obtain⟨g1,g2,g3,g4,g5⟩:=q2s u;have hr:=R.ready.settle;have hsub:SubC (atV m.Voters (whoP p)).Accepts (q0r u).Accepts:=fun x hx=>qde 200 u R.ready x (by rw[R.accs];omega);have hle:=qzp hbr.accs hsub;have hal:=hr.alen;have hsq:=R.seq;have hseq:s<=((q'+(q0r u).Accepts.length:Nat):Int):=by
    rcases hq' with g|⟨g,k⟩;·omega
    .rcases h1 with j|j;·omega
     .obtain⟨z1,z2⟩:=R.same k;have hne:(atV m.Voters (whoP p)).Accepts≠(q0r u).Accepts:=fun ea=>by grind
      have:=qtk hbr.accs hr.accs hsub hne;omega
   have hS:(turnV (atV m.Voters (whoP p)) u).Seq=s:=by rw[h2]
   have hA:(turnV (atV m.Voters (whoP p)) u).Accepts=(q0r u).Accepts:=by rw[h2]
   have hT:(turnV (atV m.Voters (whoP p)) u).Trust=u.Trust:=by simp_all
   have hH:(turnV (atV m.Voters (whoP p)) u).Heard=u.Heard:=by simp_all
   have hi:=R.ins;have hh:=R.heard;rw[hl]at hi hh;exact⟨by rw[T.node,a1],T.ready (by omega),by simp_all,by simp_all,by simp_all⟩
 have at':∀b,atV (m.Voters.set (whoP p) w) b=if whoP p=b then w else atV m.Voters b:=fun b=>ybv (by omega) w b;refine⟨q10.2 ⟨⟨by simp_all,by simp_all,by simpa[hl]using hs.1,by simpa[hl]using hs.2.1,hs.2.2⟩,q1v.2 fun i hi=>?_⟩,by simp_all,fun b hb=>?_⟩
 .have hi:i<N:=by simp_all
  show(atV (m.Voters.set (whoP p) w) i).Node=_/\q21 (atV (m.Voters.set (whoP p) w) i)=true/\uses (atV (m.Voters.set (whoP p) w) i).Trust<2^(m.Voters.set (whoP p) w).length/\∀x∈(atV (m.Voters.set (whoP p) w) i).Heard,x.Node<((m.Voters.set (whoP p) w).length:Int)/\uses x.Trust<2^(m.Voters.set (whoP p) w).length;rw[at',List.length_set,hl,Nat.zero_add];split;·simp_all
  .exact h.at hi
 .show(atV (m.Voters.set (whoP p) w) b).Seq<=((q'+(atV (m.Voters.set (whoP p) w) b).Accepts.length:Nat):Int);rw[at'];split;·omega
  .have:=h.seq b hb;omega
theorem GoodMt.step(hN:N<=10)(hq:q<=100000){p:Play}(h0:(stepM m p).2=0):GoodMt N (q+1) (stepM m p).1:=h.move hN hq h0 (.inl rfl)
end
theorem y6z{N:Nat}(h1:1<=N)(hN:N<=10)(hl:S.length=N){ill:Int}(hi:0<=ill/\ill<((2^N:Nat):Int))(hS:∀b,b<N->∃t,atV S b=⟨(b:Int),1,t,[],[],[],[]⟩/\valid t=true/\uses t<2^N):GoodMt N 1 ⟨S,0,ill⟩:=by
 have hp:=Nat.two_pow_pos S.length;refine⟨q10.2 ⟨⟨by show 1<=S.length;omega,by show S.length<=10;omega,by simpa[hl]using hi,⟨Int.le_refl 0,by show(0:Int)<((2^S.length:Nat):Int);omega⟩,Nat.and_zero _⟩,q1v.2 fun i hi=>?_⟩,hl,fun b hb=>?_⟩;·have hi:i<S.length:=hi;obtain⟨t,e,hv,hu⟩:=hS i (by omega);show(atV S i).Node=_/\q21 (atV S i)=true/\uses (atV S i).Trust<2^S.length/\∀x∈(atV S i).Heard,_;rw[e,Nat.zero_add,hl];exact⟨rfl,(qiz (by simp[inR];omega) hv).2,hu,fun x hx=>by cases hx⟩
 grind
variable {l : LI} {i : Int}
theorem qxs(h:q0n l i):∃x j,z8b l i=some (x,l,j)/\q0n l j:=by
 obtain⟨x0,i0,g0,g0',g0'x,g0''⟩:=N_ok (n:=30) (by omega) (by omega) h;by_cases e:x0=29;·obtain⟨x1,i1,g1,_,g1'⟩:=q4l (ps:=[-1,0,7,8]) (by decide) (by decide) g0'';obtain⟨x2,i2,g2,_,g2'⟩:=q4l (ps:=[-1,0,15,16]) (by decide) (by decide) g1';refine⟨⟨x1,x2⟩,i2,qxz _ _ _ ?_,g2'⟩;rw[g0,bS];dsimp only;rw[e,q0e,cT,g1,bS];simp_all
 .obtain⟨x1,i1,g1,_,_,g1'⟩:=N_ok (n:=3) (by omega) (by omega) g0'';obtain⟨x2,i2,g2,_,_,g2'⟩:=N_ok (n:=3) (by omega) (by omega) g1';refine⟨⟨x1,x2⟩,i2,qxz _ _ _ ?_,g2'⟩;rw[g0,bS];dsimp only;rw[q0d e,cF,g1,bS];simp_all
theorem qsq{l:LI}:∀(n:Nat)(acc:LC)(i:Int),n+acc.length<=1000->q0n l i->∃k j,z4d acc (n:Int) l i=some (k,l,j)/\k.length<=n+acc.length/\q0n l j|0,acc,i,ha,h=>⟨acc,i,qwo _ _ _ _ _ (by rfl),by omega,h⟩|n+1,acc,i,ha,h=>by obtain⟨x,i1,g1,g1'⟩:=qxs h;obtain⟨k,j,g2,g3,g4⟩:=qsq n (acc++[x]) i1 (by simp;omega) g1';refine⟨k,j,qwo _ _ _ _ _ ?_,by simp at g3;omega,g4⟩;rw[q04 (by omega),cT,g1,bS,q06 (by simp[q07];omega),q46 (by omega) (by omega),show((n+1:Nat):Int)-1=(n:Int)by omega];omega
theorem y5d{n:Nat}(hn:n<=100)(h:q0n l i):∃k j,z7b (n:Int) l i=some (k,l,j)/\k.length<=n/\q0n l j:=by obtain⟨x0,i0,g0,g0',g0'x,g0''⟩:=N_ok (n:=(n:Int)+1) (by omega) (by omega) h;obtain⟨m,rfl⟩:∃m:Nat,x0=m:=⟨x0.toNat,by omega⟩;obtain⟨k,j,g1,g2,g3⟩:=qsq (l:=l) m [] i0 (by simp;omega) g0'';refine⟨k,j,yaq _ _ _ _ ?_,by simp at g2;omega,g3⟩;rw[q22 (by omega) (by omega),g0,bS];omega
theorem y0x{n:Int}(h1:1<=n)(h2:n<=10)(h:q0n l i):∃t j,z9c n 2 l i=some (t,l,j)/\valid t=true/\q0n l j:=by obtain⟨t,j,g1,g2,_,g4⟩:=qy2 h1 h2 1 (by decide) h;grind
theorem qly{t:Trust}(h:valid t=true):size t<1000000/\wf t=true:=⟨by have:=qne h;omega,(q34 h).2⟩
variable {l : LI} {i : Int} {N : Nat} {d : Bool}
theorem qp6{a n:Int}(h0:0<=a)(h:a<n)(hn:n<=1000):0<=remI .i64 (addI .i64 a 1) n/\remI .i64 (addI .i64 a 1) n<n:=by rw[q22 (by omega) (by omega),show remI .i64 (a+1) n=(a+1).tmod n from rfl];exact⟨Int.tmod_nonneg n (by omega),Int.tmod_lt_of_pos _ (by omega)⟩
theorem y1u(h:q0n l i):∃x j,z8b l i=some (x,l,j)/\x.Topic≠5/\q0n l j:=by
 obtain⟨x0,i0,g0,g0',g0'x,g0''⟩:=N_ok (n:=30) (by omega) (by omega) h;by_cases e:x0=29
 .obtain⟨x1,i1,g1,m1,g1'⟩:=q4l (ps:=[-1,0,7,8]) (by decide) (by decide) g0'';obtain⟨x2,i2,g2,_,g2'⟩:=q4l (ps:=[-1,0,15,16]) (by decide) (by decide) g1';refine⟨⟨x1,x2⟩,i2,qxz _ _ _ ?_,?_,g2'⟩;·rw[g0,bS];dsimp only;rw[e,q0e,cT,g1,bS];simp_all
  grind
 .obtain⟨x1,i1,g1,_,m1,g1'⟩:=N_ok (n:=3) (by omega) (by omega) g0'';obtain⟨x2,i2,g2,_,_,g2'⟩:=N_ok (n:=3) (by omega) (by omega) g1';refine⟨⟨x1,x2⟩,i2,qxz _ _ _ ?_,by show x1≠5;omega,g2'⟩;rw[g0,bS];dsimp only;rw[q0d e,cF,g1,bS];grind
theorem qm0{l:LI}:∀(n:Nat)(acc:LC)(i:Int),n+acc.length<=1000->(∀x∈acc,x.Topic≠5)->q0n l i->∃k j,z4d acc (n:Int) l i=some (k,l,j)/\k.length<=n+acc.length/\(∀x∈k,x.Topic≠5)/\q0n l j|0,acc,i,ha,hx,h=>⟨acc,i,qwo _ _ _ _ _ (by rfl),by omega,hx,h⟩|n+1,acc,i,ha,hx,h=>by obtain⟨x,i1,g1,q1,g1'⟩:=y1u h;obtain⟨k,j,g2,g3,g4,g5⟩:=qm0 n (acc++[x]) i1 (by grind) (fun y hy=>by grind) g1';refine⟨k,j,qwo _ _ _ _ _ ?_,by grind,g4,g5⟩;rw[q04 (by omega),cT,g1,bS,q06 (by simp[q07];omega),q46 (by omega) (by omega),show((n+1:Nat):Int)-1=(n:Int)by omega];omega
theorem y06(h:q0n l i):∃k j,z7b 3 l i=some (k,l,j)/\k.length<=100/\(∀x∈k,x.Topic≠5)/\q0n l j:=by obtain⟨x0,i0,g0,g0',g0'x,g0''⟩:=N_ok (n:=4) (by omega) (by omega) h;obtain⟨m,rfl⟩:∃m:Nat,x0=m:=⟨x0.toNat,by omega⟩;obtain⟨k,j,g1,g2,g3,g4⟩:=qm0 (l:=l) m [] i0 (by grind) (fun _ h=>by cases h) g0'';refine⟨k,j,yaq _ _ _ _ ?_,by grind,g3,g4⟩;rw[q22 (by omega) (by omega),show(3:Int)+1=4 from rfl,g0,bS];omega
theorem qhe{m:Int}(h1:1<=m)(h2:m<=10)(h:q0n l i):∃t j,z7c m l i=some (t,l,j)/\valid t=true/\q0n l j:=by
 obtain⟨t,j,g1,g2,g3⟩:=y0x h1 h2 h;have hs:=q3j g2;have e0:valid ⟨1,[0],[]⟩=true:=by rfl
 by_cases a1:40<(size t:Int);·refine⟨_,j,y2f _ _ _ _ ?_,e0,g3⟩;rw[g1,bS];dsimp only;rw[qgh t hs,bS,q04 a1];rfl
 .by_cases a2:3<(depth t:Int);·refine⟨_,j,y2f _ _ _ _ ?_,e0,g3⟩;rw[g1,bS];dsimp only;rw[qgh t hs,bS,q00 (by omega),cF,qbu t hs,bS,q04 a2];rfl
  .refine⟨t,j,y2f _ _ _ _ ?_,g2,g3⟩;rw[g1,bS];dsimp only;rw[qgh t hs,bS,q00 (by omega),cF,qbu t hs,bS,q00 (by omega),cF,Trust.etaM]
structure DrawnP(N:Nat)(d:Bool)(p:Play):Prop where
 small:SmallP p
 vote:p.Kind=1->p.Claim.Topic≠5
 decl:p.Kind=3->d=true/\valid p.Trust=true
 lie:∀y,y∈p.Message.Votes\/y∈p.Message.Accepts->y.Topic≠5
 fr:0<=p.From/\p.From<(N:Int)tb:TB p.Trust/\TB p.Message.Trust
def noT:Trust:=⟨0,[],[]⟩
def noM:Message:=⟨0,0,noT,[],[]⟩
theorem qf0:Small noT:=by unfold Small noT;rw[q8p];simp[sizes]
theorem ql5:SmallM noM:=⟨qf0,by simp[noM],by simp[noM]⟩
theorem q9s:TB noT:=qef
theorem q25{k f t:Int}{c:Claim}{tr:Trust}(htr:TB tr)(h1:k=1->c.Topic≠5)(h3:k=3->d=true/\valid tr=true)(hf:0<=f/\f<(N:Int)):DrawnP N d ⟨k,f,t,c,tr,noM⟩:=⟨⟨by have:=htr.1;show Small tr;unfold Small;omega,ql5⟩,h1,h3,(fun y hy=>by rcases hy with h|h<;>cases h),hf,htr,q9s⟩
theorem y2y(k:Int):Small ⟨1,[k],[]⟩:=by unfold Small;rw[q8p];simp[sizes]
def qs2(N:Nat)(d:Bool)(n:Nat)(l:LI)(r:Option (Unit×LI×Int×LP)):Prop:=∃out j,r=some ((),l,j,out)/\(∀p∈out,DrawnP N d p)/\out.length=n/\q0n l j
theorem qif{N:Nat}(hN:1<=N)(hN2:N<=10){d:Bool}{l:LI}{ms:LB}{n i:Nat}(hi:i<1000){ill:Int}{acc:LP}(hac:acc.length<1000)(again:∀p j,DrawnP N d p->q0n l j->qs2 N d n l (z0a ill (n:Int) d (acc++[p]) (N:Int) (addI .i64 (i:Int) 1) l j ms)):∀(r k:Nat)(f t j:Int),k+r=N->0<=f/\f<(N:Int)->0<=t/\t<(N:Int)->q0n l j->qs2 N d n l (z2q ill (n:Int) d acc (N:Int) (i:Int) (k:Int) l j ms 5 f t 0 0 0 [] [] 0 0 0 [] [] [] [])
 |0,k,f,t,j,hk,hf,ht,h=>by
  obtain⟨x0,j0,g0,a0,b0,h0⟩:=N_ok (n:=2) (by decide) (by decide) h;obtain⟨x1,j1,g1,a1,b1,h1⟩:=N_ok (n:=2) (by decide) (by decide) h0;obtain⟨x2,j2,g2,a2,b2,h2⟩:=N_ok (n:=3) (by decide) (by decide) h1;have hrem:=qp6 ht.1 ht.2 (by omega);have hne:(N:Int)≠0:=by omega
  have mk:∀(T:Int)(A:LC),A.length<1000000->(∀y∈A,y.Topic≠5)->DrawnP N d ⟨5,f,T,⟨0,0⟩,⟨0,[],[]⟩,⟨f,mulI .i64 2 (addI .i64 (i:Int) 1),⟨1,[f],[]⟩,[⟨x0,x1⟩],A⟩⟩:=fun T A hA hA5=>⟨⟨qf0,y2y f,by simp,hA⟩,(fun e=>by simp),(fun e=>by cases e),(fun y hy=>by grind),hf,q9s,⟨by rw[q8p];simp[sizes],by rfl⟩⟩;by_cases e2:x2=0
  .obtain⟨x3,j3,g3,l3,q3,h3⟩:=y06 h2;have g4:=qfz x3 (by omega);have hl4:=q42 x3;have hq4:∀y∈q0o x3,y.Topic≠5:=fun y hy=>q3 y (q27.1 hy).2;by_cases e:f=t;·obtain⟨out,j',r1,r2⟩:=again _ j3 (mk (remI .i64 (addI .i64 t 1) (N:Int)) (q0o x3) (by omega) hq4) h3;refine⟨out,j',qmo _ _ _ _ _ _ _ _ _ _ _ _ _ _ _ _ _ _ _ _ _ _ _ _ _ _ ?_,r2⟩;rw[q00 (by omega),cF,g0,bS];dsimp only;rw[g1,bS];dsimp only;rw[g2,bS];dsimp only;rw[e2,q0e,cT,g3,bS];dsimp only;rw[g4,bS,e,q0e,cT,q0i hne,q06 (by simp[q07];omega)];grind
   .obtain⟨out,j',r1,r2⟩:=again _ j3 (mk t (q0o x3) (by omega) hq4) h3;refine⟨out,j',qmo _ _ _ _ _ _ _ _ _ _ _ _ _ _ _ _ _ _ _ _ _ _ _ _ _ _ ?_,r2⟩;rw[q00 (by omega),cF,g0,bS];dsimp only;rw[g1,bS];dsimp only;rw[g2,bS];dsimp only;rw[e2,q0e,cT,g3,bS];dsimp only;rw[g4,bS,q0d e,cF,q06 (by simp[q07];omega)];omega
  .have hq:∀y∈[(⟨x0,x1⟩:Claim)],y.Topic≠5:=fun y hy=>by grind
   by_cases e:f=t;·obtain⟨out,j',r1,r2⟩:=again _ j2 (mk (remI .i64 (addI .i64 t 1) (N:Int)) [⟨x0,x1⟩] (by simp) hq) h2;refine⟨out,j',qmo _ _ _ _ _ _ _ _ _ _ _ _ _ _ _ _ _ _ _ _ _ _ _ _ _ _ ?_,r2⟩;rw[q00 (by omega),cF,g0,bS];dsimp only;rw[g1,bS];dsimp only;rw[g2,bS];dsimp only;rw[q0d e2,cF,e,q0e,cT,q0i hne,q06 (by simp[q07];omega)];grind
   .obtain⟨out,j',r1,r2⟩:=again _ j2 (mk t [⟨x0,x1⟩] (by simp) hq) h2;refine⟨out,j',qmo _ _ _ _ _ _ _ _ _ _ _ _ _ _ _ _ _ _ _ _ _ _ _ _ _ _ ?_,r2⟩;rw[q00 (by omega),cF,g0,bS];dsimp only;rw[g1,bS];dsimp only;rw[g2,bS];dsimp only;rw[q0d e2,cF,q0d e,cF,q06 (by simp[q07];omega)];omega|r+1,k,f,t,j,hk,hf,ht,h=>by
  have hne:(N:Int)≠0:=by omega
  have hrem:=qp6 hf.1 hf.2 (by omega);cases hb:eqB (andI .i64 (shrI .i64 ill f) 1) 0 with|true=>obtain⟨out,j',r1,r2⟩:=qif hN hN2 hi hac again r (k+1) (remI .i64 (addI .i64 f 1) (N:Int)) t j (by omega) hrem ht h;refine⟨out,j',qmo _ _ _ _ _ _ _ _ _ _ _ _ _ _ _ _ _ _ _ _ _ _ _ _ _ _ ?_,r2⟩;rw[q04 (by omega),cT,q0i hf.1,hb,cT,q0i hne,q03 (by omega)];omega|false=>obtain⟨out,j',r1,r2⟩:=qif hN hN2 hi hac again r (k+1) f t j (by omega) hf ht h;refine⟨out,j',qmo _ _ _ _ _ _ _ _ _ _ _ _ _ _ _ _ _ _ _ _ _ _ _ _ _ _ ?_,r2⟩;rw[q04 (by omega),cT,q0i hf.1,hb,cF,q03 (by omega)];omega
theorem qw2{N:Nat}(hN:1<=N)(hN2:N<=10){d:Bool}{l:LI}{ms:LB}{ill:Int}{n:Nat}(hn:n<1000):∀(r i:Nat)(acc:LP)(j:Int),i+r=n->acc.length=i->(∀p∈acc,DrawnP N d p)->q0n l j->qs2 N d n l (z0a ill (n:Int) d acc (N:Int) (i:Int) l j ms)
 |0,i,acc,j,hi,ha,hD,h=>⟨acc,j,q6m _ _ _ _ _ _ _ _ _ _ (by rw[q00 (by omega)];rfl),hD,by omega,h⟩|r+1,i,acc,j,hi,ha,hD,h=>by
  have hne:(N:Int)≠0:=by omega
  have again:∀p j,DrawnP N d p->q0n l j->qs2 N d n l (z0a ill (n:Int) d (acc++[p]) (N:Int) (addI .i64 (i:Int) 1) l j ms):=fun p j hp ht=>by rw[q03 (by omega)];refine qw2 hN hN2 hn r (i+1) (acc++[p]) j (by omega) (by grind) (fun x hx=>?_) ht;grind
  obtain⟨f,j0,g0,a0,b0,h0⟩:=N_ok (n:=(N:Int)) (by omega) (by omega) h;obtain⟨t0,j1,g1,a1,b1,h1⟩:=N_ok (n:=(N:Int)) (by omega) (by omega) h0;have hrem:=qp6 a1 b1 (by omega);obtain⟨k,j2,g2,mk2,h2⟩:=q4l (ps:=[1,1,1,2,2,2,2,2,2,5,5,3,4]) (by decide) (by decide) h1;have hcap:∀p:Play,acc.length+[p].length<=100000:=fun p=>by grind
  by_cases e:f=t0
  .skip;by_cases e1:k=1;·obtain⟨x3,j3,g3,a3,b3,h3⟩:=N_ok (n:=2) (by decide) (by decide) h2;obtain⟨x4,j4,g4,a4,b4,h4⟩:=N_ok (n:=2) (by decide) (by decide) h3;obtain⟨out,j',r1,r2⟩:=again ⟨1,f,remI .i64 (addI .i64 t0 1) (N:Int),⟨x3,x4⟩,noT,noM⟩ j4 (q25 q9s (fun _=>by grind) (fun e=>by cases e) ⟨a0,b0⟩) h4;refine⟨out,j',q6m _ _ _ _ _ _ _ _ _ _ ?_,r2⟩;rw[q04 (by omega),cT,g0,bS];dsimp only;rw[g1,bS];dsimp only;rw[show eqB f t0=true by rw[e];exact q0e _,cT,q0i hne,g2,bS];dsimp only;rw[e1,q0e,cT,g3,bS];dsimp only;rw[g4,bS];dsimp only;rw[q06 (by simp[q07];omega)];exact r1
   by_cases e2:k=2;·obtain⟨out,j',r1,r2⟩:=again ⟨2,f,remI .i64 (addI .i64 t0 1) (N:Int),⟨0,0⟩,noT,noM⟩ j2 (q25 q9s (fun e=>by simp) (fun e=>by cases e) ⟨a0,b0⟩) h2;refine⟨out,j',q6m _ _ _ _ _ _ _ _ _ _ ?_,r2⟩;rw[q04 (by omega),cT,g0,bS];dsimp only;rw[g1,bS];dsimp only;rw[show eqB f t0=true by rw[e];exact q0e _,cT,q0i hne,g2,bS];dsimp only;rw[q0d e1,cF,e2,q0e,cT,q06 (by simp[q07];omega)];exact r1
   by_cases e3:k=3;·cases hd:d with|false=>rw[hd]at again;obtain⟨out,j',r1,r2⟩:=again ⟨2,f,remI .i64 (addI .i64 t0 1) (N:Int),⟨0,0⟩,noT,noM⟩ j2 (q25 q9s (fun e=>by simp) (fun e=>by cases e) ⟨a0,b0⟩) h2;refine⟨out,j',q6m _ _ _ _ _ _ _ _ _ _ ?_,r2⟩;rw[q04 (by omega),cT,g0,bS];dsimp only;rw[g1,bS];dsimp only;rw[show eqB f t0=true by rw[e];exact q0e _,cT,q0i hne,g2,bS];dsimp only;rw[q0d e1,cF,q0d e2,cF,e3,q0e,cT,Bool.not_false,cT,q06 (by simp[q07];omega)];exact r1|true=>rw[hd]at again;obtain⟨t5,j5,g5,v5,h5⟩:=qhe (m:=(N:Int)) (by omega) (by omega) h2;obtain⟨out,j',r1,r2⟩:=again ⟨3,f,remI .i64 (addI .i64 t0 1) (N:Int),⟨0,0⟩,t5,noM⟩ j5 (q25 (qly v5) (fun e=>by simp) (fun _=>⟨rfl,v5⟩) ⟨a0,b0⟩) h5;refine⟨out,j',q6m _ _ _ _ _ _ _ _ _ _ ?_,r2⟩;rw[q04 (by omega),cT,g0,bS];dsimp only;rw[g1,bS];dsimp only;rw[show eqB f t0=true by rw[e];exact q0e _,cT,q0i hne,g2,bS];dsimp only;rw[q0d e1,cF,q0d e2,cF,e3,q0e,cT,nT,cF,g5,bS];dsimp only;rw[Trust.etaM,q06 (by simp[q07];omega)];exact r1
   by_cases e4:k=4
   .obtain⟨x6,j6,g6,a6,b6,h6⟩:=N_ok (n:=4) (by decide) (by decide) h2;by_cases e6:x6=0;·obtain⟨out,j',r1,r2⟩:=again ⟨4,f,remI .i64 (addI .i64 t0 1) (N:Int),⟨0,0⟩,noT,noM⟩ j6 (q25 q9s (fun e=>by simp) (fun e=>by cases e) ⟨a0,b0⟩) h6;refine⟨out,j',q6m _ _ _ _ _ _ _ _ _ _ ?_,r2⟩;rw[q04 (by omega),cT,g0,bS];dsimp only;rw[g1,bS];dsimp only;rw[show eqB f t0=true by rw[e];exact q0e _,cT,q0i hne,g2,bS];dsimp only;rw[q0d e1,cF,q0d e2,cF,q0d e3,cF,e4,q0e,cT,g6,bS];dsimp only;rw[e6,q0e,cT,q06 (by simp[q07];omega)];exact r1
    .obtain⟨out,j',r1,r2⟩:=again ⟨2,f,remI .i64 (addI .i64 t0 1) (N:Int),⟨0,0⟩,noT,noM⟩ j6 (q25 q9s (fun e=>by simp) (fun e=>by cases e) ⟨a0,b0⟩) h6;refine⟨out,j',q6m _ _ _ _ _ _ _ _ _ _ ?_,r2⟩;rw[q04 (by omega),cT,g0,bS];dsimp only;rw[g1,bS];dsimp only;rw[show eqB f t0=true by rw[e];exact q0e _,cT,q0i hne,g2,bS];dsimp only;rw[q0d e1,cF,q0d e2,cF,q0d e3,cF,e4,q0e,cT,g6,bS];dsimp only;rw[q0d e6,cF,q06 (by simp[q07];omega)];exact r1
   obtain⟨out,j',r1,r2⟩:=qif hN hN2 (i:=i) (by omega) (acc:=acc) (by omega) again N 0 f (remI .i64 (addI .i64 t0 1) (N:Int)) j2 (by omega) ⟨a0,b0⟩ hrem h2;refine⟨out,j',q6m _ _ _ _ _ _ _ _ _ _ ?_,r2⟩;rw[q04 (by omega),cT,g0,bS];dsimp only;rw[g1,bS];dsimp only;rw[show eqB f t0=true by rw[e];exact q0e _,cT,q0i hne,g2,bS];dsimp only;rw[q0d e1,cF,q0d e2,cF,q0d e3,cF,q0d e4,cF];omega
  .skip;by_cases e1:k=1;·obtain⟨x3,j3,g3,a3,b3,h3⟩:=N_ok (n:=2) (by decide) (by decide) h2;obtain⟨x4,j4,g4,a4,b4,h4⟩:=N_ok (n:=2) (by decide) (by decide) h3;obtain⟨out,j',r1,r2⟩:=again ⟨1,f,t0,⟨x3,x4⟩,noT,noM⟩ j4 (q25 q9s (fun _=>by grind) (fun e=>by cases e) ⟨a0,b0⟩) h4;refine⟨out,j',q6m _ _ _ _ _ _ _ _ _ _ ?_,r2⟩;rw[q04 (by omega),cT,g0,bS];dsimp only;rw[g1,bS];dsimp only;rw[q0d e,cF,g2,bS];dsimp only;rw[e1,q0e,cT,g3,bS];dsimp only;rw[g4,bS];dsimp only;rw[q06 (by simp[q07];omega)];exact r1
   by_cases e2:k=2;·obtain⟨out,j',r1,r2⟩:=again ⟨2,f,t0,⟨0,0⟩,noT,noM⟩ j2 (q25 q9s (fun e=>by simp) (fun e=>by cases e) ⟨a0,b0⟩) h2;refine⟨out,j',q6m _ _ _ _ _ _ _ _ _ _ ?_,r2⟩;rw[q04 (by omega),cT,g0,bS];dsimp only;rw[g1,bS];dsimp only;rw[q0d e,cF,g2,bS];dsimp only;rw[q0d e1,cF,e2,q0e,cT,q06 (by simp[q07];omega)];exact r1
   by_cases e3:k=3;·cases hd:d with|false=>rw[hd]at again;obtain⟨out,j',r1,r2⟩:=again ⟨2,f,t0,⟨0,0⟩,noT,noM⟩ j2 (q25 q9s (fun e=>by simp) (fun e=>by cases e) ⟨a0,b0⟩) h2;refine⟨out,j',q6m _ _ _ _ _ _ _ _ _ _ ?_,r2⟩;rw[q04 (by omega),cT,g0,bS];dsimp only;rw[g1,bS];dsimp only;rw[q0d e,cF,g2,bS];dsimp only;rw[q0d e1,cF,q0d e2,cF,e3,q0e,cT,Bool.not_false,cT,q06 (by simp[q07];omega)];exact r1|true=>rw[hd]at again;obtain⟨t5,j5,g5,v5,h5⟩:=qhe (m:=(N:Int)) (by omega) (by omega) h2;obtain⟨out,j',r1,r2⟩:=again ⟨3,f,t0,⟨0,0⟩,t5,noM⟩ j5 (q25 (qly v5) (fun e=>by simp) (fun _=>⟨rfl,v5⟩) ⟨a0,b0⟩) h5;refine⟨out,j',q6m _ _ _ _ _ _ _ _ _ _ ?_,r2⟩;rw[q04 (by omega),cT,g0,bS];dsimp only;rw[g1,bS];dsimp only;rw[q0d e,cF,g2,bS];dsimp only;rw[q0d e1,cF,q0d e2,cF,e3,q0e,cT,nT,cF,g5,bS];dsimp only;rw[Trust.etaM,q06 (by simp[q07];omega)];exact r1
   by_cases e4:k=4
   .obtain⟨x6,j6,g6,a6,b6,h6⟩:=N_ok (n:=4) (by decide) (by decide) h2;by_cases e6:x6=0;·obtain⟨out,j',r1,r2⟩:=again ⟨4,f,t0,⟨0,0⟩,noT,noM⟩ j6 (q25 q9s (fun e=>by simp) (fun e=>by cases e) ⟨a0,b0⟩) h6;refine⟨out,j',q6m _ _ _ _ _ _ _ _ _ _ ?_,r2⟩;rw[q04 (by omega),cT,g0,bS];dsimp only;rw[g1,bS];dsimp only;rw[q0d e,cF,g2,bS];dsimp only;rw[q0d e1,cF,q0d e2,cF,q0d e3,cF,e4,q0e,cT,g6,bS];dsimp only;rw[e6,q0e,cT,q06 (by simp[q07];omega)];exact r1
    .obtain⟨out,j',r1,r2⟩:=again ⟨2,f,t0,⟨0,0⟩,noT,noM⟩ j6 (q25 q9s (fun e=>by simp) (fun e=>by cases e) ⟨a0,b0⟩) h6;refine⟨out,j',q6m _ _ _ _ _ _ _ _ _ _ ?_,r2⟩;rw[q04 (by omega),cT,g0,bS];dsimp only;rw[g1,bS];dsimp only;rw[q0d e,cF,g2,bS];dsimp only;rw[q0d e1,cF,q0d e2,cF,q0d e3,cF,e4,q0e,cT,g6,bS];dsimp only;rw[q0d e6,cF,q06 (by simp[q07];omega)];exact r1
   obtain⟨out,j',r1,r2⟩:=qif hN hN2 (i:=i) (by omega) (acc:=acc) (by omega) again N 0 f (t0) j2 (by omega) ⟨a0,b0⟩ ⟨a1,b1⟩ h2;refine⟨out,j',q6m _ _ _ _ _ _ _ _ _ _ ?_,r2⟩;rw[q04 (by omega),cT,g0,bS];dsimp only;rw[g1,bS];dsimp only;rw[q0d e,cF,g2,bS];dsimp only;rw[q0d e1,cF,q0d e2,cF,q0d e3,cF,q0d e4,cF];omega
theorem y5w(hN:1<=N)(hN2:N<=10){c:Config}(hc:c.Members.length=N){ill:Int}{n:Nat}(hn:n<1000){j:Int}(h:q0n l j):qs2 N d n l (z9t c ill (n:Int) d l j):=by obtain⟨out,j',r1,r2⟩:=qw2 hN hN2 hn (ms:=c.Members) (ill:=ill) (d:=d) n 0 [] j (by omega) rfl (fun _ h=>by cases h) h;refine⟨out,j',ygy _ _ _ _ _ _ _ ?_,r2⟩;grind
variable {B N a b q : Nat}
def qax(c:Config)(k:Nat):Voter:=⟨(k:Int),1,tr c k,[],[],[],[]⟩
def q88(c:Config):LV:=(List.range c.Members.length).map (qax c)
theorem qn9(c:Config):(q88 c).length=c.Members.length:=by simp[q88]
theorem y17(c:Config){k:Nat}(h:k<c.Members.length):atV (q88 c) k=qax c k:=by
 have:=q2b (S:=q88 c) (b:=k) (by rw[qn9];exact h);have h2:(q88 c)[k]?=some (qax c k):=by simp[q88,h]
 grind
theorem tr_at{c:Config}{i:Nat}{m:Member}(h:c.Members[i]?=some m):tr c i=m.Trust:=by unfold tr;grind
noncomputable def playM:LP->Meeting->Meeting×LI|[],m=>(m,[])|p::r,m=>((playM r (if(stepM m p).2=0 then(stepM m p).1 else m)).1,(stepM m p).2::(playM r (if(stepM m p).2=0 then(stepM m p).1 else m)).2)
theorem qs1{N:Nat}(hN:N<=10):∀(l:LP)(q:Nat)(m:Meeting),GoodMt N q m->q+l.length<=100000->GoodMt N (q+l.length) (playM l m).1
 |[],q,m,h,_=>h|p::r,q,m,h,hq=>by
  rw[playM,List.length_cons,show q+(r.length+1)=q+1+r.length by omega];rw[List.length_cons]at hq;dsimp only;refine qs1 hN r (q+1) _ ?_ (by omega);split;·rename_i h0;exact h.step hN (by omega) h0
  .exact h.up
theorem qtc{N:Nat}(hN:N<=10)(l:LP)(hl:l.length<=400)(hp:∀p∈l,SmallP p)(a10:LB)(a12:LV)(a14 a16:Int):∀(suf:LP)(i q:Nat)(acc:LI)(m:Meeting),l.drop i=suf->acc.length<=i->GoodMt N q m->q+suf.length<=1000->z49 acc l ((l.length:Nat):Int) (i:Int) a10 a12 a14 a16 m.Voters m.Stopped m.Ill=some ((playM suf m).1,acc++(playM suf m).2,0)
 |[],i,q,acc,m,h,ha,hm,hq=>by apply ybp;rw[q0c h,cF,show Meeting.mk m.Voters m.Stopped m.Ill=m from rfl,hm.fresh hN,bS,playM,List.append_nil]|p::suf,i,q,acc,m,h,ha,hm,hq=>by
  have hlt:=q09 h;rw[List.length_cons]at hq;have hps:=hp p (List.mem_of_mem_drop (i:=i) (by grind));apply ybp;rw[q05 h,cT,q02 h,show Meeting.mk m.Voters m.Stopped m.Ill=m from rfl,qop (hm.small hN) hps,bS,q03 (by omega),playM];by_cases h0:(stepM m p).2=0;·have ih:=qtc hN l hl hp a10 a12 a14 a16 suf (i+1) (q+1) (acc++[(stepM m p).2]) (stepM m p).1 (q01 h) (by grind) (hm.step hN (by omega) h0) (by omega);simp only[if_pos h0];rw[show eqB (stepM m p).2 0=true by rw[h0];rfl,cT,q06 (by simp[q07];omega),ih];simp
  .have ih:=qtc hN l hl hp a10 a12 a14 a16 suf (i+1) (q+1) (acc++[(stepM m p).2]) m (q01 h) (by grind) hm.up (by omega);simp only[if_neg h0];rw[q0d h0,cF,q06 (by simp[q07];omega),ih];simp
def sendP(a b:Nat):Play:=⟨2,(a:Int),(b:Int),⟨0,0⟩,noT,noM⟩
theorem qjx(a b:Nat):SmallP (sendP a b):=⟨qf0,ql5⟩
noncomputable def sendM(m:Meeting)(a b:Nat):Meeting:=if(stepM m (sendP a b)).2=0 then(stepM m (sendP a b)).1 else m
def tot(l:LM):Nat:=(l.map fun m=>m.Seq.toNat).sum
def pot(m:Meeting):Nat:=(m.Voters.map fun v=>tot v.Heard).sum
theorem y2x:∀(l:List Nat)(i:Nat)(x:Nat),i<l.length->(l.set i x).sum+l.getD i 0=l.sum+x|[],i,x,h=>by cases h|y::l,0,x,_=>by grind|y::l,i+1,x,h=>by have:=y2x l i x (by simp_all);grind
theorem qxd{m:Message}(h1:1<=m.Seq):∀{l:LM},oldB l m=false->tot l<tot (hearL m l)
 |[],_=>by simp[hearL,tot];omega|x::r,ho=>by
  rw[qe7,Bool.or_eq_false_iff]at ho;rw[hearL];split;·have:=qxd h1 (l:=r) ho.2;simp only[tot,List.map_cons,List.sum_cons]at this⊢;omega
  .split
   .rename_i hn;have:¬m.Seq<=x.Seq:=by grind
    simp only[tot,List.map_cons,List.sum_cons];omega
   .simp only[tot,List.map_cons,List.sum_cons];omega
theorem qf4{m:Meeting}(h:(stepM m (sendP a b)).2=0):mAsk m (sendP a b)=0/\oldB (atV m.Voters b).Heard (say (atV m.Voters a))=false/\(stepM m (sendP a b)).1=⟨m.Voters.set b (turnV (atV m.Voters b) {atV m.Voters b with Heard:=hearL (say (atV m.Voters a)) (atV m.Voters b).Heard}),m.Stopped,m.Ill⟩/\a<m.Voters.length/\b<m.Voters.length/\a≠b/\m.Ill.toNat.testBit a=false/\(m.Ill.toNat|||m.Stopped.toNat).testBit b=false:=by
 obtain⟨ha,w,e,hw⟩:=q85 h;obtain⟨hv,_,_,f1,f2,ht,hi,_⟩:=q3p ha;obtain⟨⟨_,l10,_⟩,_⟩:=q10.1 hv;obtain⟨t1,t2,t3,t4⟩:=ht rfl;have f2:(a:Int)<(m.Voters.length:Int):=f2;have t2:(b:Int)<(m.Voters.length:Int):=t2;have t3:(b:Int)≠(a:Int):=t3;have hwb:whoP (sendP a b)=b:=tN b;have hi:has m.Ill.toNat (a:Int)=false:=hi;have t4:has (m.Ill.toNat|||m.Stopped.toNat) (b:Int)=false:=t4;rw[q76 (by omega)]at hi t4;rw[hwb]at e hw;rcases hw with⟨_,_,h2,_⟩|⟨u,hu,rfl⟩;·exact absurd rfl h2
 .rcases hu with⟨k,_⟩|⟨_,g1,g2⟩|⟨k,_⟩|⟨k,_⟩;·cases k
  .have e1:(sendP a b).From.toNat=a:=tN a;rw[e1]at g1 g2;refine⟨ha,g1,?_,by omega,by omega,by omega,hi,t4⟩;rw[e,g2];rfl
  .cases k
  .cases k
theorem qmr(b u:Voter):(turnV b u).Heard=u.Heard:=by obtain⟨s,_,h2,_⟩:=q4d b u;rw[h2];exact(q2s u).2.2.2.2
theorem qo1{m:Meeting}(hm:GoodMt N q m)(h:(stepM m (sendP a b)).2=0):pot m<pot (stepM m (sendP a b)).1:=by
 obtain⟨_,ho,e,ha,hb,_⟩:=qf4 h;rw[e];unfold pot;dsimp only;have hA:=hm.at (b:=a) (by rw[<-hm.len];omega);have h1:=(q14.1 hA.2.1).1.seq.1;have ht:=qxd (m:=say (atV m.Voters a)) h1 ho;rw[List.map_set];have hs:=y2x (m.Voters.map fun v=>tot v.Heard) b (tot (turnV (atV m.Voters b) {atV m.Voters b with Heard:=hearL (say (atV m.Voters a)) (atV m.Voters b).Heard}).Heard) (by simp_all);rw[qmr]at hs⊢;have hg:(m.Voters.map fun v=>tot v.Heard).getD b 0=tot (atV m.Voters b).Heard:=by rw[List.getD_eq_getElem?_getD,List.getElem?_map,q2b hb];rfl
 grind
theorem GoodMt.send(hN:N<=10)(hq:q<=100000){m:Meeting}(hm:GoodMt N q m)(h:(stepM m (sendP a b)).2=0):GoodMt N q (stepM m (sendP a b)).1:=hm.move hN hq h (.inr ⟨rfl,rfl⟩)
noncomputable def sends(m:Meeting)(l:List (Nat×Nat)):Meeting:=l.foldl (fun m p=>sendM m p.1 p.2) m
structure SendR(m m':Meeting)(l:List (Nat×Nat)):Prop where
 le:pot m<=pot m'
 stay:pot m'=pot m->m'=m/\∀p∈l,(stepM m (sendP p.1 p.2)).2≠0
theorem q2z{N q:Nat}(hN:N<=10)(hq:q<=100000):∀(l:List (Nat×Nat))(m:Meeting),GoodMt N q m->GoodMt N q (sends m l)/\SendR m (sends m l) l
 |[],m,h=>⟨h,Nat.le_refl _,fun _=>⟨rfl,fun _ h=>by cases h⟩⟩|p::r,m,h=>by
  show GoodMt N q (sends (sendM m p.1 p.2) r)/\SendR m (sends (sendM m p.1 p.2) r) (p::r);unfold sendM;by_cases h0:(stepM m (sendP p.1 p.2)).2=0;·rw[if_pos h0];obtain⟨g1,g2⟩:=q2z hN hq r _ (h.send hN hq h0);have:=qo1 h h0;have:=g2.le;exact⟨g1,by omega,fun e=>by omega⟩
  .rw[if_neg h0];obtain⟨g1,g2⟩:=q2z hN hq r m h;refine⟨g1,g2.le,fun e=>⟨(g2.stay e).1,fun x hx=>?_⟩⟩;rcases List.mem_cons.1 hx with e'|hx;·grind
   .exact(g2.stay e).2 x hx
theorem qdx{K:Meeting->Prop}(hK:∀m a b,K m->(stepM m (sendP a b)).2=0->K (stepM m (sendP a b)).1):∀(l:List (Nat×Nat))(m:Meeting),K m->K (sends m l)|[],_,h=>h|p::r,m,h=>by show K (sends (sendM m p.1 p.2) r);refine qdx hK r _ ?_;unfold sendM;grind
theorem qgx(m:Meeting)(l k:List (Nat×Nat)):sends m (l++k)=sends (sends m l) k:=List.foldl_append
def q61(w:List Nat):List (Nat×Nat):=w.flatMap fun a=>w.map fun b=>(a,b)
theorem qlf{N q:Nat}(hN:N<=10)(hq:q<=100000)(w:List Nat)(hw:w.length<=10)(a:Nat){a8:LI}{a10 a12:Int}{a26:LV}{a28 a30:Int}{R:Option (Meeting×Bool)}:∀(suf:List Nat)(i:Nat)(m:Meeting)(any:Bool),w.drop i=suf->GoodMt N q m->(∀m' any',m'=sends m (suf.map fun b=>(a,b))->any'=(any||decide (pot m<pot m'))->z31 (w.map Int.ofNat) any' a8 a10 (addI .i64 a12 1) m'.Voters m'.Stopped m'.Ill a26 a28 a30=R)->(∃r,R=some r)->z32 (w.map Int.ofNat) any (a:Int) a8 a10 a12 (w.map Int.ofNat) ((w.length:Nat):Int) (i:Int) m.Voters m.Stopped m.Ill a26 a28 a30=R
 |[],i,m,any,h,hm,hR,⟨r,hr⟩=>by rw[hr];apply y8e;rw[q0c h,cF,hR m any rfl (by simp),hr]|b::suf,i,m,any,h,hm,hR,⟨r,hr⟩=>by
  have hlt:=q09 h;have h':(w.map Int.ofNat).drop i=(b:Int)::suf.map Int.ofNat:=by rw[<-List.map_drop,h];rfl
  have hs:=qop (hm.small hN) (qjx a b);have hs:z5n (Meeting.mk m.Voters m.Stopped m.Ill) (Play.mk 2 (a:Int) (b:Int) (Claim.mk 0 0) (Trust.mk 0 [] []) (Message.mk 0 0 (Trust.mk 0 [] []) [] []))=some (stepM m (sendP a b)):=hs;rw[hr];apply y8e;rw[q04 (by omega),cT,q02 h',hs,bS,q03 (by omega),<-hr];by_cases h0:(stepM m (sendP a b)).2=0
  .rw[show eqB (stepM m (sendP a b)).2 0=true by rw[h0];rfl,cT];refine qlf hN hq w hw a suf (i+1) _ true (q01 h) (hm.send hN hq h0) (fun m' any' e1 e2=>?_) ⟨r,hr⟩;have hp:=qo1 hm h0;have hp2:=(q2z hN hq (suf.map fun b=>(a,b)) _ (hm.send hN hq h0)).2.le;refine hR m' any' ?_ ?_;·rw[e1];show _=sends (sendM m a b) _;unfold sendM;simp_all
   grind
  .rw[q0d h0,cF];refine qlf hN hq w hw a suf (i+1) m any (q01 h) hm (fun m' any' e1 e2=>hR m' any' ?_ e2) ⟨r,hr⟩;rw[e1];show _=sends (sendM m a b) _;unfold sendM;grind
theorem qqu{N q:Nat}(hN:N<=10)(hq:q<=100000)(w:List Nat)(hw:w.length<=10){a18:LV}{a20 a22:Int}:∀(suf:List Nat)(i:Nat)(m:Meeting)(any:Bool),w.drop i=suf->GoodMt N q m->z31 (w.map Int.ofNat) any (w.map Int.ofNat) ((w.length:Nat):Int) (i:Int) m.Voters m.Stopped m.Ill a18 a20 a22=some (sends m (suf.flatMap fun a=>w.map fun b=>(a,b)),any||decide (pot m<pot (sends m (suf.flatMap fun a=>w.map fun b=>(a,b)))))
 |[],i,m,any,h,hm=>by apply ybj;rw[q0c h,cF];simp[sends]|a::suf,i,m,any,h,hm=>by
  have hlt:=q09 h;have h':(w.map Int.ofNat).drop i=(a:Int)::suf.map Int.ofNat:=by rw[<-List.map_drop,h];rfl
  apply ybj;rw[q04 (by omega),cT,q02 h',List.length_map];refine qlf hN hq w hw a w 0 m any rfl hm (fun m' any' e1 e2=>?_) ⟨_,rfl⟩;obtain⟨g1,g2⟩:=q2z hN hq (w.map fun b=>(a,b)) m hm;rw[<-e1]at g1 g2;rw[q03 (by omega),qqu hN hq w hw suf (i+1) m' any' (q01 h) g1,List.flatMap_cons,qgx,<-e1];have hp1:=g2.le;have hp2:=(q2z hN hq (suf.flatMap fun a=>w.map fun b=>(a,b)) m' g1).2.le;congr 2;grind
def q2c(N:Nat)(m:Meeting):List Nat:=nodes (2^N-1-m.Ill.toNat)
noncomputable def q4w(w:List Nat)(m:Meeting):Meeting:=sends m (q61 w)
theorem y1m(hN:N<=10)(hq:q<=100000){m:Meeting}(hm:GoodMt N q m):z7l m=some (q4w (q2c N m) m,decide (pot m<pot (q4w (q2c N m) m))):=by
 have hl:=hm.len;obtain⟨⟨s1,s2⟩,_⟩:=hm.sets;have hp:=qb4 hN;have hpos:=Nat.two_pow_pos N;have hw:z4k (subI .i64 (subI .i64 (shlI .i64 1 ((m.Voters.length:Nat):Int)) 1) m.Ill)=some ((q2c N m).map Int.ofNat):=by
  have e1:subI .i64 ((2^N:Nat):Int) 1=((2^N:Nat):Int)-1:=q46 (by omega) (by omega);rw[hl,shlN hN,e1,q46 (by omega) (by omega)];have:((2^N:Nat):Int)-1-m.Ill=((2^N-1-m.Ill.toNat:Nat):Int):=by omega
  rw[this];exact qit (by omega)
 apply yda;rw[q0i (by omega),hw,bS];have:=qqu hN hq (q2c N m) (qep _) (a18:=[]) (a20:=0) (a22:=0) (q2c N m) 0 m false rfl hm;rw[List.length_map];rw[Bool.false_or]at this;exact this
noncomputable def iterM(w:List Nat):Nat->Meeting->Meeting|0,m=>m|n+1,m=>iterM w n (q4w w m)
theorem qkp{w:List Nat}{m:Meeting}(h:q4w w m=m):∀n,iterM w n m=m|0=>rfl|n+1=>by rw[iterM,h];exact qkp h n
theorem qr9{K:Meeting->Prop}(hK:∀m a b,K m->(stepM m (sendP a b)).2=0->K (stepM m (sendP a b)).1)(w:List Nat):∀(n:Nat)(m:Meeting),K m->K (iterM w n m)|0,_,h=>h|n+1,m,h=>qr9 hK w n _ (qdx hK _ m h)
def BdM(B:Nat)(m:Meeting):Prop:=∀v∈m.Voters,∀x∈v.Heard,x.Seq.toNat<=B
theorem y9g{l:List Nat}(h:∀x∈l,x<=B):l.sum<=l.length*B:=by induction l with|nil=>simp|cons y l ih=>have h1:=h y (by simp);have h2:=ih fun x hx=>h x (by grind);rw[List.sum_cons,List.length_cons,Nat.add_mul];omega
theorem y82(hN:N<=10){m:Meeting}(hm:GoodMt N q m)(hB:BdM B m):pot m<=10*(10*B):=by
 have h1:pot m<=(m.Voters.map fun v=>tot v.Heard).length*(10*B):=y9g fun x hx=>by
  obtain⟨v,hv,rfl⟩:=List.mem_map.1 hx;have h2:tot v.Heard<=(v.Heard.map fun m=>m.Seq.toNat).length*B:=y9g fun y hy=>by obtain⟨k,hk,rfl⟩:=List.mem_map.1 hy;exact hB v hv k hk
  obtain⟨i,hi⟩:=List.getElem?_of_mem hv;have hlt:i<m.Voters.length:=(List.getElem?_eq_some_iff.1 hi).1;have hr:=hm.ready v hv;rw[q2b hlt]at hi;cases hi;have:=hr.hlen;rw[List.length_map]at h2;exact Nat.le_trans h2 (Nat.mul_le_mul_right B this)
 have hl:=hm.len;rw[List.length_map]at h1;exact Nat.le_trans h1 (Nat.mul_le_mul_right _ (by omega))
theorem BdM.send(hB0:1000000<=B){m:Meeting}(hm:GoodMt N q m)(hB:BdM B m)(h:(stepM m (sendP a b)).2=0):BdM B (stepM m (sendP a b)).1:=by
 obtain⟨_,_,e,ha,hb,_⟩:=qf4 h;rw[e];intro v hv x hx;dsimp only at hv;rcases List.mem_or_eq_of_mem_set hv with g|g;·exact hB v g x hx
 .rw[g,qmr]at hx;rcases qej hx with g|g;·have hA:=hm.at (b:=a) (by rw[<-hm.len];omega);have h1:=(q14.1 hA.2.1).1.seq;rw[g];show(atV m.Voters a).Seq.toNat<=B;omega
  .exact hB _ (List.mem_of_getElem? (q2b hb)) x g
theorem ybz(m:Meeting):∃B,1000000<=B/\BdM B m:=by
 have key:∀{l:List Nat}{x:Nat},x∈l->x<=l.sum:=by intro l;induction l with|nil=>simp|cons y l ih=>grind
 refine⟨1000000+pot m,by omega,fun v hv x hx=>?_⟩;have h1:x.Seq.toNat<=tot v.Heard:=key (List.mem_map_of_mem (f:=fun m:Message=>m.Seq.toNat) hx);have h2:tot v.Heard<=pot m:=key (List.mem_map_of_mem (f:=fun v:Voter=>tot v.Heard) hv);omega
theorem qn8(hN:N<=10)(hq:q<=100000)(hB0:1000000<=B){m:Meeting}(hm:GoodMt N q m)(hB:BdM B m)(w:List Nat):GoodMt N q (q4w w m)/\BdM B (q4w w m):=qdx (K:=fun m=>GoodMt N q m/\BdM B m) (fun _m _a _b h h0=>⟨h.1.send hN hq h0,h.2.send hB0 h.1 h0⟩) _ m ⟨hm,hB⟩
theorem qlz(w:List Nat)(m:Meeting):q2c N (q4w w m)=q2c N m:=qdx (K:=fun x=>q2c N x=q2c N m) (fun x a b h h0=>by rw[<-h];unfold q2c;rw[(qf4 h0).2.2.1]) _ m rfl
theorem qxu{N q B:Nat}(hN:N<=10)(hq:q<=100000)(hB0:1000000<=B){a10:LV}{a12 a14:Int}:∀(n:Nat)(m:Meeting),GoodMt N q m->BdM B m->10*(10*B)-pot m<n->z3h true m.Voters m.Stopped m.Ill a10 a12 a14=some (iterM (q2c N m) n m,0)/\q4w (q2c N m) (iterM (q2c N m) n m)=iterM (q2c N m) n m
 |0,m,hm,hB,hn=>by omega|n+1,m,hm,hB,hn=>by
  obtain⟨g1,g2⟩:=qn8 hN hq hB0 hm hB (q2c N m);have hR:=(q2z hN hq (q61 (q2c N m)) m hm).2;have hr:z7l (Meeting.mk m.Voters m.Stopped m.Ill)=_:=y1m hN hq hm;have hp:=hR.le;by_cases h:pot m<pot (q4w (q2c N m) m);·have hb:=y82 hN g1 g2;obtain⟨i1,i2⟩:=qxu hN hq hB0 (a10:=a10) (a12:=a12) (a14:=a14) n (q4w (q2c N m) m) g1 g2 (by omega);rw[qlz]at i1 i2;refine⟨?_,i2⟩;apply y1o;rw[cT,hr,bS,decide_eq_true h];exact i1
  .have e:q4w (q2c N m) m=m:=(hR.stay (by show pot (q4w (q2c N m) m)=pot m;have:pot m<=pot (q4w (q2c N m) m):=hp;omega)).1;rw[qkp e];refine⟨?_,e⟩;apply y1o;rw[cT,hr,bS,e,decide_eq_false (Nat.lt_irrefl (pot m))];apply y1o;rw[cF,show Meeting.mk m.Voters m.Stopped m.Ill=m from rfl,hm.fresh hN,bS]
end Go.Proofs.YtdmfjabikomgiaaGreat
namespace Go.Proofs.YtdmfjabikomgiaaGreat
open Go Go.Ab Go.Sort
end Go.Proofs.YtdmfjabikomgiaaGreat
namespace Go.Proofs.YtdmfjabikomgiaaGreat
open Go Go.Ab Go.Sort
theorem y6w{m:Nat}:∀t:Trust,good t=true->uses t<2^m->below (m:Int) t=true:=by
 apply Trust.ind;intro t ih hg hu;rw[qg9]at hg;simp only[aT,dT]at hg;obtain⟨_,_,hN,_,hI⟩:=hg;rw[qoi]at hu;have hu':=qux.1 hu;rw[y6o,aT];refine⟨?_,?_⟩;·rw[List.all_eq_true];intro k hk;have hkr:=List.all_eq_true.1 hN k hk;have h1:=qpw hk hkr;obtain⟨j,rfl,hj,hb⟩:=y4v h1;have h2:=hu' j (by rw[Nat.testBit_or,hb];rfl);simp_all
 .have hgs:∀l:LT,goods l=true->∀x∈l,good x=true:=by intro l;induction l with|nil=>simp|cons y r ihr=>intro h x hx;simp only[goods,aT]at h;grind
  have key:∀l:LT,(∀x∈l,below (m:Int) x=true)->q6z (m:Int) l=true:=by intro l;induction l with|nil=>intro _;rfl|cons y r ihr=>intro h;simp only[q6z,h y (by simp),ihr (fun x hx=>h x (by grind)),Bool.and_self]
  refine key _ fun x hx=>ih x hx (hgs _ hI x hx) ?_;exact qux.2 fun i hi=>hu' i (by rw[Nat.testBit_or,qq6 hx i hi,Bool.or_true])
theorem ValidC.conf{c:Config}{n:Nat}(h:ValidC c)(h1:1<=c.Members.length)(h2:c.Members.length<=n):ConfOk n c:=⟨h1,h2,fun m hm=>by
  have:=h.2 m hm;unfold MemV at this;unfold MemOk;split;·rename_i hd;rw[if_pos hd]at this;exact⟨this.1,y6w _ (qzl this.1) this.2⟩
  simp_all⟩
variable {n : Nat}
def y2d(ms:LB):Prop:=∀m∈ms,Small m.Trust
theorem qzr(k m:Int):Small ⟨1,[k,m],[]⟩:=by unfold Small;rw[q8p];simp[sizes]
theorem qtl{n:Nat}(hn:n<=10)(h1:1<=n)(l:LI)(i:Int)(a10:LB):∀(r k:Nat)(ms:LB),k+r=ms.length->1<=ms.length->ms.length<=n->y2d ms->(∀j m,j<k->ms[j]?=some m->m.Declared=true)->∃c,z6a ((ms.length:Nat):Int) (k:Int) l i a10 ms=some (c,l,i)/\ConfOk n c/\∀m∈c.Members,m.Declared=true
 |0,k,ms,hk,hp,hl,hs,hd=>by
  have hsc:q31 ⟨ms⟩:=⟨by grind,hs⟩;by_cases h0:cerr ⟨ms⟩=0
  .refine⟨⟨ms⟩,?_,(qap.1 h0).conf hp hl,fun m hm=>?_⟩;·apply qyi;rw[q00 (by omega),cF,qny hsc,h0];rfl
   .obtain⟨j,hj⟩:=List.getElem?_of_mem hm;grind
  .refine⟨⟨[⟨true,⟨1,[0],[]⟩⟩]⟩,?_,?_,fun m hm=>?_⟩;·apply qyi;rw[q00 (by omega),cF,qny hsc];simp[neB,h0]
   .refine⟨by show 1<=1;omega,by show 1<=n;omega,fun x hx=>?_⟩;have hx':x=⟨true,⟨1,[0],[]⟩⟩:=by simpa using hx
    subst hx';show MemOk 1 _;unfold MemOk;rw[if_pos rfl];exact⟨by decide,by decide⟩
   grind|r+1,k,ms,hk,hp,hl,hs,hd=>by
  have hlt:k<ms.length:=by omega
  have hget:ms[k]?=some ms[k]:=by simp
  cases hdk:ms[k].Declared with|true=>obtain⟨c,g1,g2⟩:=qtl hn h1 l i a10 r (k+1) ms (by omega) hp hl hs (fun j m hj hm=>by grind);refine⟨c,?_,g2⟩;apply qyi;rw[q04 (by omega),cT,q0m (y:=ms[k]) (by omega) (by simp)];simp only[nthN,tN,hget,hdk,nT,cF];rw[q03 (by omega)];omega|false=>
   have hlen:(ms.set k ⟨true,⟨1,[(k:Int),remI .i64 ((k+1:Nat):Int) ((ms.length:Nat):Int)],[]⟩⟩).length=ms.length:=by simp
   obtain⟨c,g1,g2⟩:=qtl hn h1 l i a10 r (k+1) (ms.set k ⟨true,⟨1,[(k:Int),remI .i64 ((k+1:Nat):Int) ((ms.length:Nat):Int)],[]⟩⟩) (by omega) (by omega) (by omega) (fun m hm=>by
    rcases List.mem_or_eq_of_mem_set hm with h|h;·exact hs m h
    .subst h;exact qzr _ _) (fun j m hj hm=>by grind);refine⟨c,?_,g2⟩;rw[hlen]at g1;apply qyi;rw[q04 (by omega),cT,q0m (y:=ms[k]) (by omega) (by simp)];simp only[nthN,tN,hget,hdk,Bool.not_false,cT];rw[q0i (by omega),q0m (y:=ms[k]) (by omega) (by simp),q03 (by omega)];omega
theorem ycm(hn:n<=10)(h1:2<=n)(l:LI)(i:Int)(a6:LB):∀(r:Nat)(ms:LB),2<=ms.length+r->ms.length<=n->y2d ms->∃c,z8v l i a6 ms=some (c,l,i)/\ConfOk n c/\∀m∈c.Members,m.Declared=true:=by intro r;induction r with|zero=>intro ms h2 hl hs;obtain⟨c,g1,g2⟩:=qtl hn (by omega) l i a6 ms.length 0 ms (by omega) (by omega) hl hs (fun j m hj _=>by omega);refine⟨c,?_,g2⟩;apply ya2;rw[q00 (by omega),cF];omega|succ r ih=>
  intro ms h2 hl hs;by_cases h:ms.length<2;·obtain⟨c,g1,g2⟩:=ih (ms++[⟨false,⟨0,[],[]⟩⟩]) (by simp;omega) (by simp;omega) (fun m hm=>by
    rcases List.mem_append.1 hm with hm|hm;·exact hs m hm
    .rw[List.mem_singleton]at hm;subst hm;unfold Small;rw[q8p];simp[sizes]);refine⟨c,?_,g2⟩;apply ya2;rw[q04 (by omega),cT,q06 (by simp[q07];omega)];omega
  grind
theorem yct(h1:2<=n)(h2:n<=10){l:LI}{i:Int}(h:q0n l i):∃c j,z9w (n:Int) l i=some (c,l,j)/\ConfOk n c/\(∀m∈c.Members,m.Declared=true)/\q0n l j:=by obtain⟨c0,j,a1,a2,a3⟩:=y40 (by omega) h2 h;obtain⟨c,g1,g2,g3⟩:=ycm h2 h1 l j [] 2 c0.Members (by omega) a2.le (a2.smallC h2).2;refine⟨c,j,?_,g2,g3,a3⟩;apply yh1;grind
end Go.Proofs.YtdmfjabikomgiaaGreat
namespace Go.Proofs.YtdmfjabikomgiaaGreat
open Go Go.Ab
theorem qnh(a b:Meeting)(hl:a.Voters.length<1000000)(hk:a.Voters.length=b.Voters.length)(hs:∀v∈a.Voters,SmallV v):∀(suf suk:LV)(i:Nat),a.Voters.drop i=suf->b.Voters.drop i=suk->∃r,z5p ((a.Voters.length:Nat):Int) (i:Int) a.Voters a.Stopped a.Ill b.Voters b.Stopped b.Ill=some r/\(r=true↔suf=suk)
 |[],suk,i,h,h'=>by
  have:suk=[]:=by rw[<-h',List.drop_eq_nil_iff,<-hk];simp_all
  subst this;refine⟨true,y5l _ _ _ _ _ _ _ _ _ ?_,by simp⟩;rw[q0c h];rfl|y::suf,[],i,h,h'=>by have:=q09 h;have:=List.drop_eq_nil_iff.1 h';omega|y::suf,z::suk,i,h,h'=>by have hlt:=q09 h;have hy:=hs y (List.mem_of_mem_drop (i:=i) (by simp_all));obtain⟨r,g1,g2⟩:=qnh a b hl hk hs suf suk (i+1) (q01 h) (q01 h');have hv:=qsx (a:=y) (b:=z);cases he:sameV y z with|true=>refine⟨r,y5l _ _ _ _ _ _ _ _ _ ?_,by rw[g2,hv.1 he];simp⟩;rw[q05 h,cT,q02 h,q02 h',qps hy,bS,he,nT,cF,q03 (by omega)];omega|false=>
   refine⟨false,y5l _ _ _ _ _ _ _ _ _ ?_,?_⟩;·rw[q05 h,cT,q02 h,q02 h',qps hy,bS,he];rfl
   simp_all
theorem qg3{a:Meeting}(h:SmallMt a)(b:Meeting):∃r,z1z a b=some r/\(r=true↔a=b):=by
 have key:∀r:Bool,a=b↔a.Voters=b.Voters/\a.Stopped=b.Stopped/\a.Ill=b.Ill:=fun _=>by cases a;cases b;simp
 by_cases h1:a.Stopped=b.Stopped;case neg=>exact⟨false,qxf _ _ _ (by rw[q1c h1];rfl),by simp;rintro rfl;exact h1 rfl⟩
 by_cases h2:a.Ill=b.Ill;case neg=>exact⟨false,qxf _ _ _ (by rw[h1,q0g,cF,q1c h2];rfl),by simp;rintro rfl;exact h2 rfl⟩
 by_cases h3:a.Voters.length=b.Voters.length;case neg=>exact⟨false,qxf _ _ _ (by rw[h1,q0g,cF,h2,q0g,cF,q1c (by omega)];rfl),by simp;rintro rfl;exact h3 rfl⟩
 obtain⟨r,g1,g2⟩:=qnh a b h.len h3 h.voters a.Voters b.Voters 0 rfl rfl;refine⟨r,qxf _ _ _ ?_,?_⟩;·rw[show neB a.Stopped b.Stopped=false by rw[h1];exact q0g _,cF,show neB a.Ill b.Ill=false by rw[h2];exact q0g _,cF,show neB ((a.Voters.length:Nat):Int) ((b.Voters.length:Nat):Int)=false by rw[h3];exact q0g _,cF];exact g1
 simp_all
def c3:Config:=⟨[⟨true,⟨2,[0,1,2],[]⟩⟩,⟨true,⟨2,[0,1,2],[]⟩⟩,⟨true,⟨2,[0,1,2],[]⟩⟩]⟩
def t3:Trust:=⟨2,[0,1,2],[]⟩
def x3:Claim:=⟨0,1⟩
def a0:Voter:=⟨0,1,t3,[],[],[],[]⟩
def b0:Voter:=⟨1,1,t3,[],[],[],[]⟩
def d0:Voter:=⟨2,1,t3,[],[],[],[]⟩
def a1:Voter:=⟨0,2,t3,[x3],[],[],[]⟩
def b1:Voter:=⟨1,2,t3,[x3],[],[],[]⟩
def b2:Voter:=⟨1,3,t3,[x3],[x3],[],[say a1]⟩
def a2:Voter:=⟨0,3,t3,[x3],[x3],[x3],[say b2]⟩
def b3:Voter:=⟨1,3,t3,[x3],[x3],[x3],[say a2]⟩
def p3:LP:=[⟨1,0,0,x3,noT,noM⟩,⟨1,1,0,x3,noT,noM⟩,⟨2,0,1,⟨0,0⟩,noT,noM⟩,⟨2,1,0,⟨0,0⟩,noT,noM⟩,⟨2,0,1,⟨0,0⟩,noT,noM⟩,⟨2,1,0,⟨0,0⟩,noT,noM⟩]
theorem q7x{b u:Voter}{A C:LC}{s:Int}(h1:(q0r u).Accepts=A)(h2:(q0r u).Confirms=C)(hs:(b.Trust=u.Trust/\b.Votes=u.Votes/\b.Accepts=A/\s=u.Seq)\/(¬(b.Trust=u.Trust/\b.Votes=u.Votes/\b.Accepts=A)/\s=u.Seq+1)):turnV b u=⟨u.Node,s,u.Trust,u.Votes,A,C,u.Heard⟩:=by
 obtain⟨g1,g2,g3,g4,g5⟩:=q2s u;have e:q0r u=⟨u.Node,u.Seq,u.Trust,u.Votes,A,C,u.Heard⟩:=by rw[<-g1,<-g2,<-g3,<-g4,<-g5,<-h1,<-h2]
 rw[turnV,e];grind
theorem qj7{m:Meeting}{p:Play}{k:Int}{w:Voter}(ha:mAsk m p=0)(hc:mChg m p=(k,w,0))(h4:p.Kind≠4):stepM m p=(⟨m.Voters.set k.toNat w,m.Stopped,m.Ill⟩,0):=by unfold stepM;grind
theorem y2l{v w:Voter}{x:Claim}(h1:q21 v=true)(h2:vcl x=true)(h3:(v.Votes++v.Accepts)=[])(hw:turnV v {v with Votes:=q0o (v.Votes++[x])}=w):voteV v x=(w,0):=by have h5:v.Votes=[]:=(List.append_eq_nil_iff.1 h3).1;unfold voteV;grind
theorem ex1:stepM ⟨[a0,b0,d0],0,4⟩ ⟨1,0,0,x3,noT,noM⟩=(⟨[a1,b0,d0],0,4⟩,0):=by have hv:voteV a0 x3=(a1,0):=y2l (by rfl) (by rfl) rfl (q7x (A:=[]) (C:=[]) (s:=2) (by rfl) (by rfl) (.inr ⟨fun h=>by have:=h.2.1;revert this;decide+kernel,rfl⟩));exact qj7 (k:=0) (w:=a1) (by rfl) (by show((0:Int),(voteV a0 x3).1,(voteV a0 x3).2)=_;rw[hv]) (by decide)
theorem ex2:stepM ⟨[a1,b0,d0],0,4⟩ ⟨1,1,0,x3,noT,noM⟩=(⟨[a1,b1,d0],0,4⟩,0):=by have hv:voteV b0 x3=(b1,0):=y2l (by rfl) (by rfl) rfl (q7x (A:=[]) (C:=[]) (s:=2) (by rfl) (by rfl) (.inr ⟨fun h=>by have:=h.2.1;revert this;decide+kernel,rfl⟩));exact qj7 (k:=1) (w:=b1) (by rfl) (by show((1:Int),(voteV b0 x3).1,(voteV b0 x3).2)=_;rw[hv]) (by decide)
theorem ex3:stepM ⟨[a1,b1,d0],0,4⟩ ⟨2,0,1,⟨0,0⟩,noT,noM⟩=(⟨[a1,b2,d0],0,4⟩,0):=by
 have hv:hearV b1 (say a1)=(b2,0):=by rw[qfp (by rfl) (by rfl) (by decide+kernel) (by rfl),q7x (A:=[x3]) (C:=[]) (s:=3) (by rfl) (by rfl) (.inr ⟨fun h=>by have:=h.2.2;revert this;decide+kernel,rfl⟩)];rfl
 exact qj7 (k:=1) (w:=b2) (by rfl) (by show((1:Int),(hearV b1 (say a1)).1,(hearV b1 (say a1)).2)=_;rw[hv]) (by decide)
theorem ex4:stepM ⟨[a1,b2,d0],0,4⟩ ⟨2,1,0,⟨0,0⟩,noT,noM⟩=(⟨[a2,b2,d0],0,4⟩,0):=by
 have hv:hearV a1 (say b2)=(a2,0):=by rw[qfp (by rfl) (by rfl) (by decide+kernel) (by rfl),q7x (A:=[x3]) (C:=[x3]) (s:=3) (by rfl) (by rfl) (.inr ⟨fun h=>by have:=h.2.2;revert this;decide+kernel,rfl⟩)];rfl
 exact qj7 (k:=0) (w:=a2) (by rfl) (by show((0:Int),(hearV a1 (say b2)).1,(hearV a1 (say b2)).2)=_;rw[hv]) (by decide)
theorem ex5:stepM ⟨[a2,b2,d0],0,4⟩ ⟨2,0,1,⟨0,0⟩,noT,noM⟩=(⟨[a2,b3,d0],0,4⟩,0):=by
 have hv:hearV b2 (say a2)=(b3,0):=by rw[qfp (by rfl) (by rfl) (by decide+kernel) (by rfl),q7x (b:=b2) (u:={b2 with Heard:=hearL (say a2) b2.Heard}) (A:=[x3]) (C:=[x3]) (s:=3) (by rfl) (by rfl) (.inl ⟨rfl,rfl,rfl,rfl⟩)];rfl
 exact qj7 (k:=1) (w:=b3) (by rfl) (by show((1:Int),(hearV b2 (say a2)).1,(hearV b2 (say a2)).2)=_;rw[hv]) (by decide)
theorem ex6:stepM ⟨[a2,b3,d0],0,4⟩ ⟨2,1,0,⟨0,0⟩,noT,noM⟩=(q1u,9):=by rfl
theorem ycr:playM p3 ⟨[a0,b0,d0],0,4⟩=(⟨[a2,b3,d0],0,4⟩,[0,0,0,0,0,9]):=by simp only[p3,playM,ex1,ex2,ex3,ex4,ex5,ex6,if_true];rfl
variable {v : Voter} {c1 c2 e f k m1 n o2 o3 s t t1 : Int} {m2 t2 : LI} {m3 t3 : LT} {m4 m5 : LC} {o1 : LV}
theorem qve{m:Meeting}(hl:m.Voters.length<1000000){k:Nat}(hk:v.Node=(k:Int))(hlt:k<m.Voters.length):z6i m v=some ⟨m.Voters.set k v,m.Stopped,m.Ill⟩:=by apply ydt;rw[q06 (by simp[q07];omega),List.nil_append,hk,q0m (y:=atV m.Voters k) (by omega) (by rw[tN];exact q2b hlt)];simp only[nthN,tN,q2b hlt];rw[<-hk,q0t]
section
variable {m : Meeting} (hl : m.Voters.length < 1000000)
def outR(m:Meeting)(e:Int)(v:Voter):Meeting×Int:=if e≠0 then(q1u,e)else(⟨m.Voters.set v.Node.toNat v,m.Stopped,m.Ill⟩,0)
include hl in
theorem rfin6(hv:e=0->0<=v.Node/\v.Node.toNat<m.Voters.length):z1i e m.Voters m.Stopped m.Ill k f t c1 c2 t1 t2 t3 n s m1 m2 m3 m4 m5 o1 o2 o3 v.Node v.Seq v.Trust.Threshold v.Trust.Nodes v.Trust.Inner v.Votes v.Accepts v.Confirms v.Heard=some (outR m e v):=by
 apply ygq;unfold outR;by_cases h0:e=0;·obtain⟨h1,h2⟩:=hv h0;rw[h0,q0g,cF,if_neg (by simp),q0t];have:=qve (m:=m) hl (v:=v) (k:=v.Node.toNat) (by omega) h2;have this':z6i ⟨m.Voters,m.Stopped,m.Ill⟩ v=_:=this;rw[this'];rfl
 .rw[q1c h0,cT,if_pos h0];rfl
include hl in
theorem rfin9(hv:e=0->0<=v.Node/\v.Node.toNat<m.Voters.length):z1v e m.Voters m.Stopped m.Ill k f t c1 c2 t1 t2 t3 n s m1 m2 m3 m4 m5 o1 o2 o3 v.Node v.Seq v.Trust.Threshold v.Trust.Nodes v.Trust.Inner v.Votes v.Accepts v.Confirms v.Heard=some (outR m e v):=by
 apply yfh;unfold outR;by_cases h0:e=0;·obtain⟨h1,h2⟩:=hv h0;rw[h0,q0g,cF,if_neg (by simp),q0t];have:=qve (m:=m) hl (v:=v) (k:=v.Node.toNat) (by omega) h2;have this':z6i ⟨m.Voters,m.Stopped,m.Ill⟩ v=_:=this;rw[this'];rfl
 .rw[q1c h0,cT,if_pos h0];rfl
include hl in
theorem ybr(hv:e=0->0<=v.Node/\v.Node.toNat<m.Voters.length){b:Bool}:z7m e b m.Voters m.Stopped m.Ill k f t c1 c2 t1 t2 t3 n s m1 m2 m3 m4 m5 o1 o2 o3 v.Node v.Seq v.Trust.Threshold v.Trust.Nodes v.Trust.Inner v.Votes v.Accepts v.Confirms v.Heard=some (outR m e v):=by
 apply ydn;unfold outR;by_cases h0:e=0;·obtain⟨h1,h2⟩:=hv h0;rw[h0,q0g,cF,if_neg (by simp),q0t];have:=qve (m:=m) hl (v:=v) (k:=v.Node.toNat) (by omega) h2;have this':z6i ⟨m.Voters,m.Stopped,m.Ill⟩ v=_:=this;rw[this'];rfl
 .rw[q1c h0,cT,if_pos h0];rfl
end
noncomputable def chgR(m:Meeting)(p:Play):Meeting×Int:=if(mChg m p).2.2≠0 then(q1u,(mChg m p).2.2)else(⟨m.Voters.set (mChg m p).1.toNat (mChg m p).2.1,if p.Kind=4 then((m.Stopped.toNat|||2^p.From.toNat:Nat):Int)else m.Stopped,m.Ill⟩,0)
theorem y46{t:Trust}(ht:Small t):z1a t=some (verr t):=q92 _ ht
theorem qre(hv:q21 v=true){x:Claim}(h:(voteV v x).2=0):(voteV v x).1.Node=v.Node:=(y2c hv h).1.node
theorem qt0(hv:q21 v=true){t:Trust}(h:(declV v t).2=0):(declV v t).1.Node=v.Node:=(y1b hv h).1.node
theorem qfl(hv:q21 v=true){m:Message}(h:(hearV v m).2=0):(hearV v m).1.Node=v.Node:=(y5o hv h).1.node
theorem y4x{t:Trust}{n:Nat}:leB ((2^n:Nat):Int) ((uses t:Nat):Int)=!insB t n:=by rw[q6s];unfold insB;grind
theorem rchgs{m:Meeting}(h:SmallMt m){p:Play}(hp:SmallP p)(ha:mAsk m p=0):∀F∈[z7y,z7z,z80],F ((m.Voters.length:Nat):Int) false m.Voters m.Stopped m.Ill p.Kind p.From p.To p.Claim.Topic p.Claim.Value p.Trust.Threshold p.Trust.Nodes p.Trust.Inner p.Message.Node p.Message.Seq p.Message.Trust.Threshold p.Message.Trust.Nodes p.Message.Trust.Inner p.Message.Votes p.Message.Accepts [] 0 0=some (chgR m p):=by
 intro F hF;obtain⟨hv,k1,k2,f1,f2,ht,_,_⟩:=q3p ha;obtain⟨⟨_,h2,_,⟨h5,h6⟩,_⟩,hvs⟩:=q10.1 hv;have hpw:=qb4 h2;have gf:m.Voters[p.From.toNat]?=some (atV m.Voters p.From.toNat):=q2b (by omega);have vf:=q1v.1 hvs p.From.toNat (by omega);have sf:=h.voters _ (List.mem_of_getElem? gf);have nf:(atV m.Voters p.From.toNat).Node=p.From:=by omega
 have ec:Claim.mk p.Claim.Topic p.Claim.Value=p.Claim:=rfl;simp only[List.mem_cons,List.not_mem_nil,or_false]at hF;rcases hF with rfl|rfl|rfl;apply yh0;rotate_left;apply yhn;rotate_left;apply ygs;all_goals
  unfold chgR mChg;by_cases e1:p.Kind=1
  .rw[if_pos e1,e1,q0e,cT,q0m f1 gf,ec,y24 sf,bS];rw[rfin6 h.len (fun e=>by rw[qre vf.2.1 e,nf];omega)];unfold outR;by_cases e0:(voteV (atV m.Voters p.From.toNat) p.Claim).2=0;·rw[if_neg (by omega),if_neg (by grind),qre vf.2.1 e0,nf];rfl
   grind
  rw[if_neg e1,q0d e1,cF];by_cases e2:p.Kind=2
  .have ht:=ht (by rw[e2];rfl);have gt:m.Voters[p.To.toNat]?=some (atV m.Voters p.To.toNat):=q2b (by omega);have vt:=q1v.1 hvs p.To.toNat (by omega);have st:=h.voters _ (List.mem_of_getElem? gt);have nt:(atV m.Voters p.To.toNat).Node=p.To:=by omega
   rw[if_pos e2,e2,q0e,cT,q0m ht.1 gt,q0m f1 gf,y20,bS,qrc st (q19 (q14.1 vf.2.1).1.say),bS];rw[rfin6 h.len (fun e=>by rw[qfl vt.2.1 e,nt];omega)];unfold outR;by_cases e0:(hearV (atV m.Voters p.To.toNat) (say (atV m.Voters p.From.toNat))).2=0;·rw[if_neg (by omega),if_neg (by grind),qfl vt.2.1 e0,nt];rfl
   grind
  rw[if_neg e2,q0d e2,cF];by_cases e3:p.Kind=3
  .rw[if_pos e3,e3,q0e,cT,Trust.etaM,y46 hp.tr,bS];by_cases z:verr p.Trust=0;·rw[z,q0e,cT,q0i (by omega),qio _ hp.tr,bS,shlN h2,y4x,if_neg (show¬((0:Int)≠0)by simp)];cases hi:insB p.Trust m.Voters.length with|false=>rw[Bool.not_false,cT,if_pos (show false=false from rfl)];apply yhh;rw[show eqB (5:Int) 0=false from rfl,cF];have:=ybr (m:=m) h.len (e:=5) (v:=q7h) (fun e=>by cases e) (k:=3) (f:=p.From) (t:=p.To) (c1:=p.Claim.Topic) (c2:=p.Claim.Value) (t1:=p.Trust.Threshold) (t2:=p.Trust.Nodes) (t3:=p.Trust.Inner) (n:=p.Message.Node) (s:=p.Message.Seq) (m1:=p.Message.Trust.Threshold) (m2:=p.Message.Trust.Nodes) (m3:=p.Message.Trust.Inner) (m4:=p.Message.Votes) (m5:=p.Message.Accepts) (o1:=[]) (o2:=0) (o3:=0) (b:=false);exact this|true=>
     rw[nT,cF,if_neg (show¬(true=false)by simp)];apply y92;rw[q0e,cT,q0m f1 gf,Trust.etaM,y45 sf hp.tr,bS];rw[rfin6 h.len (fun e=>by rw[qt0 vf.2.1 e,nf];omega)];unfold outR;by_cases e0:(declV (atV m.Voters p.From.toNat) p.Trust).2=0;·rw[if_neg (by omega),if_neg (by grind),qt0 vf.2.1 e0,nf];rfl
     grind
   .rw[q0d z,cF,if_pos z];apply y92;rw[q0d z,cF];have:=ybr (m:=m) h.len (e:=verr p.Trust) (v:=q7h) (fun e=>absurd e z) (k:=3) (f:=p.From) (t:=p.To) (c1:=p.Claim.Topic) (c2:=p.Claim.Value) (t1:=p.Trust.Threshold) (t2:=p.Trust.Nodes) (t3:=p.Trust.Inner) (n:=p.Message.Node) (s:=p.Message.Seq) (m1:=p.Message.Trust.Threshold) (m2:=p.Message.Trust.Nodes) (m3:=p.Message.Trust.Inner) (m4:=p.Message.Votes) (m5:=p.Message.Accepts) (o1:=[]) (o2:=0) (o3:=0) (b:=false);have this':=this;unfold outR at this';rw[if_pos z]at this';dsimp only;rw[if_pos z];exact this'
  rw[if_neg e3,q0d e3,cF];by_cases e5:p.Kind=5
  .have ht:=ht (by rw[e5];rfl);have gt:m.Voters[p.To.toNat]?=some (atV m.Voters p.To.toNat):=q2b (by omega);have vt:=q1v.1 hvs p.To.toNat (by omega);have st:=h.voters _ (List.mem_of_getElem? gt);have nt:(atV m.Voters p.To.toNat).Node=p.To:=by omega
   rw[if_pos e5,e5,show eqB (5:Int) 4=false from rfl,cF];have fin9:=fun(e:Int)(he:e≠0)=>rfin9 (m:=m) h.len (e:=e) (v:=q7h) (fun e0=>absurd e0 he) (k:=5) (f:=p.From) (t:=p.To) (c1:=p.Claim.Topic) (c2:=p.Claim.Value) (t1:=p.Trust.Threshold) (t2:=p.Trust.Nodes) (t3:=p.Trust.Inner) (n:=p.Message.Node) (s:=p.Message.Seq) (m1:=p.Message.Trust.Threshold) (m2:=p.Message.Trust.Nodes) (m3:=p.Message.Trust.Inner) (m4:=p.Message.Votes) (m5:=p.Message.Accepts) (o1:=[]) (o2:=0) (o3:=0);by_cases z:p.Message.Node=p.From;·rw[show neB p.Message.Node p.From=false by rw[z];exact q0g _,cF,qbc,qdg hp.msg,bS,if_neg (show¬(p.Message.Node≠p.From)by omega)];cases hm:msgB p.Message with|false=>rw[Bool.not_false,cT,if_pos (show false=false from rfl)];exact fin9 1 (by decide)|true=>rw[nT,cF,if_neg (show¬(true=false)by simp),q0i (by omega),Trust.etaM,qio _ hp.msg.tr,bS,shlN h2,y4x];cases hi:insB p.Message.Trust m.Voters.length with|false=>rw[Bool.not_false,cT,if_pos (show false=false from rfl)];exact fin9 5 (by decide)|true=>
      rw[nT,cF,if_neg (show¬(true=false)by simp),q0m ht.1 gt,qrc st hp.msg,bS];rw[rfin6 h.len (fun e=>by rw[qfl vt.2.1 e,nt];omega)];unfold outR;by_cases e0:(hearV (atV m.Voters p.To.toNat) p.Message).2=0;·rw[if_neg (by omega),if_neg (by grind),qfl vt.2.1 e0,nt];rfl
      grind
   .rw[q1c z,cT,if_pos z];exact fin9 8 (by decide)
  rw[if_neg e5];have e4:p.Kind=4:=by omega
  have hpf:2^p.From.toNat<=2^10:=Nat.pow_le_pow_right (by decide) (by omega);have ho:orI .i64 m.Stopped ((2^p.From.toNat:Nat):Int)=((m.Stopped.toNat|||2^p.From.toNat:Nat):Int):=by have:=q3a (a:=m.Stopped.toNat) (b:=2^p.From.toNat) (by omega) (by omega);grind
  rw[e4,q0e,cT,q0i f1,shl1 (by omega) (by omega),ho];dsimp only;rw[if_neg (by simp),if_pos rfl,y7i (by omega)]
theorem yer{m:Meeting}(h:SmallMt m){p:Play}(hp:SmallP p)(hv:q3i m=true)(k1:¬p.Kind<1)(k2:¬5<p.Kind)(f1:¬p.From<0)(f2:¬(m.Voters.length:Int)<=p.From)(ht:pairK p.Kind=true->0<=p.To/\p.To<(m.Voters.length:Int)/\p.To≠p.From){a7:Bool}(h7:pairK p.Kind=false->has m.Ill.toNat p.From=false->a7=!has m.Stopped.toNat p.From){a9:Bool}(h9:pairK p.Kind=true->a9=!has (m.Ill.toNat|||m.Stopped.toNat) p.To)(h7':pairK p.Kind=false->has m.Ill.toNat p.From=true->a7=false):z5s ((m.Voters.length:Nat):Int) (has m.Ill.toNat p.From) a7 a9 m.Voters m.Stopped m.Ill p.Kind p.From p.To p.Claim.Topic p.Claim.Value p.Trust.Threshold p.Trust.Nodes p.Trust.Inner p.Message.Node p.Message.Seq p.Message.Trust.Threshold p.Message.Trust.Nodes p.Message.Trust.Inner p.Message.Votes p.Message.Accepts [] 0 0=some (stepM m p):=by
 have fin:∀{N:Option (Meeting×Int)},(mAsk m p=0->N=some (chgR m p))->mAsk m p=0->N=some (stepM m p):=fun hN ha=>by rw[hN ha];unfold stepM chgR;grind
 have bad:mAsk m p=13->some ((⟨[],0,0⟩:Meeting),(13:Int))=some (stepM m p):=fun ha=>by unfold stepM;rw[if_pos (by omega),ha];rfl
 have base:∀e:Int,(has m.Ill.toNat p.From≠decide (p.Kind=5)->e=13)->(has m.Ill.toNat p.From=decide (p.Kind=5)->e=(if mGone m p=true then 13 else 0))->mAsk m p=e:=fun e g1 g2=>by unfold mAsk;grind
 apply yib;by_cases e2:p.Kind=2
 .have hk:pairK p.Kind=true:=by rw[e2];rfl
  have hd:decide (p.Kind=5)=false:=by grind
  have hg:mGone m p=has (m.Ill.toNat|||m.Stopped.toNat) p.To:=by unfold mGone;grind
  rw[show eqB p.Kind 2=true by rw[e2];rfl,cT,h9 hk];cases hi:has m.Ill.toNat p.From with|true=>simp_all|false=>rw[cF];cases hr:has (m.Ill.toNat|||m.Stopped.toNat) p.To with|true=>simp_all|false=>exact fin (fun ha=>rchgs h hp ha z7y (by simp)) (base 0 (fun g=>by grind) (fun _=>by grind))
 rw[q0d e2,cF];by_cases e5:p.Kind=5
 .have hk:pairK p.Kind=true:=by rw[e5];rfl
  have hd:decide (p.Kind=5)=true:=by grind
  have hg:mGone m p=has (m.Ill.toNat|||m.Stopped.toNat) p.To:=by unfold mGone;grind
  rw[show eqB p.Kind 5=true by rw[e5];rfl,cT,h9 hk];cases hi:has m.Ill.toNat p.From with|false=>simp_all|true=>rw[nT,cF];cases hr:has (m.Ill.toNat|||m.Stopped.toNat) p.To with|true=>simp_all|false=>exact fin (fun ha=>rchgs h hp ha z7z (by simp)) (base 0 (fun g=>by grind) (fun _=>by grind))
 rw[q0d e5,cF];have hk:pairK p.Kind=false:=by unfold pairK;grind
 have hd:decide (p.Kind=5)=false:=decide_eq_false e5;have hg:mGone m p=has m.Stopped.toNat p.From:=by unfold mGone;grind
 cases hi:has m.Ill.toNat p.From with|true=>simp_all|false=>rw[h7 hk hi];cases hr:has m.Stopped.toNat p.From with|true=>simp_all|false=>exact fin (fun ha=>rchgs h hp ha z80 (by simp)) (base 0 (fun g=>by grind) (fun _=>by grind))
theorem yee{m:Meeting}(h:SmallMt m){p:Play}(hp:SmallP p)(hv:q3i m=true)(k1:¬p.Kind<1)(k2:¬5<p.Kind)(f1:¬p.From<0)(f2:¬(m.Voters.length:Int)<=p.From)(ht:pairK p.Kind=true->0<=p.To/\p.To<(m.Voters.length:Int)/\p.To≠p.From):z6y ((m.Voters.length:Nat):Int) (pairK p.Kind) false m.Voters m.Stopped m.Ill p.Kind p.From p.To p.Claim.Topic p.Claim.Value p.Trust.Threshold p.Trust.Nodes p.Trust.Inner p.Message.Node p.Message.Seq p.Message.Trust.Threshold p.Message.Trust.Nodes p.Message.Trust.Inner p.Message.Votes p.Message.Accepts [] 0 0=some (stepM m p):=by
 obtain⟨⟨_,l10,⟨h3,h4⟩,⟨h5,h6⟩,_⟩,_⟩:=q10.1 hv;have hpw:=qb4 l10;have e1:z1u m.Ill p.From=some (has m.Ill.toNat p.From):=by have:=q1b (s:=m.Ill.toNat) (by omega) p.From;grind
 have e2:z1u m.Stopped p.From=some (has m.Stopped.toNat p.From):=by have:=q1b (s:=m.Stopped.toNat) (by omega) p.From;grind
 have e3:z1u (orI .i64 m.Ill m.Stopped) p.To=some (has (m.Ill.toNat|||m.Stopped.toNat) p.To):=by have ho:=q3a (a:=m.Ill.toNat) (b:=m.Stopped.toNat) (by omega) (by omega);rw[Int.toNat_of_nonneg h3,Int.toNat_of_nonneg h5]at ho;rw[ho];exact q1b (Nat.or_lt_two_pow (n:=10) (by omega) (by omega)) p.To
 apply ygz;rw[e1,bS,e2,e3];have go:=fun(a7 a9:Bool)g7 g9 g7'=>yer h hp hv k1 k2 f1 f2 ht (a7:=a7) g7 (a9:=a9) g9 g7';grind
theorem qo4{m:Meeting}(h:SmallMt m){p:Play}(hp:SmallP p):z87 m p=some (stepM m p):=by
 have bad:mAsk m p=1->some ((⟨[],0,0⟩:Meeting),(1:Int))=some (stepM m p):=fun ha=>by unfold stepM;rw[if_pos (by omega),ha];rfl
 have b1:(q3i m=false\/p.Kind<1\/5<p.Kind\/p.From<0\/(m.Voters.length:Int)<=p.From)->mAsk m p=1:=fun g=>by unfold mAsk;grind
 have b2:pairK p.Kind=true->(p.To<0\/(m.Voters.length:Int)<=p.To\/p.To=p.From)->mAsk m p=1:=fun g g'=>by unfold mAsk;grind
 apply yfk;rw[q6x h,bS];cases hv:q3i m with|false=>grind|true=>
  rw[nT];by_cases k1:p.Kind<1;·have:=bad (b1 (.inr (.inl k1)));rw[q04 k1];cases eqB p.Kind 2<;>exact this
  by_cases k2:5<p.Kind;·have:=bad (b1 (.inr (.inr (.inl k2))));rw[q00 (by omega),q04 k2];cases eqB p.Kind 2<;>exact this
  by_cases f1:p.From<0;·have:=bad (b1 (.inr (.inr (.inr (.inl f1)))));rw[q00 (by omega),q00 (by omega),q04 f1];cases eqB p.Kind 2<;>exact this
  by_cases f2:(m.Voters.length:Int)<=p.From;·have:=bad (b1 (.inr (.inr (.inr (.inr f2)))));rw[q00 (by omega),q00 (by omega),q00 (by omega),show leB ((m.Voters.length:Nat):Int) p.From=true by unfold leB;grind];cases eqB p.Kind 2<;>exact this
  rw[q00 (by omega),q00 (by omega),q00 (by omega),show leB ((m.Voters.length:Nat):Int) p.From=false by unfold leB;grind];simp only[cF];have go:=fun ht=>yee h hp hv k1 k2 f1 f2 ht
  cases hk:pairK p.Kind with|true=>
   rw[hk]at go;have h25:eqB p.Kind 2=true\/eqB p.Kind 2=false/\eqB p.Kind 5=true:=by
    unfold pairK at hk;rw[dT]at hk;rcases hk with e|e;·left;rw[e];rfl
    .right;rw[e];exact⟨rfl,rfl⟩
   by_cases t1:p.To<0
   .have:=bad (b2 hk (.inl t1));rcases h25 with e|⟨e,e'⟩;·rw[e,q04 t1];grind
    .rw[e,e',q04 t1];grind
   by_cases t2:(m.Voters.length:Int)<=p.To
   .have:=bad (b2 hk (.inr (.inl t2)));have l2:leB ((m.Voters.length:Nat):Int) p.To=true:=by unfold leB;simp_all
    grind
   have l2:leB ((m.Voters.length:Nat):Int) p.To=false:=by unfold leB;grind
   by_cases t3:p.To=p.From
   .have:=bad (b2 hk (.inr (.inr t3)));have l3:eqB p.To p.From=true:=by rw[t3];exact q0e _
    grind
   have:=go (fun _=>⟨by omega,by omega,t3⟩);rcases h25 with e|⟨e,e'⟩;·rw[e,q00 (by omega),l2,q0d t3];grind
   .rw[e,e',q00 (by omega),l2,q0d t3];grind|false=>
   rw[hk]at go;have h2:eqB p.Kind 2=false:=by unfold pairK at hk;rw[decide_eq_false_iff_not]at hk;exact q0d (fun e=>hk (.inl e))
   have h5:eqB p.Kind 5=false:=by unfold pairK at hk;rw[decide_eq_false_iff_not]at hk;exact q0d (fun e=>hk (.inr e))
   grind
theorem qvn{N:Nat}(hN:N<=10)(l:LP)(hl:l.length<=400)(hp:∀p∈l,SmallP p)(a10:LB)(a12:LV)(a14 a16:Int):∀(suf:LP)(i q:Nat)(acc:LI)(m:Meeting),l.drop i=suf->acc.length<=i->GoodMt N q m->q+suf.length<=1000->z6n acc l ((l.length:Nat):Int) (i:Int) a10 a12 a14 a16 m.Voters m.Stopped m.Ill=some ((playM suf m).1,acc++(playM suf m).2,0)
 |[],i,q,acc,m,h,ha,hm,hq=>by apply ya4;rw[q0c h,cF,playM,List.append_nil]|p::suf,i,q,acc,m,h,ha,hm,hq=>by
  have hlt:=q09 h;rw[List.length_cons]at hq;have hps:=hp p (List.mem_of_mem_drop (i:=i) (by grind));apply ya4;rw[q05 h,cT,q02 h,show Meeting.mk m.Voters m.Stopped m.Ill=m from rfl,qo4 (hm.small hN) hps,bS,q03 (by omega),playM];by_cases h0:(stepM m p).2=0;·have ih:=qvn hN l hl hp a10 a12 a14 a16 suf (i+1) (q+1) (acc++[(stepM m p).2]) (stepM m p).1 (q01 h) (by grind) (hm.step hN (by omega) h0) (by omega);simp only[if_pos h0];rw[show eqB (stepM m p).2 0=true by rw[h0];rfl,cT,q06 (by simp[q07];omega),ih];simp
  .have ih:=qvn hN l hl hp a10 a12 a14 a16 suf (i+1) (q+1) (acc++[(stepM m p).2]) m (q01 h) (by grind) hm.up (by omega);simp only[if_neg h0];rw[q0d h0,cF,q06 (by simp[q07];omega),ih];simp
def qms(v w:Voter):Bool:=decide (∃x∈v.Confirms,∃y∈w.Confirms,Contra x y)
theorem y5a(l:LC)(hl:l.length<1152921504606846976)(x:Claim):∀(suf:LC)(i:Nat),l.drop i=suf->∃r:Int,z05 l ((l.length:Nat):Int) (i:Int) x.Topic x.Value=some (r,x.Topic,x.Value)/\leB 0 r=decide (∃y∈suf,Contra x y)
 |[],i,h=>by refine⟨-1,y5n _ _ _ _ _ _ ?_,by simp[leB]⟩;rw[q0c h];rfl|y::suf,i,h=>by
  have hlt:=q09 h;obtain⟨r,h1,h2⟩:=y5a l hl x suf (i+1) (q01 h);have hf:z6o y x.Topic x.Value=some (decide (Contra x y),x.Topic,x.Value):=yeg _ _ _ _ (by rw[show Claim.mk x.Topic x.Value=x from rfl,qnn];rfl);by_cases hc:Contra x y;·refine⟨i,y5n _ _ _ _ _ _ ?_,by simp[leB,hc]⟩;rw[q05 h,cT,q02 h,hf];simp[hc]
  .refine⟨r,y5n _ _ _ _ _ _ ?_,by rw[h2];simp[hc]⟩;rw[q05 h,cT,q02 h,hf,bS,q03 (by omega)];simp only[hc,decide_false,cF];exact h1
theorem yci(l:LC)(hl:l.length<1152921504606846976)(x:Claim):z0n l x.Topic x.Value=some (decide (∃y∈l,Contra x y),x.Topic,x.Value):=by obtain⟨r,h1,h2⟩:=y5a l hl x l 0 rfl;apply yd9;have h3:z0s l x.Topic x.Value=_:=yh4 _ _ _ _ h1;rw[h3,bS,h2]
theorem y2p(l:LC)(hl:l.length<1152921504606846976)(w:Voter)(hw:w.Confirms.length<1000000):∀(suf:LC)(i:Nat),l.drop i=suf->∃r:Int,z08 l ((l.length:Nat):Int) (i:Int) w.Node w.Seq w.Trust.Threshold w.Trust.Nodes w.Trust.Inner w.Votes w.Accepts w.Confirms w.Heard=some (r,w.Node,w.Seq,w.Trust.Threshold,w.Trust.Nodes,w.Trust.Inner,w.Votes,w.Accepts,w.Confirms,w.Heard)/\leB 0 r=decide (∃x∈suf,∃y∈w.Confirms,Contra x y)
 |[],i,h=>by refine⟨-1,y0g _ _ _ _ _ _ _ _ _ _ _ _ _ ?_,by simp[leB]⟩;rw[q0c h];rfl|x::suf,i,h=>by
  have hlt:=q09 h;obtain⟨r,h1,h2⟩:=y2p l hl w hw suf (i+1) (q01 h);have hf:z7v x w.Node w.Seq w.Trust.Threshold w.Trust.Nodes w.Trust.Inner w.Votes w.Accepts w.Confirms w.Heard=some (decide (∃y∈w.Confirms,Contra x y),w.Node,w.Seq,w.Trust.Threshold,w.Trust.Nodes,w.Trust.Inner,w.Votes,w.Accepts,w.Confirms,w.Heard):=by apply yfa;rw[yci _ (by omega) x];rfl
  by_cases hc:∃y∈w.Confirms,Contra x y
  .refine⟨i,y0g _ _ _ _ _ _ _ _ _ _ _ _ _ ?_,?_⟩;·rw[q05 h,cT,q02 h,hf,bS,decide_eq_true hc];rfl
   .rw[decide_eq_true ⟨x,List.mem_cons_self,hc⟩];simp[leB]
  .refine⟨r,y0g _ _ _ _ _ _ _ _ _ _ _ _ _ ?_,?_⟩;·rw[q05 h,cT,q02 h,hf,bS,decide_eq_false hc,q03 (by omega)];exact h1
   .rw[h2,decide_eq_decide];constructor;·rintro⟨z,hz,g⟩;exact⟨z,List.mem_cons_of_mem _ hz,g⟩
    .rintro⟨z,hz,g⟩;rcases List.mem_cons.1 hz with e|hz;·rw[e]at g;exact absurd g hc
     .exact⟨z,hz,g⟩
theorem y5k{v w:Voter}(hv:v.Confirms.length<1000000)(hw:w.Confirms.length<1000000):z8p v w=some (qms v w):=by obtain⟨r,h1,h2⟩:=y2p v.Confirms (by omega) w hw v.Confirms 0 rfl;apply ydx;have h3:=yij _ _ _ _ _ _ _ _ _ _ _ h1;have h4:z0p v.Confirms w.Node w.Seq w.Trust.Threshold w.Trust.Nodes w.Trust.Inner w.Votes w.Accepts w.Confirms w.Heard=_:=yia _ _ _ _ _ _ _ _ _ _ _ (by rw[h3,bS]);rw[h4,bS];exact congrArg some h2
def conIn(S:LV)(a:Nat):List Nat->Option (Int×Int×Bool)|[]=>none|b::r=>if qms (atV S a) (atV S b)=true then some ((a:Int),(b:Int),true)else conIn S a r
def qqi(S:LV)(w:List Nat):List Nat->Int×Int×Bool|[]=>(0,0,false)|a::r=>(conIn S a w).getD (qqi S w r)
theorem y4t{S:LV}(hS:∀v∈S,v.Confirms.length<1000000)(w:List Nat)(hw:w.length<=10)(hin:∀a∈w,a<S.length){a:Nat}(ha:a<S.length){a5:LI}{a7 a9 s z:Int}{R:Int×Int×Bool}(hR:z19 (w.map Int.ofNat) a5 a7 (addI .i64 a9 1) S s z=some R):∀(suf:List Nat)(i:Nat),w.drop i=suf->z1k (w.map Int.ofNat) (a:Int) a5 a7 a9 (w.map Int.ofNat) ((w.length:Nat):Int) (i:Int) S s z=some ((conIn S a suf).getD R)
 |[],i,h=>by apply yan;rw[q0c h,cF,hR];rfl|b::suf,i,h=>by
  have hlt:=q09 h;have h':(w.map Int.ofNat).drop i=(b:Int)::suf.map Int.ofNat:=by rw[<-List.map_drop,h];rfl
  have hb:b<S.length:=hin b (List.mem_of_mem_drop (i:=i) (by rw[h];simp));apply yan;rw[q04 (by omega),cT,q02 h',q0m (y:=atV S a) (by omega) (by rw[tN];exact q2b ha),q0m (y:=atV S b) (by omega) (by rw[tN];exact q2b hb),y5k (hS _ (List.mem_of_getElem? (q2b ha))) (hS _ (List.mem_of_getElem? (q2b hb))),bS];unfold conIn;cases hc:qms (atV S a) (atV S b)with|true=>rfl|false=>rw[cF,q03 (by omega),y4t hS w hw hin ha hR suf (i+1) (q01 h)];rw[if_neg (by simp)]
theorem y36{S:LV}(hS:∀v∈S,v.Confirms.length<1000000)(w:List Nat)(hw:w.length<=10)(hin:∀a∈w,a<S.length){s z:Int}:∀(suf:List Nat)(i:Nat),w.drop i=suf->z19 (w.map Int.ofNat) (w.map Int.ofNat) ((w.length:Nat):Int) (i:Int) S s z=some (qqi S w suf)
 |[],i,h=>by apply y8d;rw[q0c h];rfl|a::suf,i,h=>by
  have hlt:=q09 h;have h':(w.map Int.ofNat).drop i=(a:Int)::suf.map Int.ofNat:=by rw[<-List.map_drop,h];rfl
  have ha:a<S.length:=hin a (List.mem_of_mem_drop (i:=i) (by rw[h];simp));apply y8d;rw[q04 (by omega),cT,q02 h',List.length_map];exact y4t hS w hw hin ha (by rw[q03 (by omega)];exact y36 hS w hw hin suf (i+1) (q01 h)) w 0 rfl
end Go.Proofs.YtdmfjabikomgiaaGreat
namespace Go.Proofs.YtdmfjabikomgiaaGreat
open Go Go.Ab
end Go.Proofs.YtdmfjabikomgiaaGreat
namespace Go.Proofs.YtdmfjabikomgiaaGreat
open Go Go.Ab
end Go.Proofs.YtdmfjabikomgiaaGreat
namespace Go.Proofs.YtdmfjabikomgiaaGreat
open Go Go.Ab
section
variable {v w : Voter} {a b n n2 ai bi st il lc : Int} {S1 S2 S3 : LV} {C : LC}
theorem y1z(hw:w.Confirms.length<1000000){i:Int}(x:Claim){R:Int×Int×Bool}(hR:z1n a b S1 n ai S2 n2 bi C lc (addI .i64 i 1) S3 st il v.Node v.Seq v.Trust.Threshold v.Trust.Nodes v.Trust.Inner v.Votes v.Accepts v.Confirms v.Heard w.Node w.Seq w.Trust.Threshold w.Trust.Nodes w.Trust.Inner w.Votes w.Accepts w.Confirms w.Heard=some R):∀(suf:LC)(j:Nat),w.Confirms.drop j=suf->z24 a b S1 n ai S2 n2 bi C lc i w.Confirms ((w.Confirms.length:Nat):Int) (j:Int) S3 st il v.Node v.Seq v.Trust.Threshold v.Trust.Nodes v.Trust.Inner v.Votes v.Accepts v.Confirms v.Heard w.Node w.Seq w.Trust.Threshold w.Trust.Nodes w.Trust.Inner w.Votes w.Accepts w.Confirms w.Heard x.Topic x.Value=some (if∃y∈suf,Contra x y then(a,b,true)else R)
 |[],j,h=>by apply y8x;rw[q0c h,cF,hR,if_neg (by simp)]|y::suf,j,h=>by
  have hlt:=q09 h;apply y8x;rw[q05 h,cT,q02 h,show Claim.mk x.Topic x.Value=x from rfl,qbz,bS];by_cases hc:Contra x y;·simp_all
  .rw[decide_eq_false hc,cF,q03 (by omega),y1z hw x hR suf (j+1) (q01 h)];simp_all
theorem y28(hv:v.Confirms.length<1000000)(hw:w.Confirms.length<1000000){R:Int×Int×Bool}(hR:z11 a S1 n ai S2 n2 (addI .i64 bi 1) S3 st il v.Node v.Seq v.Trust.Threshold v.Trust.Nodes v.Trust.Inner v.Votes v.Accepts v.Confirms v.Heard=some R):∀(suf:LC)(j:Nat),v.Confirms.drop j=suf->z1n a b S1 n ai S2 n2 bi v.Confirms ((v.Confirms.length:Nat):Int) (j:Int) S3 st il v.Node v.Seq v.Trust.Threshold v.Trust.Nodes v.Trust.Inner v.Votes v.Accepts v.Confirms v.Heard w.Node w.Seq w.Trust.Threshold w.Trust.Nodes w.Trust.Inner w.Votes w.Accepts w.Confirms w.Heard=some (if∃x∈suf,∃y∈w.Confirms,Contra x y then(a,b,true)else R)
 |[],j,h=>by apply y88;rw[q0c h,cF,hR,if_neg (by simp)]|x::suf,j,h=>by
  have hlt:=q09 h;apply y88;rw[q05 h,cT,q02 h];refine Eq.trans (y1z hw x (by rw[q03 (by omega)];exact y28 hv hw hR suf (j+1) (q01 h)) w.Confirms 0 rfl) ?_;congr 1;by_cases hc:∃y∈w.Confirms,Contra x y;·simp_all
  .rw[if_neg hc];by_cases h1:∃z∈suf,∃y∈w.Confirms,Contra z y;·simp_all
   grind
end
def rIn(S:LV)(z a:Nat):List Nat->Option (Int×Int×Bool)|[]=>none|b::r=>if(!z.testBit a&&(!z.testBit b&&qms (atV S a) (atV S b)))=true then some ((a:Int),(b:Int),true)else rIn S z a r
def rOut(S:LV)(z:Nat):List Nat->Int×Int×Bool|[]=>(0,0,false)|a::r=>(rIn S z a (List.range' 0 S.length)).getD (rOut S z r)
theorem y0f{S:LV}(hl:S.length<=10)(hS:∀v∈S,v.Confirms.length<1000000){z:Nat}(hz:z<1024){a:Nat}(ha:a<S.length){ai st:Int}{R:Int×Int×Bool}(hR:z1m S ((S.length:Nat):Int) (addI .i64 ai 1) S st (z:Int)=some R):∀(k i:Nat),i+k=S.length->z11 (a:Int) S ((S.length:Nat):Int) ai S ((S.length:Nat):Int) (i:Int) S st (z:Int) (atV S a).Node (atV S a).Seq (atV S a).Trust.Threshold (atV S a).Trust.Nodes (atV S a).Trust.Inner (atV S a).Votes (atV S a).Accepts (atV S a).Confirms (atV S a).Heard=some ((rIn S z a (List.range' i k)).getD R)|0,i,h=>by apply y9m;rw[q00 (by omega),cF,hR];rfl|k+1,i,h=>by have ih:=y0f hl hS hz ha hR k (i+1) (by omega);have hv:=hS _ (List.mem_of_getElem? (q2b ha));have hw:=hS _ (List.mem_of_getElem? (q2b (S:=S) (b:=i) (by omega)));apply y9m;rw[q04 (by omega),cT,q0m (y:=atV S i) (by omega) (by rw[tN];exact q2b (by omega)),q1b hz,q76 (by omega),bS,q1b hz,q76 (by omega),q03 (by omega),ih,List.range'_succ];show _=some ((if(!z.testBit a&&(!z.testBit i&&qms (atV S a) (atV S i)))=true then some ((a:Int),(i:Int),true)else rIn S z a (List.range' (i+1) k)).getD R);cases z.testBit a with|true=>rfl|false=>rw[cF,bS];cases z.testBit i with|true=>rfl|false=>rw[cF];refine Eq.trans (y28 (a:=(a:Int)) (b:=(i:Int)) hv hw (R:=(rIn S z a (List.range' (i+1) k)).getD R) (by rw[q03 (by omega)];omega) (atV S a).Confirms 0 rfl) ?_;cases hc:qms (atV S a) (atV S i)with|true=>rw[if_pos (of_decide_eq_true hc),if_pos (by simp)];rfl|false=>rw[if_neg (of_decide_eq_false hc),if_neg (by simp)]
theorem y0z{S:LV}(hl:S.length<=10)(hS:∀v∈S,v.Confirms.length<1000000){z:Nat}(hz:z<1024){st:Int}:∀(k i:Nat),i+k=S.length->z1m S ((S.length:Nat):Int) (i:Int) S st (z:Int)=some (rOut S z (List.range' i k))|0,i,h=>by apply y96;rw[q00 (by omega),cF];rfl|k+1,i,h=>by apply y96;rw[q04 (by omega),cT,q0m (y:=atV S i) (by omega) (by rw[tN];exact q2b (by omega))];exact y0f hl hS hz (by omega) (by rw[q03 (by omega)];exact y0z hl hS hz k (i+1) (by omega)) S.length 0 (by omega)
end Go.Proofs.YtdmfjabikomgiaaGreat
namespace Go.Proofs.YtdmfjabikomgiaaGreat
open Go Go.Ab
end Go.Proofs.YtdmfjabikomgiaaGreat
namespace Go.Proofs.YtdmfjabikomgiaaGreat
open Go Go.Ab
variable {k : Nat} {m : Member}
def fillM(k:Nat)(m:Member):Member:=if m.Declared=true then m else⟨true,⟨1,[(k:Int)],[]⟩⟩
def q54(c:Config):Config:=⟨c.Members.mapIdx fillM⟩
theorem ql1{c:Config}(h:c.Members[k]?=some m):tr (q54 c) k=(fillM k m).Trust:=tr_at (by simp[q54,List.getElem?_mapIdx,h])
theorem qc8(c:Config):(q54 c).Members.length=c.Members.length:=by simp[q54]
theorem y63:∀k:Fin 10,valid ⟨1,[((k.val:Nat):Int)],[]⟩=true/\uses ⟨1,[((k.val:Nat):Int)],[]⟩=2^k.val:=by decide+kernel
theorem qpj{c:Config}(hc:ValidC c)(h:k<c.Members.length):valid (tr (q54 c) k)=true/\uses (tr (q54 c) k)<2^c.Members.length:=by
 have hget:c.Members[k]?=some c.Members[k]:=by simp
 have hm:=hc.2 _ (List.getElem_mem h);have hl:=hc.1;rw[ql1 hget];unfold fillM;unfold MemV at hm;split;·simp_all
 .obtain⟨h1,h2⟩:=y63 ⟨k,by omega⟩;refine⟨h1,?_⟩;rw[show uses _=_ from h2];exact Nat.pow_lt_pow_right (by decide) h
def qgy(c:Config)(ill:Int)(k r:Nat):Bool:=(List.range' k r).any fun i=>match c.Members[i]? with|some m=>!m.Declared&&!has ill.toNat (i:Int)|none=>false
theorem qlx{c:Config}{ill:Int}{r:Nat}(h:c.Members[k]?=some m):qgy c ill k (r+1)=((!m.Declared&&!has ill.toNat (k:Int))||qgy c ill (k+1) r):=by unfold qgy;grind
section
variable {c : Config} (hc : ValidC c) {ill : Int} (hi : 0 <= ill /\ ill < 1024) (a10 : LB) (a12 : LV) (a14 a16 a20 a22 : Int)
include hc in
theorem qlw(h:k<c.Members.length):ql9 (k:Int) (tr (q54 c) k)=(qax (q54 c) k,0)/\Small (tr (q54 c) k):=by
 obtain⟨hv,hu⟩:=qpj hc h;have hk:inR (k:Int)=true:=by have:=hc.1;simp[inR];omega
 exact⟨(qiz hk hv).1,q3j hv⟩
include hc hi in
theorem y37:∀(r k:Nat),k+r=c.Members.length->z2v ill c.Members ((c.Members.length:Nat):Int) (k:Int) a10 a12 a14 a16 ((List.range k).map (qax (q54 c))) a20 a22=some (if qgy c ill k r=true then(q1u,10)else(⟨q88 (q54 c),a20,a22⟩,0))
 |0,k,h=>by apply y9u;rw[q00 (by omega),cF,show qgy c ill k 0=false from rfl];rw[show q88 (q54 c)=(List.range k).map (qax (q54 c))by rw[q88,qc8,show c.Members.length=k by omega]];rfl|r+1,k,h=>by
  have hlt:k<c.Members.length:=by omega
  have hl:=hc.1;have hget:c.Members[k]?=some c.Members[k]:=by simp
  have ht:=ql1 hget;obtain⟨hs,hsm⟩:=qlw hc hlt;have ih:=y37 r (k+1) (by omega);rw[List.range_succ,List.map_append]at ih;obtain⟨z,rfl⟩:=Int.eq_ofNat_of_zero_le hi.1;apply y9u;rw[q04 (by omega),cT,q0m (y:=c.Members[k]) (by omega) (by simp),qlx hget,tN];unfold fillM at ht;cases hd:c.Members[k].Declared with|true=>rw[if_pos hd]at ht;rw[nT,cF,<-ht,qmm _ hsm,hs,bS,q0t,q06 (by simp[q07];omega),q03 (by omega),Bool.false_and,Bool.false_or];exact ih|false=>rw[if_neg (by simp[hd])]at ht;rw[Bool.not_false,cT,q1i (by omega),bS,tA'];cases hh:has z (k:Int)with|false=>rw[Bool.not_false,cT,Bool.true_or];rfl|true=>have ha:z8k (k:Int)=some ⟨1,[(k:Int)],[]⟩:=yf1 _ _ rfl;dsimp only at ht;rw[nT,cF,ha,bS,<-ht,qmm _ hsm,hs,bS,q0t,q06 (by simp[q07];omega),q03 (by omega),Bool.false_or];exact ih
include hc hi in
theorem qvz:∀(r k:Nat),k+r=c.Members.length->z4x ill c.Members ((c.Members.length:Nat):Int) (k:Int) a10 a12 a14 a16 ((List.range k).map (qax (q54 c))) a20 a22=some (if qgy c ill k r=true then(q1u,10)else(⟨q88 (q54 c),a20,a22⟩,0))
 |0,k,h=>by apply y8p;rw[q00 (by omega),cF,show qgy c ill k 0=false from rfl];rw[show q88 (q54 c)=(List.range k).map (qax (q54 c))by rw[q88,qc8,show c.Members.length=k by omega]];rfl|r+1,k,h=>by
  have hlt:k<c.Members.length:=by omega
  have hl:=hc.1;have hget:c.Members[k]?=some c.Members[k]:=by simp
  have ht:=ql1 hget;obtain⟨hs,hsm⟩:=qlw hc hlt;have ih:=qvz r (k+1) (by omega);rw[List.range_succ,List.map_append]at ih;obtain⟨z,rfl⟩:=Int.eq_ofNat_of_zero_le hi.1;apply y8p;rw[q04 (by omega),cT,q0m (y:=c.Members[k]) (by omega) (by simp),qlx hget,tN];unfold fillM at ht;cases hd:c.Members[k].Declared with|true=>rw[if_pos hd]at ht;rw[nT,cF,<-ht,qme _ hsm,hs,bS,q0t,q06 (by simp[q07];omega),q03 (by omega),Bool.false_and,Bool.false_or];exact ih|false=>rw[if_neg (by simp[hd])]at ht;rw[Bool.not_false,cT,q1b (by omega),bS,tA'];cases hh:has z (k:Int)with|false=>rw[Bool.not_false,cT,Bool.true_or];rfl|true=>dsimp only at ht;rw[nT,cF,<-ht,qme _ hsm,hs,bS,q0t,q06 (by simp[q07];omega),q03 (by omega),Bool.false_or];exact ih
end
noncomputable def q59(c:Config)(ill:Int):Meeting×Int:=if cerr c≠0 then(q1u,cerr c)else if c.Members.length=0 then(q1u,1)else if ill<0 then(q1u,1)else if((2^c.Members.length:Nat):Int)<=ill then(q1u,1)else if qgy c ill 0 c.Members.length=true then(q1u,10)else(⟨q88 (q54 c),0,ill⟩,0)
theorem qft{c:Config}(h:q31 c)(ill:Int):z60 c ill=some (q59 c ill):=by
 apply ygp;rw[y6v h,bS];unfold q59;by_cases h0:cerr c=0;case neg=>rw[q1c h0,cT,if_pos h0];rfl
 have hv:=qap.1 h0;have hl:=hv.1;have hpw:=qb4 hl;rw[h0,q0g,cF,if_neg (by simp)];by_cases h1:c.Members.length=0;case pos=>rw[show eqB ((c.Members.length:Nat):Int) 0=true by rw[h1];rfl,cT,if_pos h1];rfl
 rw[q0d (by omega),cF,if_neg h1];by_cases h2:ill<0;case pos=>rw[q04 h2,cT,if_pos h2];rfl
 rw[q00 (by omega),cF,if_neg h2,q0i (by omega),shlN hl];by_cases h3:((2^c.Members.length:Nat):Int)<=ill;case pos=>rw[q0s h3,cT,if_pos h3];rfl
 rw[q0v (by omega),cF,if_neg h3];exact y37 hv ⟨by omega,by omega⟩ _ _ _ _ _ _ c.Members.length 0 (by omega)
theorem qgn{c:Config}(h:q31 c)(ill:Int):z8e c ill=some (q59 c ill):=by
 apply yhf;rw[qny h,bS];unfold q59;by_cases h0:cerr c=0;case neg=>rw[q1c h0,cT,if_pos h0];rfl
 have hv:=qap.1 h0;have hl:=hv.1;have hpw:=qb4 hl;rw[h0,q0g,cF,if_neg (by simp)];by_cases h1:c.Members.length=0;case pos=>rw[show eqB ((c.Members.length:Nat):Int) 0=true by rw[h1];rfl,cT,if_pos h1];rfl
 rw[q0d (by omega),cF,if_neg h1];by_cases h2:ill<0;case pos=>rw[q04 h2,cT,if_pos h2];rfl
 rw[q00 (by omega),cF,if_neg h2,q0i (by omega),shlN hl];by_cases h3:((2^c.Members.length:Nat):Int)<=ill;case pos=>rw[q0s h3,cT,if_pos h3];rfl
 rw[q0v (by omega),cF,if_neg h3];exact qvz hv ⟨by omega,by omega⟩ _ _ _ _ _ _ c.Members.length 0 (by omega)
theorem q6v{c:Config}{ill:Int}(h:(q59 c ill).2=0):1<=c.Members.length/\c.Members.length<=10/\GoodMt c.Members.length 1 (q59 c ill).1:=by
 unfold q59 at h⊢;split at h;·omega
 rename_i h0;have hv:=qap.1 (Decidable.not_not.1 h0);have hl:=hv.1;split at h;·cases h
 split at h;·cases h
 split at h;·cases h
 split at h;·cases h
 rename_i h1 h2 h3 h4;rw[if_neg h0,if_neg h1,if_neg h2,if_neg h3,if_neg h4];exact⟨by omega,hl,y6z (by omega) hl (by rw[qn9,qc8]) ⟨by omega,by omega⟩ fun b hb=>⟨_,y17 (q54 c) (by rw[qc8];omega),qpj hv hb⟩⟩
theorem q49:SmallMt q1u:=⟨by simp[q1u],fun v hv=>by cases hv⟩
theorem qht{c:Config}{ill:Int}:SmallMt (q59 c ill).1:=by
 by_cases h:(q59 c ill).2=0;·obtain⟨_,h2,h3⟩:=q6v h;exact h3.small h2
 .have:(q59 c ill).1=q1u:=by unfold q59 at h⊢;grind
  rw[this];exact q49
noncomputable def runG(c:Config)(ill:Int)(l:LP):Meeting×LI×Int:=if(q59 c ill).2≠0 then(q1u,[],(q59 c ill).2)else if 400<l.length then(q1u,[],3)else((playM l (q59 c ill).1).1,(playM l (q59 c ill).1).2,0)
theorem qpd{c:Config}(h:q31 c)(ill:Int){l:LP}(hp:∀p∈l,SmallP p):z6j c ill l=some (runG c ill l):=by
 apply yfs;rw[qft h,bS];unfold runG;by_cases h0:(q59 c ill).2=0;case neg=>rw[q1c h0,cT,if_pos h0];rfl
 obtain⟨h1,h2,h3⟩:=q6v h0;rw[h0,q0g,cF,if_neg (by simp)];by_cases hl:400<l.length;case pos=>rw[q04 (by omega),cT,if_pos hl];rfl
 rw[q00 (by omega),cF,if_neg hl];exact qtc h2 l (by omega) hp _ _ _ _ l 0 1 [] _ rfl (Nat.le_refl _) h3 (by omega)
theorem qo5{c:Config}(h:q31 c)(ill:Int){l:LP}(hp:∀p∈l,SmallP p):z9f c ill l=some (runG c ill l):=by
 apply yel;rw[qgn h,bS];unfold runG;by_cases h0:(q59 c ill).2=0;case neg=>rw[q1c h0,cT,if_pos h0];rfl
 obtain⟨h1,h2,h3⟩:=q6v h0;rw[h0,q0g,cF,if_neg (by simp)];by_cases hl:400<l.length;case pos=>rw[q04 (by omega),cT,if_pos hl];rfl
 rw[q00 (by omega),cF,if_neg hl];exact qvn h2 l (by omega) hp _ _ _ _ l 0 1 [] _ rfl (Nat.le_refl _) h3 (by omega)
theorem qrx{c:Config}{ill:Int}{l:LP}(hl:l.length<=400)(h:(runG c ill l).2.2=0):1<=c.Members.length/\c.Members.length<=10/\GoodMt c.Members.length (1+l.length) (runG c ill l).1:=by
 unfold runG at h⊢;split at h;·simp_all
 rename_i h0;obtain⟨h1,h2,h3⟩:=q6v (Decidable.not_not.1 h0);rw[if_neg h0,if_neg (by omega)];exact⟨h1,h2,qs1 h2 l 1 _ h3 (by omega)⟩
theorem qlv{c:Config}{ill:Int}{l:LP}:SmallMt (runG c ill l).1:=by
 by_cases h:(runG c ill l).2.2=0
 .by_cases hl:l.length<=400;·obtain⟨_,h2,h3⟩:=qrx hl h;exact h3.small h2
  .unfold runG at h;grind
 .have:(runG c ill l).1=q1u:=by unfold runG at h⊢;grind
  rw[this];exact q49
theorem qju:law20_awake=some true:=by
 have hb:q59 c3 4=(⟨[a0,b0,d0],0,4⟩,0):=by unfold q59;rw[if_neg (by decide+kernel),if_neg (by decide),if_neg (by decide),if_neg (by decide),if_neg (by decide)];rfl
 have hr:=qpd (ValidC.small (qap.1 (by decide+kernel))) 4 (c:=c3) (l:=p3) (fun p hp=>by simp only[p3,List.mem_cons,List.not_mem_nil,or_false]at hp;rcases hp with rfl|rfl|rfl|rfl|rfl|rfl<;>exact⟨qf0,ql5⟩);unfold runG at hr;rw[hb,if_neg (by simp),if_neg (by decide),ycr]at hr;apply law20_awake_le;have h3:law20_three=some c3:=law20_three_le _ rfl;have hr':z6j c3 4 p3=some (⟨[a2,b3,d0],0,4⟩,[0,0,0,0,0,9],0):=hr;rw[h3,bS];show(z6j c3 4 p3).bind _=_;rw[hr',bS];have q1:z38 [x3] x3=some true:=by rw[qa0 _ (by decide)];rfl
 show((z38 [x3] x3).bind fun r=>bif r then(z38 [x3] x3).bind fun z=>some z else some false)=some true;grind
theorem qmn(a b:Meeting)(hl:a.Voters.length<1000000)(hk:a.Voters.length=b.Voters.length)(hs:∀v∈a.Voters,SmallV v):∀(suf suk:LV)(i:Nat),a.Voters.drop i=suf->b.Voters.drop i=suk->∃r,z00 b.Voters a.Voters ((a.Voters.length:Nat):Int) (i:Int)=some r/\(r=true↔suf=suk)
 |[],suk,i,h,h'=>by
  have:suk=[]:=by rw[<-h',List.drop_eq_nil_iff,<-hk];simp_all
  subst this;refine⟨true,y35 _ _ _ _ _ ?_,by simp⟩;rw[q0c h];rfl|y::suf,[],i,h,h'=>by have:=q09 h;have:=List.drop_eq_nil_iff.1 h';omega|y::suf,z::suk,i,h,h'=>by have hlt:=q09 h;have hy:=hs y (List.mem_of_mem_drop (i:=i) (by simp_all));obtain⟨r,g1,g2⟩:=qmn a b hl hk hs suf suk (i+1) (q01 h) (q01 h');have hv:=qsx (a:=y) (b:=z);cases he:sameV y z with|true=>refine⟨r,y35 _ _ _ _ _ ?_,by rw[g2,hv.1 he];simp⟩;rw[q05 h,cT,q02 h,q02 h',qpy hy,bS,he,nT,cF,q03 (by omega)];omega|false=>
   refine⟨false,y35 _ _ _ _ _ ?_,?_⟩;·rw[q05 h,cT,q02 h,q02 h',qpy hy,bS,he];rfl
   simp_all
theorem qym{a:Meeting}(h:SmallMt a)(b:Meeting):∃r,z4i a b=some r/\(r=true↔a=b):=by
 have key:∀r:Bool,a=b↔a.Voters=b.Voters/\a.Stopped=b.Stopped/\a.Ill=b.Ill:=fun _=>by cases a;cases b;simp
 by_cases h1:a.Stopped=b.Stopped;case neg=>exact⟨false,qwz _ _ _ (by rw[q0d h1];rfl),by simp;rintro rfl;exact h1 rfl⟩
 by_cases h2:a.Ill=b.Ill;case neg=>exact⟨false,qwz _ _ _ (by rw[h1,q0e,cT,q0d h2];rfl),by simp;rintro rfl;exact h2 rfl⟩
 by_cases h3:a.Voters.length=b.Voters.length;case neg=>exact⟨false,qwz _ _ _ (by have:z0b a.Voters b.Voters=some false:=yar _ _ _ (by rw[q1c (by omega)];rfl);rw[h1,q0e,cT,h2,q0e,cT,this];rfl),by simp;rintro rfl;exact h3 rfl⟩
 obtain⟨r,g1,g2⟩:=qmn a b h.len h3 h.voters a.Voters b.Voters 0 rfl rfl;have:z0b a.Voters b.Voters=some r:=yar _ _ _ (by rw[show neB ((a.Voters.length:Nat):Int) ((b.Voters.length:Nat):Int)=false by rw[h3];exact q0g _,cF];exact g1);refine⟨r,qwz _ _ _ ?_,?_⟩;·rw[show eqB a.Stopped b.Stopped=true by rw[h1];exact q0e _,cT,show eqB a.Ill b.Ill=true by rw[h2];exact q0e _,cT,this];rfl
 simp_all
theorem y0q{a:Meeting}(h:SmallMt a)(b:Meeting):∃r,z4i a b=some r/\z1z a b=some r:=by obtain⟨r,h1,h2⟩:=qym h b;obtain⟨s,h3,h4⟩:=qg3 h b;grind
theorem qaa{a:Meeting}(h:SmallMt a):z1z a a=some true:=by obtain⟨s,h3,h4⟩:=qg3 h a;simp_all
theorem qz7{b u:Voter}(h:Ready u):FreshA (turnV b u):=by obtain⟨s,_,h4,_⟩:=q4d b u;have hf:=h.settle.freshA;rw[h4];exact⟨hf.tr,hf.votes,hf.accs,hf.confs,hf.heard,hf.msgs⟩
theorem qnj{m:Meeting}{p:Play}(h:(stepM m p).2=0):(stepM m p).1.Voters.length<=10/\(∀v∈(stepM m p).1.Voters,FreshA v)/\∀v∈(stepM m p).1.Voters,SmallV v:=by
 obtain⟨ha,w,e,hw⟩:=q85 h;obtain⟨hv,_⟩:=q3p ha;have h2:=(q10.1 hv).1.2.1;have hvs:=q1v.1 (q10.1 hv).2;have hr:∀i,i<m.Voters.length->Ready (atV m.Voters i):=fun i hi=>(q14.1 (hvs i hi).2.1).1;have hmem:∀v∈m.Voters,Ready v:=fun v hv=>by obtain⟨i,hi⟩:=List.getElem?_of_mem hv;have hlt:i<m.Voters.length:=(List.getElem?_eq_some_iff.1 hi).1;rw[q2b hlt]at hi;grind
 have hwho:=y4w ha;have key:FreshA w/\SmallV w:=by
  rcases hw with⟨rfl,_⟩|⟨u,hm,rfl⟩;·exact⟨(hr _ hwho).freshA,(hr _ hwho).small⟩
  .have hu:=(qx7 ha hm).ready;exact⟨qz7 hu,qzs hu⟩
 rw[e];refine⟨by simp_all,fun v hv=>?_,fun v hv=>?_⟩
 .rcases List.mem_or_eq_of_mem_set hv with g|g;·exact(hmem v g).freshA
  simp_all
 .rcases List.mem_or_eq_of_mem_set hv with g|g;·exact(hmem v g).small
  simp_all
theorem qmd{m:Meeting}{p:Play}(h:(stepM m p).2≠0):(stepM m p).1=q1u:=by unfold stepM at h⊢;grind
theorem qzj(m:Meeting)(p:Play):SmallMt (stepM m p).1:=by
 by_cases h:(stepM m p).2=0;·obtain⟨h1,_,h3⟩:=qnj h;exact⟨by omega,h3⟩
 .rw[qmd h];exact q49
theorem y7y{m:Meeting}(h:SmallMt m){p:Play}(hp:SmallP p):z93 m p=some (stepM m p):=by
 apply yhk;rw[qop h hp,bS];have:z3v (stepM m p).1=some (stepM m p).1:=by
  by_cases h0:(stepM m p).2=0;·obtain⟨h1,h2,_⟩:=qnj h0;exact qkh (by omega) h2
  .rw[qmd h0];exact qkh (by simp[q1u]) fun v hv=>by cases hv
 simp_all
end Go.Proofs.YtdmfjabikomgiaaGreat
namespace Go.Proofs.YtdmfjabikomgiaaGreat
open Go Go.Ab Go.RowKit Go.Sort Go.Shelf Go.Lib
set_option maxRecDepth 100000 in
theorem y65(x:Int)(W:World):Calls Tryz.prog 230 #[.int .i64 x] W fun e w'=>e=.returned (.bool false)/\w'=W:=by go_enter Tryz.func230,Tryz.ntmps230;go_wp2;go_ret;exact⟨by simp,rfl⟩
def sgnI(x y:Int):Int:=if x<y then-1 else if y<x then 1 else 0
set_option maxRecDepth 100000 in
theorem qxo(x y:Int)(W:World):Calls Tryz.prog 205 #[.int .i64 x,.int .i64 y] W fun e w'=>e=.returned (.int .i64 (sgnI x y))/\w'=W:=by
 have hn:=y65;unfold sgnI;go_enter Tryz.func205,Tryz.ntmps205;go_wp2_with(go_at_call 230;refine(hn _ _).mono ?_;rintro e w'⟨rfl,rfl⟩);all_goals go_ret
 all_goals exact⟨rfl,rfl⟩
def orSgn(x y:Int):Int:=if x=0 then y else x
set_option maxRecDepth 100000 in
theorem qmy(x y:Int)(b:Nat)(W:World)(c0:W.cell? ⟨b,0,none⟩=some (.int .i64 x))(c1:W.cell? ⟨b,1,none⟩=some (.int .i64 y)):Calls Tryz.prog 219 #[.slice (some ⟨b,0,none⟩) 2 2] W fun e w'=>e=.returned (.int .i64 (orSgn x y))/\w'=W:=by
 go_enter Tryz.func219,Tryz.ntmps219;go_wp2;refine wp_loop_rounds 3 ?_;rw[rounds_succ];go_wp2
 .go_ret;rename_i h;have:x≠0:=by simpa using h
  exact⟨by simp[orSgn,this],rfl⟩
 .rw[rounds_succ];rename_i h;have hx:x=0:=by simpa using h
  subst hx;go_wp2;·go_ret;exact⟨by simp[orSgn],rfl⟩
  .rw[rounds_succ];rename_i h;have hy:y=0:=by simpa using h
   subst hy;go_wp2;go_ret;exact⟨by simp[orSgn],rfl⟩
set_option maxRecDepth 100000 in
theorem y3z(x y:Int×Int)(W:World):Calls Tryz.prog 190 #[.agg #[.int .i64 x.1,.int .i64 x.2],.agg #[.int .i64 y.1,.int .i64 y.2]] W fun e w'=>e=.returned (.int .i64 (orSgn (sgnI x.1 y.1) (sgnI x.2 y.2)))/\∃q os',w'=grow (W.drewN q) os':=by
 have hc:=qxo;have ho:=qmy;generalize hW1:W.alloc (.cells #[.int .i64 x.1,.int .i64 x.2] 66)=W1 at*;generalize hW2:W1.alloc (.cells #[.int .i64 y.1,.int .i64 y.2] 66)=W2 at*;have b1:W2.heap[W.heap.size]?=some (.cells #[.int .i64 x.1,.int .i64 x.2] 66 (0,0)):=by rw[<-hW2,heap_alloc_old W1 _ (by rw[<-hW1];simp),<-hW1];exact heap_alloc_new W _
 have b2:W2.heap[W1.heap.size]?=some (.cells #[.int .i64 y.1,.int .i64 y.2] 66 (0,0)):=by rw[<-hW2];exact heap_alloc_new W1 _
 have k0:=cell_of_row W2 _ 0 _ _ _ b1;have k1:=cell_of_row W2 _ 1 _ _ _ b1;have k2:=cell_of_row W2 _ 0 _ _ _ b2;have k3:=cell_of_row W2 _ 1 _ _ _ b2;simp only[List.size_toArray,List.length_cons,List.length_nil,Nat.zero_add,Nat.reduceAdd,Nat.reduceLT,getElem?_pos,List.getElem_toArray,List.getElem_cons_zero,List.getElem_cons_succ]at k0 k1 k2 k3;clear b1 b2;clear hc ho;have hc:=qxo;have ho:=qmy;go_enter Tryz.func190,Tryz.ntmps190;go_wp2;go_region_held3(fun w'=>w'.cell? ⟨W.heap.size,0,none⟩=some (.int .i64 x.1)/\w'.cell? ⟨W.heap.size,1,none⟩=some (.int .i64 x.2)/\w'.cell? ⟨W1.heap.size,0,none⟩=some (.int .i64 y.1)/\w'.cell? ⟨W1.heap.size,1,none⟩=some (.int .i64 y.2))(go_keep)(first|(go_at_call 205;refine(hc _ _ _).mono ?_;rintro e w'⟨rfl,rfl⟩)|(go_at_call 219;refine(ho (sgnI x.1 y.1) (sgnI x.2 y.2) _ _ (cell_of_row _ _ 0 _ _ _ (heap_alloc_new _ _)) (cell_of_row _ _ 1 _ _ _ (heap_alloc_new _ _))).mono ?_;rintro e w'⟨rfl,rfl⟩));all_goals go_wp2
 go_ret;subst hW2;subst hW1;exact⟨rfl,1,_,by rw[alloc_eq_grow,alloc_eq_grow,alloc_eq_grow,grow_grow,grow_grow];rfl⟩
theorem qt7{E:Env0}{X:Cx}{w w':World}{xs ds:List D}{b cap sz:Nat}{cur':Array Value}{e:TypeId}(h:HRel E X [[.own xs false]] w)(hu:X.mu[0]?=some (.head (.slice (some ⟨b,0,none⟩) ds.length cap)))(hG:X.G b=some (.cell 0 0,0))(hg:w.grownBy w' (some b))(hb:w'.heap[b]?=some (.cells cur' e (0,0)))(hs:∀x∈ds,x.cells.length=sz)(hz:0<sz)(hne:ds≠[])(hsz:cur'.size=cap*sz)(hcap:ds.length<=cap)(hml:cap<=maxLen)(hc:∀(i:Nat)x,ds[i]?=some x->∀(j:Nat)c,x.cells[j]?=some c->∃u,cur'[i*sz+j]?=some u/\Rep w X.imm c u):∃X1,(∃more,X1.mu=X.mu++more)/\Ext X w X1 w'/\HRel E X1 [[.own ds false]] w'/\ResRel w' X1 (.tup []) (.tuple #[]):=by
 have hE:Ext X w X w':=by
  refine⟨rfl,hg.size,hg.os,hg.tape,hg.output,fun c hc hn=>⟨hn,hg.block c hc fun e=>?_⟩,fun c l k hk=>⟨fun l' k' e=>?_,fun o ho=>?_⟩⟩;·simp_all
  .simp_all
  .by_cases hcb:c=b;·grind
   .exact cell?_of_heap (hg.block c (h.gdom c l k hk) fun e=>by simp_all) o
 refine⟨X,⟨[],by simp⟩,hE,⟨fun t=>trivial,fun t ht=>by obtain⟨v,hv,hne⟩:=ht;exact absurd hv.symm hne,h.mu,fun o cs hcs=>?_,fun b l k e=>Nat.lt_of_lt_of_le (h.gdom b l k e) hg.size,fun b o hb=>h.amb b o (Nat.le_trans hg.size hb),h.oamb,fun g cs hgl j c hj=>?_,rfl⟩,.inl ⟨⟨rfl,rfl,(fun _ e=>by cases e),⟨#[],rfl,rfl,fun j c hj=>by grind⟩⟩,rfl⟩⟩;·cases o with|zero=>simp at hcs;subst hcs;refine .inr ⟨_,_,hu,rfl,.inr (.inr ⟨b,cap,cur',e,sz,rfl,hG,hb,hs,hz,hne,hsz,hcap,hml,fun i x hx j c hj=>?_⟩)⟩;obtain⟨u,hu,hr⟩:=hc i x hx j c hj;exact⟨u,hu,hE.rep hr⟩|succ o=>simp_all
 .obtain⟨u,h1,h2,h3⟩:=h.glob g cs hgl j c hj;exact⟨u,(hE.point h1 h2).1,(hE.point h1 h2).2,hE.rep h3⟩
def encZ(p:Int×Int):List Value:=[.int .i64 p.1,.int .i64 p.2]
def cmpZ(x y:Int×Int):Int:=orSgn (sgnI x.1 y.1) (sgnI x.2 y.2)
theorem qke(x y:Int×Int):ltOf cmpZ x y=q5c x y:=by
 have h:ltOf cmpZ x y=true↔q5c x y=true:=by by_cases a:x.1<y.1<;>by_cases b:y.1<x.1<;>by_cases c:x.2<y.2<;>by_cases d:y.2<x.2<;>simp[ltOf,cmpZ,orSgn,sgnI,q5c,a,b,c,d]<;>omega
 cases h1:ltOf cmpZ x y<;>cases h2:q5c x y<;>simp_all
theorem swoZ:SWO (ltOf cmpZ):=by refine⟨fun x=>?_,fun x y z h h'=>?_,fun x y z h h'=>?_⟩<;>simp only[qke,q5c,Bool.or_eq_true,aT,dT,Bool.or_eq_false_iff,Bool.and_eq_false_iff,decide_eq_false_iff_not]at*<;>omega
theorem partZ(x y:Int×Int)(h:ltOf cmpZ x y=false)(h':ltOf cmpZ y x=false):x=y:=by simp only[qke,q5c,Bool.or_eq_false_iff,Bool.and_eq_false_iff,decide_eq_false_iff_not]at*;grind
def y12:Go.Shelf.Ren:=⟨fun|6=>253|15=>267|14=>266|28=>278|29=>279|20=>270|21=>271|22=>272|23=>273|24=>274|25=>275|26=>276|27=>277|46=>280|47=>281|48=>282|49=>283|50=>284|57=>285|n=>n,fun|22=>51|24=>66|25=>177|3=>3|39=>199|0=>0|53=>219|55=>221|4=>4|46=>225|45=>224|50=>187|5=>5|9=>9|66=>230|70=>234|76=>236|77=>153|n=>n,fun|n=>n⟩
theorem sortL:Go.Proofs.SlLaysF0.n6 Tryz.prog y12:={
 mixed:=by rfl
 f6:=⟨("slices.SortFunc[[]trustquorum/api.Claim,trustquorum/api.Claim]"),by rfl,Tryz.func253.trans (congrArg some (by rfl))⟩
 f14:=⟨("slices.pdqsortCmpFunc[trustquorum/api.Claim]"),by rfl,Tryz.func266.trans (congrArg some (by rfl))⟩
 f15:=Tryz.func267.trans (congrArg some (by rfl))
 f20:=⟨("slices.insertionSortCmpFunc[trustquorum/api.Claim]"),by rfl,Tryz.func270.trans (congrArg some (by rfl))⟩
 f21:=⟨("slices.heapSortCmpFunc[trustquorum/api.Claim]"),by rfl,Tryz.func271.trans (congrArg some (by rfl))⟩
 f22:=⟨("slices.breakPatternsCmpFunc[trustquorum/api.Claim]"),by rfl,Tryz.func272.trans (congrArg some (by rfl))⟩
 f23:=⟨("slices.choosePivotCmpFunc[trustquorum/api.Claim]"),by rfl,Tryz.func273.trans (congrArg some (by rfl))⟩
 f24:=⟨("slices.reverseRangeCmpFunc[trustquorum/api.Claim]"),by rfl,Tryz.func274.trans (congrArg some (by rfl))⟩
 f25:=⟨("slices.partialInsertionSortCmpFunc[trustquorum/api.Claim]"),by rfl,Tryz.func275.trans (congrArg some (by rfl))⟩
 f26:=⟨("slices.partitionEqualCmpFunc[trustquorum/api.Claim]"),by rfl,Tryz.func276.trans (congrArg some (by rfl))⟩
 f27:=⟨("slices.partitionCmpFunc[trustquorum/api.Claim]"),by rfl,Tryz.func277.trans (congrArg some (by rfl))⟩
 f28:=Tryz.func278.trans (congrArg some (by rfl))
 f29:=Tryz.func279.trans (congrArg some (by rfl))
 f46:=⟨("slices.siftDownCmpFunc[trustquorum/api.Claim]"),by rfl,Tryz.func280.trans (congrArg some (by rfl))⟩
 f47:=Tryz.func281.trans (congrArg some (by rfl))
 f48:=Tryz.func282.trans (congrArg some (by rfl))
 f49:=⟨("slices.medianAdjacentCmpFunc[trustquorum/api.Claim]"),by rfl,Tryz.func283.trans (congrArg some (by rfl))⟩
 f50:=⟨("slices.medianCmpFunc[trustquorum/api.Claim]"),by rfl,Tryz.func284.trans (congrArg some (by rfl))⟩
 f57:=⟨("slices.order2CmpFunc[trustquorum/api.Claim]"),by rfl,Tryz.func285.trans (congrArg some (by rfl))⟩
 t0:=Tryz.underlying0
 a0:=Tryz.isAgg0
 z0:=Tryz.sizeOf0
 v0:=Tryz.zeroValue0
 t3:=Tryz.underlying3
 a3:=Tryz.isAgg3
 z3:=Tryz.sizeOf3
 v3:=Tryz.zeroValue3
 t4:=Tryz.underlying4
 a4:=Tryz.isAgg4
 z4:=Tryz.sizeOf4
 v4:=Tryz.zeroValue4
 t5:=Tryz.underlying5
 a5:=Tryz.isAgg5
 z5:=Tryz.sizeOf5
 v5:=Tryz.zeroValue5
 t9:=Tryz.underlying9
 a9:=Tryz.isAgg9
 z9:=Tryz.sizeOf9
 v9:=Tryz.zeroValue9
 t22:=Tryz.underlying51
 a22:=Tryz.isAgg51
 z22:=Tryz.sizeOf51
 v22:=Tryz.zeroValue51
 t25:=Tryz.underlying177
 a25:=Tryz.isAgg177
 z25:=Tryz.sizeOf177
 v25:=Tryz.zeroValue177
 t39:=Tryz.underlying199
 a39:=Tryz.isAgg199
 z39:=Tryz.sizeOf199
 v39:=Tryz.zeroValue199
 t45:=Tryz.underlying224
 a45:=Tryz.isAgg224
 z45:=Tryz.sizeOf224
 v45:=Tryz.zeroValue224
 t46:=Tryz.underlying225
 a46:=Tryz.isAgg225
 z46:=Tryz.sizeOf225
 v46:=Tryz.zeroValue225
 t50:=Tryz.underlying187
 a50:=Tryz.isAgg187
 z50:=Tryz.sizeOf187
 v50:=Tryz.zeroValue187
 t53:=Tryz.underlying219
 a53:=Tryz.isAgg219
 z53:=Tryz.sizeOf219
 v53:=Tryz.zeroValue219
 t55:=Tryz.underlying221
 a55:=Tryz.isAgg221
 z55:=Tryz.sizeOf221
 v55:=Tryz.zeroValue221
 t66:=Tryz.underlying230
 a66:=Tryz.isAgg230
 z66:=Tryz.sizeOf230
 v66:=Tryz.zeroValue230
 t70:=Tryz.underlying234
 a70:=Tryz.isAgg234
 z70:=Tryz.sizeOf234
 v70:=Tryz.zeroValue234
 t76:=Tryz.underlying236
 a76:=Tryz.isAgg236
 z76:=Tryz.sizeOf236
 v76:=Tryz.zeroValue236
 t77:=Tryz.underlying153
 a77:=Tryz.isAgg153
 z77:=Tryz.sizeOf153
 v77:=Tryz.zeroValue153}
theorem qvc{w:World}{b n:Nat}{cur:Array Value}{e:TypeId}{d:Array (Int×Int)}{os:Array Obj}(hw:w.heap[b]?=some (.cells cur e (0,0))):(sortWorldK encZ 2 w b 0 n d os).heap[b]?=some (.cells (Go.Sort.putCells id 0 (Go.Sort.flatK encZ 2 d) cur) e (0,0))/\w.grownBy (sortWorldK encZ 2 w b 0 n d os) (some b):=by
 have hb:b<w.heap.size:=(Array.getElem?_eq_some_iff.1 hw).1;have hs:(Go.Sort.putRowK encZ 2 (Go.Sort.ahead w n) b 0 d).heap.size=w.heap.size:=by simp[Go.Sort.putRowK]
 refine⟨?_,⟨rfl,rfl,rfl,?_,fun k hk hne=>?_⟩⟩;·rw[sortWorldK,Go.Sort.heap_grow_old _ _ (by omega)];simp[Go.Sort.putRowK,Go.Sort.putRow,Go.Sort.mapBlock,hw,Go.Sort.onCells,Array.getElem?_modify]
 .rw[sortWorldK,Go.Sort.size_grow,hs];omega
 .rw[sortWorldK,Go.Sort.heap_grow_old _ _ (by omega)];have:b≠k:=fun e=>hne (by rw[e]);simp[Go.Sort.putRowK,Go.Sort.putRow,Go.Sort.mapBlock,Array.getElem?_modify,this]
theorem y7u:LibOk env 253 (qbt 190):=by
 intro vs hp v hp' hm X w args hH hA;unfold qbt at hm;split at hm
 .rename_i g' xs;split at hm
  .rename_i l hl;split at hm
   .rename_i hcnd;obtain⟨rfl,hlen⟩:=hcnd;simp only[sI,pI]at hm;obtain⟨rfl,rfl⟩:=hm;obtain⟨rfl,_⟩:=qai hl;obtain⟨hmu,hown⟩:=qiw hH (hA.2 0 _ rfl).2;obtain⟨cb,hv1,hcb,_⟩:=(hA.2 1 _ rfl).2;have hcb0:cb=#[]:=Array.eq_empty_of_size_eq_zero hcb;have ha:args=#[args.getD 0 undef,.func (.func 190) #[] #[]]:=by
     have hs:args.size=2:=hA.1;subst hcb0;rw[<-hv1];apply Array.ext;·exact hs
     .intro i h1 h2;rw[hs]at h1;rcases(by omega:i=0\/i=1)with rfl|rfl<;>simp[Array.getD_eq_getD_getElem?,hs]
    rw[ha];generalize args.getD 0 undef=u at hmu hown;rcases hown with⟨h0,a,rfl⟩|⟨h0,_⟩|⟨b,cap,cur,e,sz,rfl,hg,hw,hs,hz,hne,hsz,hcap,hmax,hcells⟩
    .have:l=[]:=by simpa using h0
     subst this;refine(AnyF.slices_SortFunc_none sortL a 0 _ w).mono ?_;rintro e w1⟨rfl,rfl⟩;refine⟨_,rfl,X,⟨[],by simp⟩,Ext.refl X _,by simpa using hH,.inl ⟨⟨rfl,rfl,(fun _ e=>by cases e),⟨#[],rfl,rfl,fun j c hj=>by cases hj⟩⟩,rfl⟩⟩
    .cases h0
    .have hsz2:sz=2:=by obtain⟨x,hx⟩:=List.exists_mem_of_ne_nil _ hne;obtain⟨p,_,rfl⟩:=List.mem_map.1 hx;rw[<-hs _ hx];rfl
     subst hsz2;rw[List.length_map]at*;simp only[fT,if_false]at hg;have hbs:b<w.heap.size:=(Array.getElem?_eq_some_iff.1 hw).1;have hcell:∀j p,l[j]?=some p->cur[j*2]?=some (.int .i64 p.1)/\cur[j*2+1]?=some (.int .i64 p.2):=fun j p hj=>by
      have hj':(l.map fun p:Int×Int=>D.agg [.v (.int .i64 p.1),.v (.int .i64 p.2)])[j]?=some (.agg [.v (.int .i64 p.1),.v (.int .i64 p.2)]):=by rw[List.getElem?_map,hj];rfl
      obtain⟨u0,k0,r0⟩:=hcells j _ hj' 0 _ rfl;obtain⟨u1,k1,r1⟩:=hcells j _ hj' 1 _ rfl;rw[q0y r0]at k0;rw[q0y r1]at k1;exact⟨k0,k1⟩
     have hH0:HoldsK encZ 2 w b 0 l.toArray:=fun j hj=>by
      refine⟨?_,frozen_of_row w b _ cur e hw⟩;have hj2:j<l.length*2:=by simpa[size_flatK]using hj
      rw[get_flatK _ _ _ _ (by simpa using hj2),Nat.zero_add,cell_of_row w b j cur e (0,0) hw];have hj3:j/2<l.length:=by omega
      obtain⟨k0,k1⟩:=hcell (j/2) l[j/2] (by simp[hj3]);have e3:l.toArray[j/2]! =l[j/2]:=by rw[getElem!_pos _ _ (by simpa using hj3)];simp
      rw[e3];rcases(by omega:j%2=0\/j%2=1)with h|h;·rw[show j/2*2=j by omega]at k0;rw[h];simpa[encZ]using k0
      .rw[show j/2*2+1=j by omega]at k1;rw[h];simpa[encZ]using k1
     have hcon:=AnyQ.slices_SortFunc_total sortL 2 Tryz.isAgg66 Tryz.sizeOf66 encZ (fun _=>rfl) (fun x v hv=>by simp[encZ]at hv;rcases hv with rfl|rfl<;>rfl) cmpZ swoZ 190 #[] b 0 cap l.toArray w (enters_of Tryz.func190 (by kernel_rfl) rfl) (fun _ _ _ _ x y=>y3z x y _) hH0 hbs (by simp;unfold q07 at hlen;omega) partZ;rw[List.size_toArray]at hcon;refine Calls.mono hcon ?_;rintro e1 w1⟨rfl,n,os,rfl⟩;have hS:(l.mergeSort fun x y=>!ltOf cmpZ y x)=l.mergeSort fun x y=>!q5c y x:=by congr 1;funext x y;rw[qke]
     rw[hS];generalize hL:(l.mergeSort fun x y=>!q5c y x)=L;have hLl:L.length=l.length:=by rw[<-hL,List.length_mergeSort]
     obtain⟨hb',hgr⟩:=qvc (n:=n) (d:=L.toArray) (os:=os) hw;have hH1:HoldsK encZ 2 (sortWorldK encZ 2 w b 0 n L.toArray os) b 0 L.toArray:=holdsK_grow encZ 2 _ os b 0 _ (by simp[putRowK];exact hbs) (holdsK_putRowK encZ 2 (Go.Sort.ahead w n) b 0 _ _ (holdsK_ahead encZ 2 w n b 0 _ hH0) (by simp[hLl]));have hlm:(L.map twoD).length=l.length:=by rw[List.length_map,hLl]
     refine⟨_,rfl,qt7 (sz:=2) hH (by rw[hlm];exact hmu) hg hgr hb' (fun x hx=>by obtain⟨p,_,rfl⟩:=List.mem_map.1 hx;rfl) (by decide) (fun e=>hne (by rw[List.map_eq_nil_iff]at e⊢;exact List.length_eq_zero_iff.1 (by rw[<-hLl,e];rfl))) (by simpa[putCells]using hsz) (by rw[hlm];exact hcap) hmax fun i x hx j c hj=>?_⟩;rw[List.getElem?_map,Option.map_eq_some_iff]at hx;obtain⟨p,hp,rfl⟩:=hx;have hi:i<L.length:=(List.getElem?_eq_some_iff.1 hp).1;have hj2:j<2:=(List.getElem?_eq_some_iff.1 hj).1;have hcc:=(HoldsK.cell hH1 (i:=i) (c:=j) (by simpa using hi) hj2).1;rw[cell_of_row _ _ _ _ _ _ hb',Nat.zero_add]at hcc;have e3:L.toArray[i]! =p:=by rw[getElem!_pos _ _ (by simpa using hi)];simpa using(List.getElem?_eq_some_iff.1 hp).2
     rw[e3]at hcc;refine⟨_,hcc,?_⟩;rcases(by omega:j=0\/j=1)with rfl|rfl;·simp[twoD,D.cells]at hj;subst hj;exact .v _ rfl
     .simp[twoD,D.cells]at hj;subst hj;exact .v _ rfl
   .cases hm
  .cases hm
 simp_all
end Go.Proofs.YtdmfjabikomgiaaGreat
namespace Go.Proofs.YtdmfjabikomgiaaGreat
open Go Go.Ab Go.RowKit
variable {B b c cap g k x y z : Nat} {w w0 w2 wa wq wr : World} {a cur : Array Value} {hd u v z0 z1 z2 : Value} {xs : List D}
attribute [local go_sem ↓] Go.wp_at_zero Go.wp_at_succ
abbrev Sl:=Option Addr×Nat×Nat
abbrev T3:=Int×Sl×Sl
def rowT(t:T3):List Value:=[.int .i64 t.1,.slice t.2.1.1 t.2.1.2.1 t.2.1.2.2,.slice t.2.2.1 t.2.2.2.1 t.2.2.2.2]
structure RowsC(b:Nat)(w:World)(ds:List (List T3))(cur:Array Value):Prop where
 blk:w.heap[b]?=some (.cells cur 54 (0,0))size:cur.size=ds.length
 row:∀j d,ds[j]?=some d->w.ownsRow (b+1) 56 3 (cur.getD j undef) d.length (d.flatMap rowT)sep:∀i j g,i≠j->(cur.getD i undef).ownBlock=some g->(cur.getD j undef).ownBlock≠some g
def RowsT(b:Nat)(w:World)(ds:List (List T3)):Prop:=∃cur,RowsC b w ds cur
theorem qa5(w:World){a c:Addr}(h:a.block≠c.block)(u v:Value):(w.setCell a u).setCell c v=(w.setCell c v).setCell a u:=by unfold World.setCell;congr 1;grind
theorem qnm{ds:List (List T3)}{d:List T3}{t:T3}(hC:RowsC b w ds cur)(hk:ds[k]?=some d)(hc:c=d.length)(hv:cur.getD k undef=v)(hgr:w.grownBy w2 v.ownBlock)(hgb:b+1<=g)(hat:v.ownBlock=some g\/w.heap.size<=g)(hga:w2.grownBy wa (some g))(s3:wa.ownsRow (b+1) 56 3 (.slice (some ⟨g,0,none⟩) (c+1) cap) (c+1) ((d++[t]).flatMap rowT)):RowsC b (wa.setCell ⟨b,k,none⟩ (.slice (some ⟨g,0,none⟩) (c+1) cap)) (ds.modify k (·++[t])) (cur.setIfInBounds k (.slice (some ⟨g,0,none⟩) (c+1) cap)):=by
 have hne:g≠b:=by omega
 have hrk:=hC.row k d hk;rw[hv]at hrk;have hvb:∀g',v.ownBlock=some g'->b+1<=g':=fun g' e=>(hrk.lt g' e).1;have hbw:b<w.heap.size:=(Array.getElem?_eq_some_iff.1 hC.blk).1;have hba:wa.heap[b]?=some (.cells cur 54 (0,0)):=by rw[hga.block b (Nat.lt_of_lt_of_le hbw hgr.size) (fun e=>hne (Option.some.inj e).symm),hgr.block b hbw (fun e=>by grind)];exact hC.blk
 have hkl:k<cur.size:=by rw[hC.size];grind
 have hsame:(wa.setCell ⟨b,k,none⟩ (.slice (some ⟨g,0,none⟩) (c+1) cap)).heap[b]?=some (.cells (cur.setIfInBounds k (.slice (some ⟨g,0,none⟩) (c+1) cap)) 54 (0,0)):=heap_setCell_same wa b k cur 54 _ hba;have hg3:wa.grownBy (wa.setCell ⟨b,k,none⟩ (.slice (some ⟨g,0,none⟩) (c+1) cap)) (some b):=⟨rfl,rfl,rfl,by simp,fun j _ hn=>heap_setCell_other wa ⟨b,k,none⟩ j _ (fun e=>hn (by rw[e]))⟩;have hnew:∀j,(cur.setIfInBounds k (.slice (some ⟨g,0,none⟩) (c+1) cap)).getD j undef=if j=k then .slice (some ⟨g,0,none⟩) (c+1) cap else cur.getD j undef:=fun j=>by simp only[Array.getD_eq_getD_getElem?,Array.getElem?_setIfInBounds];grind
 have hold:∀j,j≠k->(cur.getD j undef).ownBlock≠some g:=fun j hj e=>by
  rcases hat with h|h;·exact hC.sep j k g hj e (by grind)
  .cases hd:ds[j]? with|none=>
    have hl:cur.size<=j:=by rw[hC.size];grind
    rw[Array.getD_eq_getD_getElem?,Array.getElem?_eq_none hl]at e;cases e|some dj=>have:=((hC.row j dj hd).lt g e).2;omega
 have hown3:∀u n xs,u.ownBlock≠some b->wa.ownsRow (b+1) 56 3 u n xs->(wa.setCell ⟨b,k,none⟩ (.slice (some ⟨g,0,none⟩) (c+1) cap)).ownsRow (b+1) 56 3 u n xs:=fun u n xs hu h=>h.kept hg3 (.inr hu);have hnb:∀u n xs,wa.ownsRow (b+1) 56 3 u n xs->u.ownBlock≠some b:=fun u n xs h e=>by have:=(h.lt b e).1;omega
 refine⟨hsame,by simp[hC.size],fun j dj hj=>?_,fun i j g' hij hi=>?_⟩
 .rw[hnew];rw[List.getElem?_modify]at hj;by_cases h:j=k;·grind
  .rw[if_neg h];simp[Ne.symm h]at hj;have h1:=hC.row j dj hj;have h2:=h1.kept (w':=w2) (row:=v.ownBlock) hgr (by cases hj0:(cur.getD j undef).ownBlock with|none=>simp|some g'=>exact .inr fun e=>hC.sep j k g' h hj0 (by simp_all));have h3:=h2.kept hga (.inr (hold j h));grind
 .rw[hnew]at hi⊢;by_cases h1:i=k;·rw[if_pos h1]at hi;rw[if_neg (fun e=>hij (h1.trans e.symm)),<-hi];exact hold j (fun e=>hij (h1.trans e.symm))
  .rw[if_neg h1]at hi;by_cases h2:j=k;·rw[if_pos h2];intro e;exact hold i h1 (hi.trans e.symm)
   .rw[if_neg h2];exact hC.sep i j g' hij hi
theorem qsm{ds:List (List T3)}{d:List T3}{t:T3}{o:Obj}(hC:RowsC b wr ds cur)(hk:ds[k]?=some d)(hc:c=d.length)(hv:cur.getD k undef=v)(hgq:wr.grownBy wq none)(hg:((wq.alloc o).drew).grownBy w2 v.ownBlock)(hgb:b+1<=g)(hat:v.ownBlock=some g\/g=wq.heap.size+1)(hB:Below B w0 wr)(hb:B<=b)(hga:w2.grownBy wa (some g))(s3:wa.ownsRow (b+1) 56 3 (.slice (some ⟨g,0,none⟩) (c+1) cap) (c+1) ((d++[t]).flatMap rowT)):Below B w0 (wa.setCell ⟨b,k,none⟩ (.slice (some ⟨g,0,none⟩) (c+1) cap))/\RowsT b (wa.setCell ⟨b,k,none⟩ (.slice (some ⟨g,0,none⟩) (c+1) cap)) (ds.modify k (·++[t])):=by
 have hvb:∀g',v.ownBlock=some g'->b+1<=g':=fun g' e=>by have hrk:=hC.row k d hk;rw[hv]at hrk;exact(hrk.lt g' e).1
 have hgr:wr.grownBy w2 v.ownBlock:=by refine⟨hg.os.trans hgq.os,hg.tape.trans hgq.tape,hg.output.trans hgq.output,Nat.le_trans hgq.size (Nat.le_trans (by simp) hg.size),fun j hj hn=>?_⟩;have h1:j<wq.heap.size:=Nat.lt_of_lt_of_le hj hgq.size;exact((hg.block j (Nat.lt_of_lt_of_le h1 (by simp)) hn).trans (heap_alloc_old wq o h1)).trans (hgq.block j hj (by simp))
 have hbw:b<wr.heap.size:=(Array.getElem?_eq_some_iff.1 hC.blk).1;have hBr:B<=wr.heap.size:=by omega
 have h1:Below B w0 w2:=hB.grown hgr hBr fun j e=>by grind
 have h2:Below B w0 wa:=h1.grown hga (Nat.le_trans hBr hgr.size) fun j e=>by grind
 exact⟨h2.grown (row:=some b) ⟨rfl,rfl,rfl,by simp,fun j _ hn=>heap_setCell_other wa ⟨b,k,none⟩ j _ (fun e=>hn (by rw[e]))⟩ (Nat.le_trans (Nat.le_trans hBr hgr.size) hga.size) fun j e=>by simp_all,_,qnm hC hk hc hv hgr hgb (hat.imp_right fun e=>by have:=hgq.size;omega) hga s3⟩
theorem row3{d:List T3}{t:T3}(hx:x=c*3)(hy:y=c*3+1)(hz:z=c*3+2)(hl:(d.flatMap rowT).length=c*3)(ho:w2.ownsRow (b+1) 56 3 (.slice (some ⟨g,0,none⟩) (c+1) cap) (c+1) (d.flatMap rowT++[z0,z1,z2])):∃wa,wa=((w2.setCell ⟨g,x,none⟩ (.int .i64 t.1)).setCell ⟨g,y,none⟩ (.slice t.2.1.1 t.2.1.2.1 t.2.1.2.2)).setCell ⟨g,z,none⟩ (.slice t.2.2.1 t.2.2.2.1 t.2.2.2.2)/\(((w2.setCell ⟨b,k,none⟩ (.slice (some ⟨g,0,none⟩) (c+1) cap)).setCell ⟨g,x,none⟩ (.int .i64 t.1)).setCell ⟨g,y,none⟩ (.slice t.2.1.1 t.2.1.2.1 t.2.1.2.2)).setCell ⟨g,z,none⟩ (.slice t.2.2.1 t.2.2.2.1 t.2.2.2.2)=wa.setCell ⟨b,k,none⟩ (.slice (some ⟨g,0,none⟩) (c+1) cap)/\w2.grownBy wa (some g)/\wa.ownsRow (b+1) 56 3 (.slice (some ⟨g,0,none⟩) (c+1) cap) (c+1) ((d++[t]).flatMap rowT):=by
 have hne:g≠b:=by have:=(ho.lt g rfl).1;omega
 obtain⟨s1,t1⟩:=ho.stored x (.int .i64 t.1);obtain⟨s2,t2⟩:=s1.stored y (.slice t.2.1.1 t.2.1.2.1 t.2.1.2.2);obtain⟨s3,t3⟩:=s2.stored z (.slice t.2.2.1 t.2.2.2.1 t.2.2.2.2);refine⟨_,rfl,?_,⟨t3.os.trans (t2.os.trans t1.os),t3.tape.trans (t2.tape.trans t1.tape),t3.output.trans (t2.output.trans t1.output),Nat.le_trans t1.size (Nat.le_trans t2.size t3.size),fun j hj hn=>?_⟩,?_⟩;·rw[qa5 w2 (a:=⟨b,k,none⟩) (c:=⟨g,x,none⟩) (Ne.symm hne),qa5 _ (a:=⟨b,k,none⟩) (c:=⟨g,y,none⟩) (Ne.symm hne),qa5 _ (a:=⟨b,k,none⟩) (c:=⟨g,z,none⟩) (Ne.symm hne)]
 .have h1:=Nat.lt_of_lt_of_le hj t1.size;exact(t3.block j (Nat.lt_of_lt_of_le h1 t2.size) hn).trans ((t2.block j h1 hn).trans (t1.block j hj hn))
 .have e:((((d.flatMap rowT++[z0,z1,z2]).set x (.int .i64 t.1)).set y (.slice t.2.1.1 t.2.1.2.1 t.2.1.2.2)).set z (.slice t.2.2.1 t.2.2.2.1 t.2.2.2.2))=(d++[t]).flatMap rowT:=by rw[List.set_append_right _ _ (by omega),List.set_append_right _ _ (by omega),List.set_append_right _ _ (by omega),hl,hx,hy,hz,Nat.sub_self,Nat.add_sub_cancel_left,Nat.add_sub_cancel_left,List.flatMap_append];simp[rowT]
  rw[e]at s3;exact s3
theorem qrt{ds:List (List T3)}{d:List T3}{t:T3}{o:Obj}(hx:x=c*3)(hy:y=c*3+1)(hz:z=c*3+2)(hC:RowsC b wr ds cur)(hk:ds[k]?=some d)(hc:c=d.length)(hv:cur.getD k undef=v)(hgq:wr.grownBy wq none)(hg:((wq.alloc o).drew).grownBy w2 v.ownBlock)(ho:w2.ownsRow (b+1) 56 3 (.slice (some ⟨g,0,none⟩) (c+1) cap) (c+1) (d.flatMap rowT++[z0,z1,z2]))(hat:v.ownBlock=some g\/g=wq.heap.size+1)(hB:Below B w0 wr)(hb:B<=b){w3:World}(hw:w3=(((w2.setCell ⟨g,x,none⟩ (.int .i64 t.1)).setCell ⟨g,y,none⟩ (.slice t.2.1.1 t.2.1.2.1 t.2.1.2.2)).setCell ⟨g,z,none⟩ (.slice t.2.2.1 t.2.2.2.1 t.2.2.2.2)).setCell ⟨b,k,none⟩ (.slice (some ⟨g,0,none⟩) (c+1) cap)\/w3=(((w2.setCell ⟨b,k,none⟩ (.slice (some ⟨g,0,none⟩) (c+1) cap)).setCell ⟨g,x,none⟩ (.int .i64 t.1)).setCell ⟨g,y,none⟩ (.slice t.2.1.1 t.2.1.2.1 t.2.1.2.2)).setCell ⟨g,z,none⟩ (.slice t.2.2.1 t.2.2.2.1 t.2.2.2.2)):Below B w0 w3/\RowsT b w3 (ds.modify k (·++[t])):=by
 have hgb:b+1<=g:=(ho.lt g rfl).1;have hl:(d.flatMap rowT).length=c*3:=by rw[hc];exact(hC.row k d hk).1
 obtain⟨wa,ha,he,hga,s3⟩:=row3 (k:=k) (t:=t) hx hy hz hl ho;rw[<-ha,he]at hw;obtain rfl:=hw.elim id id;exact qsm hC hk hc hv hgq hg hgb hat hB hb hga s3
def q5b{α:Type}(p:Bool×α):List α:=if p.1 then [p.2]else []
def begT{α:Type}(ms:List (Bool×α))(k:Nat):List (List α):=(ms.take k).map q5b++List.replicate (ms.length-k) []
theorem qnv{α:Type}(ms:List (Bool×α))(k j:Nat):(begT ms k)[j]?=if j<k then ms[j]?.map q5b else if j<ms.length then some []else none:=by unfold begT;grind
theorem y5q{α:Type}{ms:List (Bool×α)}(h:k<ms.length):(begT ms k)[k]?=some []:=by rw[qnv,if_neg (by omega),if_pos h]
theorem qkg{α:Type}{ms:List (Bool×α)}{p:Bool×α}(h:ms[k]?=some p):begT ms (k+1)=(begT ms k).modify k (·++q5b p):=by have hl:k<ms.length:=(List.getElem?_eq_some_iff.1 h).1;apply List.ext_getElem?;intro j;rw[List.getElem?_modify,qnv,qnv];grind
theorem qrq{α:Type}{ms:List (Bool×α)}{t:α}(h:ms[k]?=some (false,t)):begT ms (k+1)=begT ms k:=by rw[qkg h];apply List.ext_getElem?;intro j;rw[List.getElem?_modify];split<;>simp[q5b]
theorem qs0{α:Type}(ms:List (Bool×α)):begT ms 0=List.replicate ms.length []:=by rfl
theorem qi7{α:Type}(ms:List (Bool×α)):begT ms ms.length=ms.map q5b:=by simp[begT]
theorem qmg{n:Nat}:RowsT w.heap.size (w.alloc (.cells (madeCells #[.slice none 0 0] n) 54)) (List.replicate n []):=by
 have hm:∀j,(madeCells #[.slice none 0 0] n).getD j undef=.slice none 0 0\/(madeCells #[.slice none 0 0] n).getD j undef=undef:=fun j=>by
  by_cases hj:j<n;·left;simp[madeCells,Array.getD_eq_getD_getElem?,hj,Nat.mod_one]
  .right;simp[madeCells,Array.getD_eq_getD_getElem?,hj]
 refine⟨madeCells #[.slice none 0 0] n,⟨heap_alloc_new w _,by simp[size_madeCells],fun j d hj=>?_,fun i j g _ hi=>?_⟩⟩
 .have hjn:j<n:=by grind
  have hd:d=[]:=by simp_all
  subst hd;have:(madeCells #[.slice none 0 0] n).getD j undef=.slice none 0 0:=by simp[madeCells,Array.getD_eq_getD_getElem?,hjn,Nat.mod_one]
  rw[this];exact World.ownsRow_nil _ _ _ _
 .rcases hm i with h|h<;>rw[h]at hi<;>cases hi
theorem qgb{w':World}{ds:List (List T3)}(h:RowsT b w ds)(hg:w.grownBy w' none):RowsT b w' ds:=by obtain⟨cur,h⟩:=h;refine⟨cur,⟨(hg.block b (Array.getElem?_eq_some_iff.1 h.blk).1 (by simp)).trans h.blk,h.size,fun j d hj=>(h.row j d hj).kept hg ?_,h.sep⟩⟩;grind
theorem qj5{α:Type}{ds:List (List α)}{j:Nat}{d:List α}{t:α}(h:∀d∈ds,d.length<=j+1)(_hd:ds[k]?=some d):∀e∈ds.modify k (·++[t]),e.length<=j+1+1:=fun e he=>by obtain⟨i,hi⟩:=List.mem_iff_getElem?.1 he;grind
theorem far1(ng:g≠b)(h:w.cell? ⟨b,k,none⟩=some v):(w.setCell ⟨g,x,none⟩ u).cell? ⟨b,k,none⟩=some v:=(World.cell?_setCell_other w ⟨g,x,none⟩ ⟨b,k,none⟩ u fun e=>ng (congrArg Addr.block e)).trans h
theorem qd4{xs:List Value}(hx:x=c*3)(hy:y=c*3+1)(hz:z=c*3+2)(r0:w.cell? ⟨b,k,none⟩=some hd)(f0:w.frozen? ⟨b,k,none⟩=false)(ho:w.ownsRow (b+1) 56 3 v c xs)(ho2:w2.ownsRow (b+1) 56 3 (.slice (some ⟨g,0,none⟩) (c+1) cap) (c+1) (xs++[z0,z1,z2]))(hg:w.grownBy w2 v.ownBlock):g≠b/\b≠g/\w2.cell? ⟨b,k,none⟩=some hd/\w2.frozen? ⟨b,k,none⟩=false/\(∀j,w2.frozen? ⟨g,j,none⟩=false)/\w2.cell? ⟨g,x,none⟩=some z0/\w2.cell? ⟨g,y,none⟩=some z1/\w2.cell? ⟨g,z,none⟩=some z2/\(∀u,(w2.setCell ⟨b,k,none⟩ u).cell? ⟨g,x,none⟩=some z0)/\(∀u,(w2.setCell ⟨b,k,none⟩ u).cell? ⟨g,y,none⟩=some z1)/\(∀u,(w2.setCell ⟨b,k,none⟩ u).cell? ⟨g,z,none⟩=some z2)/\∀u1 u2 u3,(((w2.setCell ⟨g,x,none⟩ u1).setCell ⟨g,y,none⟩ u2).setCell ⟨g,z,none⟩ u3).cell? ⟨b,k,none⟩=some hd:=by
 have hne:g≠b:=by have:=(ho2.lt g rfl).1;omega
 have hnb:some b≠v.ownBlock:=fun e=>by have:=(ho.lt b e.symm).1;omega
 have e0:w2.cell? ⟨b,k,none⟩=some hd:=hg.cell r0 hnb;have hl:=ho.1;have g0:∀j(zj:Value),[z0,z1,z2][j]?=some zj->w2.cell? ⟨g,c*3+j,none⟩=some zj:=fun j zj hj=>by
  have hj3:j<3:=by simpa using(List.getElem?_eq_some_iff.1 hj).1
  rw[ho2.cellAt _ (by omega),List.getElem?_append_right (by omega),hl,Nat.add_sub_cancel_left];exact hj
 subst hx hy hz;have a0:=g0 0 z0 rfl;have a1:=g0 1 z1 rfl;have a2:=g0 2 z2 rfl;exact⟨hne,Ne.symm hne,e0,(hg.frozen_far _ (World.block_lt_of_cell? w _ r0) hnb).trans f0,fun j=>ho2.frozenAt j,a0,a1,a2,fun u=>far1 (Ne.symm hne) a0,fun u=>far1 (Ne.symm hne) a1,fun u=>far1 (Ne.symm hne) a2,fun u1 u2 u3=>far1 hne (far1 hne (far1 hne e0))⟩
theorem qgi{xs:List Value}{o:Obj}(hx:x=c*3)(hy:y=c*3+1)(hz:z=c*3+2)(r0:wq.cell? ⟨b,k,none⟩=some hd)(f0:wq.frozen? ⟨b,k,none⟩=false)(ho:wq.ownsRow (b+1) 56 3 v c xs)(ho2:w2.ownsRow (b+1) 56 3 (.slice (some ⟨g,0,none⟩) (c+1) cap) (c+1) (xs++[z0,z1,z2]))(hg:((wq.alloc o).drew).grownBy w2 v.ownBlock):g≠b/\b≠g/\w2.cell? ⟨b,k,none⟩=some hd/\w2.frozen? ⟨b,k,none⟩=false/\(∀j,w2.frozen? ⟨g,j,none⟩=false)/\w2.cell? ⟨g,x,none⟩=some z0/\w2.cell? ⟨g,y,none⟩=some z1/\w2.cell? ⟨g,z,none⟩=some z2/\(∀u,(w2.setCell ⟨b,k,none⟩ u).cell? ⟨g,x,none⟩=some z0)/\(∀u,(w2.setCell ⟨b,k,none⟩ u).cell? ⟨g,y,none⟩=some z1)/\(∀u,(w2.setCell ⟨b,k,none⟩ u).cell? ⟨g,z,none⟩=some z2)/\∀u1 u2 u3,(((w2.setCell ⟨g,x,none⟩ u1).setCell ⟨g,y,none⟩ u2).setCell ⟨g,z,none⟩ u3).cell? ⟨b,k,none⟩=some hd:=by exact qd4 hx hy hz (show((wq.alloc o).drew).cell? ⟨b,k,none⟩=some hd from(World.grownBy_alloc wq o none).cell r0 (by simp)) ((World.frozen?_of_block (w:=wq) (heap_alloc_old wq o (World.block_lt_of_cell? wq _ r0))).trans f0) ((ho.alloc o).drew) ho2 hg
theorem hidOf{p:Prop}(h:p):Hid p:=h
def qy7(w:World)(b x:Nat)(p:Int×Int×T3):Prop:=∃(z2 z3 z4 z8 z9 z10:Int)(s11 s12 s13 s14:Sl),w.cell? ⟨b,x,none⟩=some (.int .i64 p.1)/\w.cell? ⟨b,x+1,none⟩=some (.int .i64 p.2.1)/\w.cell? ⟨b,x+2,none⟩=some (.int .i64 z2)/\w.cell? ⟨b,x+3,none⟩=some (.int .i64 z3)/\w.cell? ⟨b,x+4,none⟩=some (.int .i64 z4)/\w.cell? ⟨b,x+5,none⟩=some (.int .i64 p.2.2.1)/\w.cell? ⟨b,x+6,none⟩=some (.slice p.2.2.2.1.1 p.2.2.2.1.2.1 p.2.2.2.1.2.2)/\w.cell? ⟨b,x+7,none⟩=some (.slice p.2.2.2.2.1 p.2.2.2.2.2.1 p.2.2.2.2.2.2)/\w.cell? ⟨b,x+8,none⟩=some (.int .i64 z8)/\w.cell? ⟨b,x+9,none⟩=some (.int .i64 z9)/\w.cell? ⟨b,x+10,none⟩=some (.int .i64 z10)/\w.cell? ⟨b,x+11,none⟩=some (.slice s11.1 s11.2.1 s11.2.2)/\w.cell? ⟨b,x+12,none⟩=some (.slice s12.1 s12.2.1 s12.2.2)/\w.cell? ⟨b,x+13,none⟩=some (.slice s13.1 s13.2.1 s13.2.2)/\w.cell? ⟨b,x+14,none⟩=some (.slice s14.1 s14.2.1 s14.2.2)
def MemAt(w:World)(b x:Nat)(p:Bool×T3):Prop:=w.cell? ⟨b,x,none⟩=some (.bool p.1)/\w.cell? ⟨b,x+1,none⟩=some (.int .i64 p.2.1)/\w.cell? ⟨b,x+2,none⟩=some (.slice p.2.2.1.1 p.2.2.1.2.1 p.2.2.1.2.2)/\w.cell? ⟨b,x+3,none⟩=some (.slice p.2.2.2.1 p.2.2.2.2.1 p.2.2.2.2.2)
theorem qud{I:Nat->Nat->Prop}{sz:Nat}(hr:Rep w I (.list xs) u)(hs:∀x∈xs,x.cells.length=sz):∃a cap,u=.slice a xs.length cap/\∀(j:Nat)x,xs[j]?=some x->∃b o,a=some ⟨b,o,none⟩/\∃V:Nat->Value,∀(i:Nat)c,x.cells[i]?=some c->(w.cell? ⟨b,o+j*sz+i,none⟩=some (V i)/\I b (o+j*sz+i))/\Rep w I c (V i):=by cases hr with|empty a c=>simp|list _ b off cap sz0 V hs0 hc hh hr=>refine⟨_,cap,rfl,fun j x hx=>⟨b,off,rfl,V j,fun i c hi=>?_⟩⟩;grind
theorem ql8{α:Type}{P:Nat->α->Prop}:∀n:Nat,(∀j,j<n->∃p,P j p)->∃l:List α,l.length=n/\∀(j:Nat)p,l[j]?=some p->P j p|0,_=>⟨[],rfl,fun j p h=>by grind⟩|n+1,h=>by obtain⟨l,h1,h2⟩:=ql8 n fun j hj=>h j (by omega);obtain⟨p,hp⟩:=h n (by omega);refine⟨l++[p],by simp[h1],fun j q hq=>?_⟩;grind
theorem q3t{α:Type}{f:D->Option α}:∀{xs:List D}{l:List α},allOf f xs=some l->l.length=xs.length/\∀j:Nat,∀x,xs[j]?=some x->∃y,f x=some y/\l[j]?=some y
 |[],l,h=>by simp only[allOf,sI]at h;simp_all|x::r,l,h=>by
  unfold allOf at h;split at h;·rename_i y l' h1 h2;cases h;obtain⟨g1,g2⟩:=q3t h2;refine⟨by simp[g1],fun j z hz=>?_⟩;cases j with|zero=>simp at hz;subst hz;exact⟨y,h1,rfl⟩|succ j=>simpa using g2 j z (by simpa using hz)
  grind
def RepT(w:World)(I:Nat->Nat->Prop)(l:List D)(t:T3):Prop:=∃y z,l=[.v (.int .i64 t.1),.list y,.list z]/\Rep w I (.list y) (.slice t.2.1.1 t.2.1.2.1 t.2.1.2.2)/\Rep w I (.list z) (.slice t.2.2.1 t.2.2.2.1 t.2.2.2.2)
inductive All2{α β:Type}(R:α->β->Prop):List α->List β->Prop|nil:All2 R [] []|cons{a b l m}:R a b->All2 R l m->All2 R (a::l) (b::m)
theorem All2.of{α β:Type}{R:α->β->Prop}:∀{l:List α}{m:List β},l.length=m.length->(∀(j:Nat)a b,l[j]?=some a->m[j]?=some b->R a b)->All2 R l m|[],[],_,_=>.nil|[],_::_,h,_=>by grind|_::_,[],h,_=>by grind|a::l,b::m,h,k=>.cons (k 0 a b rfl rfl) (All2.of (by simp_all) fun j x y hx hy=>k (j+1) x y (by simp_all) (by simp_all))
theorem All2.len{α β:Type}{R:α->β->Prop}{l:List α}{m:List β}(h:All2 R l m):l.length=m.length:=by induction h with|nil=>rfl|cons _ _ ih=>grind
theorem All2.get{α β:Type}{R:α->β->Prop}{l:List α}{m:List β}(h:All2 R l m):∀{j:Nat}{a b},l[j]?=some a->m[j]?=some b->R a b:=by induction h with|nil=>simp|cons h1 _ ih=>grind
theorem All2.map{α β γ δ:Type}{R:α->β->Prop}{S:γ->δ->Prop}{f:α->γ}{g:β->δ}(k:∀a b,R a b->S (f a) (g b)){l:List α}{m:List β}(h:All2 R l m):All2 S (l.map f) (m.map g):=by induction h with|nil=>exact .nil|cons h1 _ ih=>exact .cons (k _ _ h1) ih
theorem All2.mod{α β:Type}{R:α->β->Prop}{f:α->α}{g:β->β}(k:∀a b,R a b->R (f a) (g b)){l:List α}{m:List β}(h:All2 R l m):∀n,All2 R (l.modify n f) (m.modify n g):=by induction h with|nil=>intro n;cases n<;>exact .nil|cons h1 h2 ih=>intro n;cases n with|zero=>exact .cons (k _ _ h1) h2|succ n=>exact .cons h1 (ih n)
theorem All2.app{α β:Type}{R:α->β->Prop}{l:List α}{m:List β}(h:All2 R l m){a:α}{b:β}(k:R a b):All2 R (l++[a]) (m++[b]):=by induction h with|nil=>exact .cons k .nil|cons h1 _ ih=>exact .cons h1 ih
theorem y0u{α β:Type}{R:α->β->Prop}{ps:List (Int×Int×α)}{qs:List (Int×Int×β)}(h:All2 (fun p q=>p.1=q.1/\p.2.1=q.2.1/\R p.2.2 q.2.2) ps qs):∀{cs:LI}{ds:List (List α)}{es:List (List β)}{out:List (List α)},All2 (All2 R) ds es->q1e ps cs ds=some out->∃out',q1e qs cs es=some out'/\All2 (All2 R) out out':=by induction h with|nil=>intro cs ds es out hd h;simp only[q1e,sI]at h⊢;simp_all|cons h1 _ ih=>rename_i a b l m _;intro cs ds es out hd h;obtain⟨k,x,t⟩:=a;obtain⟨k',x',t'⟩:=b;obtain⟨rfl,rfl,hR⟩:=h1;cases cs with|nil=>simp[q1e]at h|cons c cs=>
   simp only[q1e]at h⊢;split at h
   .split at h;·rw[<-hd.len]at*;rename_i hc hx;rw[if_pos hc,if_pos (by first|exact hx|(rw[<-hd.len];exact hx))];exact ih (hd.mod (fun _ _ h=>h.app hR) _) h
    .cases h
   grind
theorem q13{I:Nat->Nat->Prop}(hr:Rep w I (.list xs) u):∃s:Sl,u=.slice s.1 s.2.1 s.2.2/\s.2.1=xs.length:=by cases hr with|empty a c=>simp|list _ b off cap sz V hs hc hh hr=>simp
theorem qwg:∀{d:List T3}{i:Nat}{t:T3},d[i]?=some t->∀{j:Nat}{u:Value},(rowT t)[j]?=some u->(d.flatMap rowT)[i*3+j]?=some u
 |[],i,t,h,j,u,_=>by grind|a::d,i,t,h,j,u,hu=>by
  have hj3:j<3:=by simpa[rowT]using(List.getElem?_eq_some_iff.1 hu).1
  rw[List.flatMap_cons];cases i with|zero=>grind|succ i=>rw[List.getElem?_append_right (by simp[rowT];omega),show(i+1)*3+j-(rowT a).length=i*3+j by simp[rowT];omega];exact qwg (by simp_all) hu
theorem qxa{X:Cx}{out:List (List T3)}{out0:List (List (List D))}(hb:∀o,X.imm b o)(hg:∀(j:Nat)g,(cur.getD j undef).ownBlock=some g->∀o,X.imm g o)(hC:RowsC b w out cur)(h2:All2 (All2 (RepT w X.imm)) out0 out)(n:Nat)(hn:out.length=n):Rep w X.imm (.list (out0.map fun l=>.list (l.map .agg))) (.slice (some ⟨b,0,none⟩) n n):=by
 have hl:(out0.map fun l=>D.list (l.map .agg)).length=n:=by rw[List.length_map,h2.len,hn]
 rw[<-hl];refine .list _ b 0 _ 1 (fun i _=>cur.getD i undef) (fun x hx=>by obtain⟨l,_,rfl⟩:=List.mem_map.1 hx;rfl) (Nat.le_refl _) (fun i x hx j c hj=>?_) (fun i x hx j c hj=>?_);all_goals
  rw[List.getElem?_map,Option.map_eq_some_iff]at hx;obtain⟨l,hlx,rfl⟩:=hx;have hi:i<cur.size:=by rw[hC.size,<-h2.len];grind
  obtain rfl:j=0:=by cases j with|zero=>rfl|succ j=>simp[D.cells]at hj
  simp[D.cells]at hj;subst hj
 .refine⟨?_,hb _⟩;rw[Nat.zero_add,Nat.mul_one,Nat.add_zero,cell_of_row w b i cur 54 (0,0) hC.blk];simp_all
 .obtain⟨d,hd⟩:∃d,out[i]?=some d:=⟨out[i]'(by grind),by simp⟩;have hrow:=hC.row i d hd;have hrel:=h2.get hlx hd;have hlen:=hrel.len;show Rep w X.imm _ (cur.getD i undef);have himm:=hg i;generalize cur.getD i undef=v at hrow himm;by_cases h0:d=[]
  .subst h0;have:l=[]:=List.length_eq_zero_iff.1 hlen;subst this;rcases hrow.2 with⟨rfl,_⟩|⟨g,cap,c,rfl,_⟩;·exact .empty _ _
   .exact .empty _ _
  .obtain⟨g,cap,rfl,_,_⟩:=hrow.form (List.length_pos_iff.2 h0);obtain⟨hcap,hrow2⟩:d.length<=cap/\True:=by
    rcases hrow.2 with⟨h,_⟩|⟨g',cap',c,h,_,_,h5,_⟩;·cases h
    simp_all
   have hlm:(l.map D.agg).length=d.length:=by simp_all
   rw[<-hlm];refine .list _ g 0 cap 3 (fun i' j=>((d[i']?.map rowT).getD []).getD j undef) (fun x hx=>?_) (by omega) (fun i' x hx' j c hj=>?_) (fun i' x hx' j c hj=>?_);·obtain⟨q,hq,rfl⟩:=List.mem_map.1 hx;obtain⟨i',hi'⟩:=List.mem_iff_getElem?.1 hq;obtain⟨t,ht⟩:∃t,d[i']?=some t:=⟨d[i']'(by grind),by simp⟩;obtain⟨y,z,rfl,_⟩:=hrel.get hi' ht;rfl
   all_goals
    rw[List.getElem?_map,Option.map_eq_some_iff]at hx';obtain⟨q,hq,rfl⟩:=hx';obtain⟨t,ht⟩:∃t,d[i']?=some t:=⟨d[i']'(by grind),by simp⟩;obtain⟨y,z,rfl,r1,r2⟩:=hrel.get hq ht;have hj3:j<3:=by simpa[D.cells]using(List.getElem?_eq_some_iff.1 hj).1
    have hid:i'<d.length:=(List.getElem?_eq_some_iff.1 ht).1
   .refine⟨?_,himm g rfl _⟩;rw[Nat.zero_add,hrow.cellAt _ (by omega)];have:=qwg ht (j:=j) (u:=(rowT t).getD j undef) (by simp[rowT];rcases(by omega:j=0\/j=1\/j=2)with rfl|rfl|rfl<;>rfl);simp_all
   .show Rep w X.imm c (((d[i']?.map rowT).getD []).getD j undef);rw[ht];rcases(by omega:j=0\/j=1\/j=2)with rfl|rfl|rfl;·simp[D.cells]at hj;subst hj;exact .v _ rfl
    .simp[D.cells]at hj;subst hj;exact r1
    .simp[D.cells]at hj;subst hj;exact r2
theorem q5y{I:Nat->Nat->Prop}{cs:List D}(h:Rep w I (.agg cs) u):∃vs:Array Value,u=.agg vs/\vs.size=cs.length/\∀(j:Nat)c,cs[j]?=some c->Rep w I c (vs.getD j undef):=by cases h with|agg cs vs hn hr=>simp_all
theorem arr1(h:a.size=1):a=#[a.getD 0 undef]:=by
 apply Array.ext;·exact h
 simp_all
theorem arr3(h:a.size=3):a=#[a.getD 0 undef,a.getD 1 undef,a.getD 2 undef]:=by
 apply Array.ext;·exact h
 .intro i h1 h2;rcases(by omega:i=0\/i=1\/i=2)with rfl|rfl|rfl<;>simp[Array.getD_eq_getD_getElem?,h1]
theorem y1i{I:Nat->Nat->Prop}{s:Sl}{l0:List (Bool×List D)}(hr:Rep w I (.list xs) (.slice s.1 s.2.1 s.2.2))(h:allOf memD xs=some l0):∃ms:List (Bool×T3),ms.length=xs.length/\(∀(w':World)(J:Nat->Nat->Prop),(∀b o u,w.cell? ⟨b,o,none⟩=some u->I b o->w'.cell? ⟨b,o,none⟩=some u/\J b o)->∀(j:Nat)p,ms[j]?=some p->∃b o,s.1=some ⟨b,o,none⟩/\MemAt w' b (o+j*4) p)/\All2 (fun a b=>a.1=b.1/\RepT w I a.2 b.2) l0 ms:=by
 obtain⟨hl,hx⟩:=q3t h;have hshape:∀x q,memD x=some q->∃t y z,x=.agg [.v (.bool q.1),.v (.int .i64 t),.list y,.list z]/\q.2=[.v (.int .i64 t),.list y,.list z]:=by
  intro x q hq;unfold memD at hq;split at hq;·cases hq;exact⟨_,_,_,rfl,rfl⟩
  .cases hq
 have hs:∀x∈xs,x.cells.length=4:=fun x hm=>by obtain⟨j,hj⟩:=List.mem_iff_getElem?.1 hm;obtain⟨q,hq,_⟩:=hx j x hj;obtain⟨t,y,z,rfl,_⟩:=hshape x q hq;rfl
 obtain⟨a,cap,e,hat⟩:=qud hr hs;injection e with e1 e2 e3;obtain⟨ms,h1,h2⟩:=ql8 (P:=fun j(p:Bool×T3)=>∃q,l0[j]?=some q/\q.1=p.1/\RepT w I q.2 p.2/\∃b o,s.1=some ⟨b,o,none⟩/\MemAt w b (o+j*4) p/\∀i,i<4->I b (o+j*4+i)) xs.length fun j hj=>by
  obtain⟨q,hq,hq2⟩:=hx j xs[j] (by simp[hj]);obtain⟨t,y,z,hxx,hqq⟩:=hshape _ q hq;obtain⟨b,o,ha,V,hV⟩:=hat j xs[j] (by simp[hj]);rw[hxx]at hV;obtain⟨⟨k0,i0⟩,r0⟩:=hV 0 _ rfl;obtain⟨⟨k1,i1⟩,r1⟩:=hV 1 _ rfl;obtain⟨⟨k2,i2⟩,r2⟩:=hV 2 _ rfl;obtain⟨⟨k3,i3⟩,r3⟩:=hV 3 _ rfl;obtain⟨s2,v2,_⟩:=q13 r2;obtain⟨s3,v3,_⟩:=q13 r3;rw[q0y r0]at k0;rw[q0y r1]at k1;rw[v2]at k2 r2;rw[v3]at k3 r3;refine⟨(q.1,t,s2,s3),q,hq2,rfl,⟨y,z,hqq,r2,r3⟩,b,o,by rw[e1];exact ha,⟨k0,k1,k2,k3⟩,fun i hi=>?_⟩;rcases(by omega:i=0\/i=1\/i=2\/i=3)with rfl|rfl|rfl|rfl;·exact i0
  .exact i1
  .exact i2
  .exact i3
 refine⟨ms,h1,fun w' J hp j p hj=>?_,All2.of (by rw[hl,h1]) fun j a b ha hb=>?_⟩;·obtain⟨q,_,_,_,b,o,e,⟨k0,k1,k2,k3⟩,hi⟩:=h2 j p hj;exact⟨b,o,e,(hp _ _ _ k0 (hi 0 (by omega))).1,(hp _ _ _ k1 (hi 1 (by omega))).1,(hp _ _ _ k2 (hi 2 (by omega))).1,(hp _ _ _ k3 (hi 3 (by omega))).1⟩
 grind
theorem qx2{I:Nat->Nat->Prop}{s:Sl}{l0:List (Int×Int×List D)}(hr:Rep w I (.list xs) (.slice s.1 s.2.1 s.2.2))(h:allOf playD xs=some l0):∃ps:List (Int×Int×T3),ps.length=xs.length/\(∀(w':World)(J:Nat->Nat->Prop),(∀b o u,w.cell? ⟨b,o,none⟩=some u->I b o->w'.cell? ⟨b,o,none⟩=some u/\J b o)->∀(j:Nat)p,ps[j]?=some p->∃b o,s.1=some ⟨b,o,none⟩/\qy7 w' b (o+j*15) p)/\All2 (fun a b=>a.1=b.1/\a.2.1=b.2.1/\RepT w I a.2.2 b.2.2) l0 ps:=by
 obtain⟨hl,hx⟩:=q3t h;have hshape:∀x q,playD x=some q->∃z2 z3 z4 t y z z8 z9 z10 l11 l12 l13 l14,x=.agg [.v (.int .i64 q.1),.v (.int .i64 q.2.1),.v (.int .i64 z2),.v (.int .i64 z3),.v (.int .i64 z4),.v (.int .i64 t),.list y,.list z,.v (.int .i64 z8),.v (.int .i64 z9),.v (.int .i64 z10),.list l11,.list l12,.list l13,.list l14]/\q.2.2=[.v (.int .i64 t),.list y,.list z]:=by
  intro x q hq;unfold playD at hq;split at hq;·cases hq;exact⟨_,_,_,_,_,_,_,_,_,_,_,_,_,rfl,rfl⟩
  .cases hq
 have hs:∀x∈xs,x.cells.length=15:=fun x hm=>by obtain⟨j,hj⟩:=List.mem_iff_getElem?.1 hm;obtain⟨q,hq,_⟩:=hx j x hj;obtain⟨_,_,_,_,_,_,_,_,_,_,_,_,_,rfl,_⟩:=hshape x q hq;rfl
 obtain⟨a,cap,e,hat⟩:=qud hr hs;injection e with e1 e2 e3;obtain⟨ps,h1,h2⟩:=ql8 (P:=fun j(p:Int×Int×T3)=>∃q,l0[j]?=some q/\q.1=p.1/\q.2.1=p.2.1/\RepT w I q.2.2 p.2.2/\∃b o,s.1=some ⟨b,o,none⟩/\∀(w':World)(J:Nat->Nat->Prop),(∀b o u,w.cell? ⟨b,o,none⟩=some u->I b o->w'.cell? ⟨b,o,none⟩=some u/\J b o)->qy7 w' b (o+j*15) p) xs.length fun j hj=>by
  obtain⟨q,hq,hq2⟩:=hx j xs[j] (by simp[hj]);obtain⟨z2,z3,z4,t,y,z,z8,z9,z10,l11,l12,l13,l14,hxx,hqq⟩:=hshape _ q hq;obtain⟨b,o,ha,V,hV⟩:=hat j xs[j] (by simp[hj]);rw[hxx]at hV;have hI:∀(i:Nat)x,(D.agg [.v (.int .i64 q.1),.v (.int .i64 q.2.1),.v (.int .i64 z2),.v (.int .i64 z3),.v (.int .i64 z4),.v (.int .i64 t),.list y,.list z,.v (.int .i64 z8),.v (.int .i64 z9),.v (.int .i64 z10),.list l11,.list l12,.list l13,.list l14]).cells[i]?=some (.v (.int .i64 x))->w.cell? ⟨b,o+j*15+i,none⟩=some (.int .i64 x)/\I b (o+j*15+i):=fun i x hi=>by obtain⟨⟨k,i⟩,r⟩:=hV _ _ hi;rw[q0y r]at k;exact⟨k,i⟩
  have hL:∀(i:Nat)l,(D.agg [.v (.int .i64 q.1),.v (.int .i64 q.2.1),.v (.int .i64 z2),.v (.int .i64 z3),.v (.int .i64 z4),.v (.int .i64 t),.list y,.list z,.v (.int .i64 z8),.v (.int .i64 z9),.v (.int .i64 z10),.list l11,.list l12,.list l13,.list l14]).cells[i]?=some (.list l)->∃s:Sl,(w.cell? ⟨b,o+j*15+i,none⟩=some (.slice s.1 s.2.1 s.2.2)/\I b (o+j*15+i))/\Rep w I (.list l) (.slice s.1 s.2.1 s.2.2):=fun i l hi=>by obtain⟨⟨k,i⟩,r⟩:=hV _ _ hi;obtain⟨s,e,_⟩:=q13 r;rw[e]at k r;exact⟨s,⟨k,i⟩,r⟩
  obtain⟨s6,k6,r6⟩:=hL 6 _ rfl;obtain⟨s7,k7,r7⟩:=hL 7 _ rfl;obtain⟨s11,k11,_⟩:=hL 11 _ rfl;obtain⟨s12,k12,_⟩:=hL 12 _ rfl;obtain⟨s13,k13,_⟩:=hL 13 _ rfl;obtain⟨s14,k14,_⟩:=hL 14 _ rfl;exact⟨(q.1,q.2.1,t,s6,s7),q,hq2,rfl,rfl,⟨y,z,hqq,r6,r7⟩,b,o,by rw[e1];exact ha,fun w' J hp=>have f:∀{i:Nat}{u:Value},(w.cell? ⟨b,o+j*15+i,none⟩=some u/\I b (o+j*15+i))->w'.cell? ⟨b,o+j*15+i,none⟩=some u:=fun h=>(hp _ _ _ h.1 h.2).1
   ⟨z2,z3,z4,z8,z9,z10,s11,s12,s13,s14,f (hI 0 _ rfl),f (hI 1 _ rfl),f (hI 2 _ rfl),f (hI 3 _ rfl),f (hI 4 _ rfl),f (hI 5 _ rfl),f k6,f k7,f (hI 8 _ rfl),f (hI 9 _ rfl),f (hI 10 _ rfl),f k11,f k12,f k13,f k14⟩⟩
 refine⟨ps,h1,fun w' J hp j p hj=>?_,All2.of (by rw[hl,h1]) fun j a b ha hb=>?_⟩;·obtain⟨q,_,_,_,_,b,o,e,hw⟩:=h2 j p hj;exact⟨b,o,e,hw w' J hp⟩
 grind
theorem All2.imp{α β:Type}{R S:α->β->Prop}(k:∀a b,R a b->S a b){l:List α}{m:List β}(h:All2 R l m):All2 S l m:=by induction h with|nil=>exact .nil|cons h1 _ ih=>exact .cons (k _ _ h1) ih
theorem qa8{α:Type}:∀{ps:List (Int×Int×α)}{cs:LI}{ds out:List (List α)},q1e ps cs ds=some out->out.length=ds.length
 |[],cs,ds,out,h=>by simp only[q1e,sI]at h;rw[h]|(k,a,t)::r,[],ds,out,h=>by simp[q1e]at h|(k,a,t)::r,c::cs,ds,out,h=>by
  simp only[q1e]at h;split at h
  .split at h;·rw[qa8 h,List.length_modify]
   grind
  .exact qa8 h
theorem qx5{I:Nat->Nat->Prop}{s:Sl}{cs:LI}(hr:Rep w I (.list xs) (.slice s.1 s.2.1 s.2.2))(h:allOf codeD xs=some cs):∀(j:Nat)c,cs[j]?=some c->∃b o,s.1=some ⟨b,o,none⟩/\w.cell? ⟨b,o+j,none⟩=some (.int .i64 c):=fun j c hc=>by
 obtain⟨hl,hx⟩:=q3t h;have hshape:∀x q,codeD x=some q->x=.v (.int .i64 q):=by
  intro x q hq;unfold codeD at hq;split at hq;·cases hq;rfl
  .cases hq
 have hs:∀x∈xs,x.cells.length=1:=fun x hm=>by obtain⟨j,hj⟩:=List.mem_iff_getElem?.1 hm;obtain⟨q,hq,_⟩:=hx j x hj;rw[hshape x q hq];rfl
 obtain⟨a,cap,e,hat⟩:=qud hr hs;injection e with e1 e2 e3;have hj:j<xs.length:=by rw[<-hl];exact(List.getElem?_eq_some_iff.1 hc).1
 obtain⟨q,hq,hq2⟩:=hx j xs[j] (by simp[hj]);rw[hc]at hq2;cases hq2;obtain⟨b,o,ha,V,hV⟩:=hat j xs[j] (by simp[hj]);rw[hshape _ _ hq]at hV;obtain⟨⟨k,_⟩,r⟩:=hV 0 _ rfl;rw[q0y r]at k;grind
attribute [local go_sem ↓] Go.wp_at_zero Go.wp_at_succ
theorem y2h{X:Cx}{b:Nat}{w:World}{out:List (List T3)}{out0:List (List (List D))}{B:Nat}(hB:∀c o,B<=c->X.imm c o)(hb:B<=b)(hR:RowsT b w out)(h2:All2 (All2 (RepT w X.imm)) out0 out)(n:Nat)(hn:out.length=n):Rep w X.imm (.list (out0.map fun l=>.list (l.map .agg))) (.slice (some ⟨b,0,none⟩) n n):=by
 obtain⟨cur,hC⟩:=hR;refine qxa (fun o=>hB b o hb) (fun j g e=>?_) hC h2 n hn;have hj:j<cur.size:=Decidable.byContradiction fun h=>by rw[Array.getD_eq_getD_getElem?,Array.getElem?_eq_none (by omega)]at e;cases e
 obtain⟨d,hd⟩:∃d,out[j]?=some d:=⟨out[j]'(by rw[<-hC.size];exact hj),by simp⟩;exact fun o=>hB g o (by have:=((hC.row j d hd).lt g e).1;omega)
set_option maxHeartbeats 40000000 in
set_option maxRecDepth 100000 in
theorem qun(n m mc:Nat)(am al:Option Addr)(cm cl:Nat)(ill ec m1 m2:Int)(nv:Nat)(ms:List (Bool×T3))(ps:List (Int×Int×T3))(cs:LI)(out:List (List T3))(hn:n=ms.length)(hn2:n<=1000)(hm:m=ps.length)(hm2:m<=1000)(hmc:mc=cs.length)(W:World)(Q:World->Option Addr->Prop)(hRun:Calls Tryz.prog 43 #[.agg #[.slice am n cm],.int .i64 ill,.slice al m cl] (W.alloc (.cells #[.slice am n cm] 27)) fun e w1=>∃av cv ac cc,e=.returned (.tuple #[.agg #[.slice av nv cv,.int .i64 m1,.int .i64 m2],.slice ac mc cc,.int .i64 ec])/\Q w1 ac/\w1.cell? ⟨W.heap.size,0,none⟩=some (.slice am n cm))(hM:∀w1 ac,Q w1 ac->∀(j:Nat)p,ms[j]?=some p->∃b o,am=some ⟨b,o,none⟩/\MemAt w1 b (o+j*4) p)(hP:∀w1 ac,Q w1 ac->∀(j:Nat)p,ps[j]?=some p->∃b o,al=some ⟨b,o,none⟩/\qy7 w1 b (o+j*15) p)(hD:∀w1 ac,Q w1 ac->∀(j:Nat)c,cs[j]?=some c->∃b o,ac=some ⟨b,o,none⟩/\w1.cell? ⟨b,o+j,none⟩=some (.int .i64 c))(hO:ec=0->q1e ps cs (ms.map q5b)=some out):Calls Tryz.prog 45 #[.agg #[.slice am n cm],.int .i64 ill,.slice al m cl] W fun e w2=>∃w1 ac,Q w1 ac/\Below w1.heap.size w1 w2/\((ec≠0/\e=.returned (.tuple #[.slice none 0 0,.int .i64 ec]))\/(ec=0/\e=.returned (.tuple #[.slice (some ⟨w1.heap.size+1,0,none⟩) n n,.int .i64 0])/\RowsT (w1.heap.size+1) w2 out)):=by
 obtain⟨i54,hi54,hz0,hz1,hz2⟩:∃i,Tryz.prog.info? 54=some i/\i.zero=some (.slice none 0 0)/\i.size=1/\i.bytes=24:=⟨_,rfl,rfl,rfl,rfl⟩;have hmk:∀w,(Instr.makeSlice 86 (.int .i64 n) (.int .i64 n)).run Tryz.prog w=.ok (.slice (some ⟨w.heap.size,0,none⟩) n n) (w.alloc (.cells (madeCells #[.slice none 0 0] n) 54)):=fun w=>by have:=run_make (P:=Tryz.prog) w 86 54 i54 _ Tryz.underlying86 hi54 hz0 .i64 .i64 n n (by omega) (Int.le_refl _) (by rw[hz2];omega) (by omega);simp only[tN,hz1,Nat.mul_one]at this;exact this
 clear hi54 hz0 hz1 hz2;replace hn:Hid (n=ms.length):=hn;replace hn2:Hid (n<=1000):=hn2;replace hM:=hidOf hM;replace hP:=hidOf hP;replace hD:=hidOf hD;replace hO:=hidOf hO;replace hm:=hidOf hm;replace hm2:=hidOf hm2;replace hmc:=hidOf hmc;replace hn:Hid (n=ms.length):=hn;replace hn2:Hid (n<=1000):=hn2;by_cases he:ec=0;case neg=>
  have he2:(ec !=0)=true:=by simp[he]
  clear hmk;go_enter Tryz.func45,Tryz.ntmps45;go_wp2_with(go_at_call 43;refine hRun.mono ?_;rintro e w1⟨av,cv,ac,cc,rfl,hQ,hbox⟩);go_ret2;exact⟨w1,_,hQ,(Below.refl _ w1).alloc (Nat.le_refl _) _,.inl ⟨he,rfl⟩⟩
 subst he;go_enter Tryz.func45,Tryz.ntmps45;go_wp2_with(go_at_call 43;refine hRun.mono ?_;rintro e w1⟨av,cv,ac,cc,rfl,hQ,hbox⟩;have hb2:=fun o=>(World.grownBy_alloc w1 o none).cell hbox (by simp);have hb3:=fun o o'=>(World.grownBy_alloc (w1.alloc o) o' none).cell (hb2 o) (by simp));generalize hw3:(w1.alloc (Obj.cells #[Value.slice av nv cv,Value.int IntKind.i64 m1,Value.int IntKind.i64 m2] 33)).alloc (Obj.cells (madeCells #[Value.slice none 0 0] n) 54)=w3;clear hmk;have hB0:Below w1.heap.size w1 w3:=by rw[<-hw3];exact((Below.refl _ w1).alloc (Nat.le_refl _) _).alloc (by simp) _
 go_loopw [34](fun i wr=>∃k:Nat,k<=n/\i=.int .i64 k/\Below w1.heap.size w1 wr/\RowsT (w1.heap.size+1) wr (begT ms k))(fun i _=>n-(intOf i).toNat);case atStart=>exact⟨0,Nat.zero_le _,rfl,hB0,by have h:=qmg (w:=w1.alloc (Obj.cells #[Value.slice av nv cv,Value.int IntKind.i64 m1,Value.int IntKind.i64 m2] 33)) (n:=n);rw[qs0,<-hn.out];simpa[hw3]using h⟩
 case round=>
  obtain⟨k,hk,rfl,hB,hR⟩:=hrel;have hn2':=hn2.out;have hbx:wr.cell? ⟨W.heap.size,0,none⟩=some (.slice am n cm):=(hB.cell (World.block_lt_of_cell? w1 _ hbox)).trans hbox;by_cases hlt:k<n
  .obtain⟨p,hp⟩:∃p,ms[k]?=some p:=by have:=hn.out;exact⟨ms[k]'(by omega),by simp[<-this,hlt]⟩
   obtain⟨b,o,rfl,c0,c1,c2,c3⟩:=hM.out w1 _ hQ k p hp;have hwr:∀(a:Addr)u,w1.cell? a=some u->wr.cell? a=some u:=fun a u h=>(hB.cell (World.block_lt_of_cell? w1 _ h)).trans h;replace c0:=hwr _ _ c0;replace c1:=hwr _ _ c1;replace c2:=hwr _ _ c2;replace c3:=hwr _ _ c3;obtain⟨dcl,thr,sa,sb⟩:=p;cases dcl with
   |false=>
    go_wp2;go_roundw;case rel=>exact⟨k+1,by omega,by go_num,hB.grown (World.grownBy_alloc _ _ none) hB.size (fun j hj=>by cases hj),by rw[qrq hp];exact qgb hR (World.grownBy_alloc _ _ none)⟩
    case measure=>simp[intOf];omega|true=>
    obtain⟨cur,hC⟩:=hR;have hkm:k<ms.length:=by have:=hn.out;omega
    have hk0:=y5q hkm;have hcur:=hC.blk;have hge:cur[k]?=some (cur.getD k undef):=by
     have:k<cur.size:=by rw[hC.size];exact(List.getElem?_eq_some_iff.1 hk0).1
     simp[Array.getD_eq_getD_getElem?,this]
    have hown:wr.ownsRow (w1.heap.size+2) 56 3 (cur.getD k undef) 0 []:=hC.row k [] hk0;obtain⟨ad,cp,hv⟩:∃ad cp,cur.getD k undef=.slice ad 0 cp:=by
     rcases hown.2 with⟨h,_⟩|⟨g,cap,c,h,_⟩;·exact⟨none,0,h⟩
     .exact⟨_,cap,h⟩
    rw[hv]at hge hown;have q0:wr.cell? ⟨w1.heap.size+1,k,none⟩=some (.slice ad 0 cp):=by rw[cell_of_row wr _ k _ _ _ hcur];exact hge
    have q0a:∀o,(wr.alloc o).cell? ⟨w1.heap.size+1,k,none⟩=some (.slice ad 0 cp):=fun o=>(World.grownBy_alloc wr o none).cell q0 (by simp);have hlt2:(0:Int)<=(k:Int):=by omega
    have hlt3:(k:Int)<(n:Int):=by omega
    go_wp2;generalize hwq:wr.alloc (Obj.cells #[Value.bool true,Value.int IntKind.i64 thr,Value.slice sa.1 sa.2.1 sa.2.2,Value.slice sb.1 sb.2.1 sb.2.2] 111)=wq;have hgq:wr.grownBy wq none:=by rw[<-hwq];exact World.grownBy_alloc _ _ _
    have hbq:wq.heap[wr.heap.size]?=some (.cells #[.bool true,.int .i64 thr,.slice sa.1 sa.2.1 sa.2.2,.slice sb.1 sb.2.1 sb.2.2] 111 (0,0)):=by rw[<-hwq];exact heap_alloc_new wr _
    have r0:wq.cell? ⟨w1.heap.size+1,k,none⟩=some (.slice ad 0 cp):=hgq.cell q0 (by simp);have r1:=cell_of_row wq _ 1 _ _ _ hbq;have r2:=cell_of_row wq _ 2 _ _ _ hbq;have r3:=cell_of_row wq _ 3 _ _ _ hbq;simp only[List.size_toArray,List.length_cons,List.length_nil,Nat.zero_add,Nat.reduceAdd,Nat.reduceLT,getElem?_pos,List.getElem_toArray,List.getElem_cons_zero,List.getElem_cons_succ]at r1 r2 r3;have n0:w1.heap.size+1<wq.heap.size:=World.block_lt_of_cell? wq _ r0;have r0a:∀o,(wq.alloc o).cell? ⟨w1.heap.size+1,k,none⟩=some (.slice ad 0 cp):=fun o=>(World.grownBy_alloc wq o none).cell r0 (by simp);have r1a:=fun o=>(World.grownBy_alloc wq o none).cell r1 (by simp);have r2a:=fun o=>(World.grownBy_alloc wq o none).cell r2 (by simp);have r3a:=fun o=>(World.grownBy_alloc wq o none).cell r3 (by simp);have hownq:=hown.kept hgq (by cases hx:(Value.slice ad 0 cp).ownBlock<;>simp);have fz0:wq.frozen? ⟨w1.heap.size+1,k,none⟩=false:=(World.frozen?_of_block (w:=wr) (hgq.block _ (Array.getElem?_eq_some_iff.1 hcur).1 (by simp))).trans (frozen_of_row wr _ k cur 54 hcur);clear q0 q0a hge hbq;obtain⟨i56,hi56,hy0,hy1,hy2⟩:∃i,Tryz.prog.info? 56=some i/\i.zero=some (.agg #[.int .i64 0,.slice none 0 0,.slice none 0 0])/\i.size=3/\i.bytes=56:=⟨_,rfl,rfl,rfl,rfl⟩;go_region_law((refine step_append_lies _ (by rfl) _ _ _ (by rfl) (w1.heap.size+2) 56 i56 _ 3 56 Tryz.underlying54 hi56 hy0 hy1 hy2 rfl (by decide) (.slice ad 0 cp) 0 [] (by rfl) ((hownq.alloc _).drew) ⟨wq.heap.size,0,none⟩ 1 1 [.int .i64 0,.slice none 0 0,.slice none 0 0] (by rfl) (by rfl) (World.news_of_block (cs:=#[.int .i64 0,.slice none 0 0,.slice none 0 0]) (t:=56) (fr:=(0,0)) (heap_alloc_new wq _)) (by simp[Value.oneCell']) (by omega) (by decide) (by decide) (by simp;omega) (wq.heap.size+1) (by simp) ?_;intro g cap w2 hown2 hgrow hat hlt;obtain⟨p0,p1,p2,p3,p4,p5,p6,p7,p8,p9,p10,p11⟩:=qgi (c:=0) (x:=0) (y:=1) (z:=2) rfl rfl rfl r0 fz0 hownq hown2 hgrow));all_goals
     go_wp2;go_roundw;case rel=>have key:∀w3,_->Below w1.heap.size w1 w3/\RowsT (w1.heap.size+1) w3 _:=fun w3 hw=>qrt (t:=(thr,sa,sb)) (x:=0) (y:=1) (z:=2) (c:=0) (d:=[]) rfl rfl rfl hC hk0 rfl hv hgq hgrow hown2 hat hB (Nat.le_succ _) (w3:=w3) hw;exact⟨k+1,by omega,by go_num,by rw[qkg hp];exact key _ (by first|exact .inl rfl|exact .inr rfl)⟩
     case measure=>simp[intOf];omega
  .have hke:k=n:=by omega
   subst hke;have hO':q1e ps cs (ms.map q5b)=some out:=by first|exact hO.out trivial|exact hO.out rfl
   rw[<-qi7,<-hn.out]at hO';clear hbx;go_wp2;go_loopw [55](fun i wq=>∃j:Nat,j<=m/\i=.int .i64 j/\Below w1.heap.size w1 wq/\∃ds,RowsT (w1.heap.size+1) wq ds/\q1e (ps.drop j) (cs.drop j) ds=some out/\ds.length=k/\∀d∈ds,d.length<=j+1)(fun i _=>m-(intOf i).toNat);case atStart=>exact⟨0,Nat.zero_le _,rfl,hB,begT ms k,hR,by simpa using hO',by rw[hn.out,qi7];simp,fun d hd=>by rw[hn.out,qi7]at hd;obtain⟨p,_,rfl⟩:=List.mem_map.1 hd;unfold q5b;split<;>simp⟩
   case round=>
    obtain⟨j,hj,rfl,hB2,ds,hR2,hrest,hdl,hlen⟩:=hrel;have hm2':=hm2.out;have hmp:=hm.out;by_cases hjm:j<m
    .obtain⟨p,hp⟩:∃p,ps[j]?=some p:=⟨ps[j]'(by omega),by simp[<-hmp,hjm]⟩;clear hmp;obtain⟨bp,op,rfl,z2,z3,z4,z8,z9,z10,s11,s12,s13,s14,d0,d1,d2,d3,d4,d5,d6,d7,d8,d9,d10,d11,d12,d13,d14⟩:=hP.out w1 _ hQ j p hp;have hwq:∀(a:Addr)u,w1.cell? a=some u->wr.cell? a=some u:=fun a u h=>(hB2.cell (World.block_lt_of_cell? w1 _ h)).trans h;replace d0:=hwq _ _ d0;replace d1:=hwq _ _ d1;replace d2:=hwq _ _ d2;replace d3:=hwq _ _ d3;replace d4:=hwq _ _ d4;replace d5:=hwq _ _ d5;replace d6:=hwq _ _ d6;replace d7:=hwq _ _ d7;replace d8:=hwq _ _ d8;replace d9:=hwq _ _ d9;replace d10:=hwq _ _ d10;replace d11:=hwq _ _ d11;replace d12:=hwq _ _ d12;replace d13:=hwq _ _ d13;replace d14:=hwq _ _ d14;obtain⟨kd,fr,thr,sa,sb⟩:=p;have hpd:ps.drop j=(kd,fr,thr,sa,sb)::ps.drop (j+1):=by obtain⟨h1,h2⟩:=List.getElem?_eq_some_iff.1 hp;rw[List.drop_eq_getElem_cons h1,h2]
     obtain⟨cd,hcd⟩:∃cd,cs[j]?=some cd:=by cases h:cs[j]? with|some cd=>exact⟨cd,rfl⟩|none=>rw[hpd,List.drop_eq_nil_of_le (List.getElem?_eq_none_iff.1 h)]at hrest;simp[q1e]at hrest
     obtain⟨bc,oc,rfl,g0⟩:=hD.out w1 _ hQ j cd hcd;replace g0:=hwq _ _ g0;have hjc:j<cs.length:=(List.getElem?_eq_some_iff.1 hcd).1;have hcdr:cs.drop j=cd::cs.drop (j+1):=by obtain⟨h1,h2⟩:=List.getElem?_eq_some_iff.1 hcd;rw[List.drop_eq_getElem_cons h1,h2]
     rw[hpd,hcdr]at hrest;have hmc':=hmc.out;have hj0:(0:Int)<=(j:Int):=by omega
     have hj1:(j:Int)<(mc:Int):=by omega
     have hgc:∀o,(wr.alloc o).cell? ⟨bc,oc+j,none⟩=some (.int .i64 cd):=fun o=>(World.grownBy_alloc wr o none).cell g0 (by simp);clear hmc';by_cases hkd:kd=3
     .subst hkd;by_cases hcd0:cd=0
      .subst hcd0;go_wp2;generalize hwq:wr.alloc (Obj.cells #[Value.int IntKind.i64 3,Value.int IntKind.i64 fr,Value.int IntKind.i64 z2,Value.int IntKind.i64 z3,Value.int IntKind.i64 z4,Value.int IntKind.i64 thr,Value.slice sa.1 sa.2.1 sa.2.2,Value.slice sb.1 sb.2.1 sb.2.2,Value.int IntKind.i64 z8,Value.int IntKind.i64 z9,Value.int IntKind.i64 z10,Value.slice s11.1 s11.2.1 s11.2.2,Value.slice s12.1 s12.2.1 s12.2.2,Value.slice s13.1 s13.2.1 s13.2.2,Value.slice s14.1 s14.2.1 s14.2.2] 70)=wq;have hgq:wr.grownBy wq none:=by rw[<-hwq];exact World.grownBy_alloc _ _ _
       have hbq:wq.heap[wr.heap.size]?=some (.cells #[.int .i64 3,.int .i64 fr,.int .i64 z2,.int .i64 z3,.int .i64 z4,.int .i64 thr,.slice sa.1 sa.2.1 sa.2.2,.slice sb.1 sb.2.1 sb.2.2,.int .i64 z8,.int .i64 z9,.int .i64 z10,.slice s11.1 s11.2.1 s11.2.2,.slice s12.1 s12.2.1 s12.2.2,.slice s13.1 s13.2.1 s13.2.2,.slice s14.1 s14.2.1 s14.2.2] 70 (0,0)):=by rw[<-hwq];exact heap_alloc_new wr _
       clear hwq d0 d1 d2 d3 d4 d5 d6 d7 d8 d9 d10 d11 d12 d13 d14 g0 hgc;have hcnd:0<=fr/\fr<ds.length:=by
        rw[q1e,if_pos ⟨rfl,rfl⟩]at hrest;split at hrest;·assumption
        .cases hrest
       rw[q1e,if_pos ⟨rfl,rfl⟩,if_pos hcnd]at hrest;obtain⟨kf,rfl⟩:=Int.eq_ofNat_of_zero_le hcnd.1;rw[tN]at hrest;have hkf:kf<ds.length:=by omega
       obtain⟨cur,hC⟩:=hR2;obtain⟨d,hd⟩:∃d,ds[kf]?=some d:=⟨ds[kf],by simp[hkf]⟩;have hdl1:=hlen d (List.mem_of_getElem? hd);have hge:cur[kf]?=some (cur.getD kf undef):=by
        have:kf<cur.size:=by rw[hC.size];exact hkf
        simp[Array.getD_eq_getD_getElem?,this]
       have hown:wr.ownsRow (w1.heap.size+2) 56 3 (cur.getD kf undef) d.length (d.flatMap rowT):=hC.row kf d hd;obtain⟨ad,cp,hv⟩:∃ad cp,cur.getD kf undef=.slice ad d.length cp:=by
        rcases hown.2 with⟨h,h0⟩|⟨g,cap,c,h,_⟩;·exact⟨none,0,by rw[h,h0]⟩
        .exact⟨_,cap,h⟩
       rw[hv]at hge hown;have q0:wr.cell? ⟨w1.heap.size+1,kf,none⟩=some (.slice ad d.length cp):=by rw[cell_of_row wr _ kf _ _ _ hC.blk];exact hge
       have hk0:(0:Int)<=(kf:Int):=by omega
       have hk1:(kf:Int)<(k:Int):=by omega
       obtain⟨i56,hi56,hy0,hy1,hy2⟩:∃i,Tryz.prog.info? 56=some i/\i.zero=some (.agg #[.int .i64 0,.slice none 0 0,.slice none 0 0])/\i.size=3/\i.bytes=56:=⟨_,rfl,rfl,rfl,rfl⟩;go_region;all_goals go_wp2
       .generalize hws:(wq.alloc (Obj.cells #[Value.bool false] 4)).drew=ws;have hgs:wr.grownBy ws none:=by rw[<-hws];exact⟨hgq.os,hgq.tape,hgq.output,Nat.le_trans hgq.size (by simp),fun j hj _=>(heap_alloc_old wq _ (Nat.lt_of_lt_of_le hj hgq.size)).trans (hgq.block j hj (by simp))⟩
        have hbs:=(show ws.heap[wr.heap.size]?=wq.heap[wr.heap.size]? by rw[<-hws];exact heap_alloc_old wq _ (Array.getElem?_eq_some_iff.1 hbq).1).trans hbq;clear hws;have r0:ws.cell? ⟨w1.heap.size+1,kf,none⟩=some (.slice ad d.length cp):=hgs.cell q0 (by simp);have r1:=cell_of_row ws _ 1 _ _ _ hbs;have r5:=cell_of_row ws _ 5 _ _ _ hbs;have r6:=cell_of_row ws _ 6 _ _ _ hbs;have r7:=cell_of_row ws _ 7 _ _ _ hbs;simp only[List.size_toArray,List.length_cons,List.length_nil,Nat.zero_add,Nat.reduceAdd,Nat.reduceLT,getElem?_pos,List.getElem_toArray,List.getElem_cons_zero,List.getElem_cons_succ]at r1 r5 r6 r7;have n0:w1.heap.size+1<ws.heap.size:=World.block_lt_of_cell? ws _ r0;have r0a:=fun o=>(World.grownBy_alloc ws o none).cell r0 (by simp);have r1a:=fun o=>(World.grownBy_alloc ws o none).cell r1 (by simp);have r5a:=fun o=>(World.grownBy_alloc ws o none).cell r5 (by simp);have r6a:=fun o=>(World.grownBy_alloc ws o none).cell r6 (by simp);have r7a:=fun o=>(World.grownBy_alloc ws o none).cell r7 (by simp);have hownq:=hown.kept hgs (by cases hx:(Value.slice ad d.length cp).ownBlock<;>simp);have fz0:ws.frozen? ⟨w1.heap.size+1,kf,none⟩=false:=(World.frozen?_of_block (w:=wr) (hgs.block _ (Array.getElem?_eq_some_iff.1 hC.blk).1 (by simp))).trans (frozen_of_row wr _ kf cur 54 hC.blk);clear q0 hge hbs hbq;go_region_law((refine step_append_lies _ (by rfl) _ _ _ (by rfl) (w1.heap.size+2) 56 i56 _ 3 56 Tryz.underlying54 hi56 hy0 hy1 hy2 rfl (by decide) (.slice ad d.length cp) d.length _ (by rfl) ((hownq.alloc _).drew) ⟨ws.heap.size,0,none⟩ 1 1 (rowT (thr,sa,sb)) (by rfl) (by rfl) (World.news_of_block (cs:=#[.int .i64 thr,.slice sa.1 sa.2.1 sa.2.2,.slice sb.1 sb.2.1 sb.2.2]) (t:=56) (fr:=(0,0)) (heap_alloc_new ws _)) (by simp[Value.oneCell',rowT]) (by omega) (by unfold maxLen;omega) (by omega) (by simp;omega) (ws.heap.size+1) (by simp) ?_;intro g cap w2 hown2 hgrow hat hlt;have e1:w2.cell? ⟨wr.heap.size,1,none⟩=some (.int .i64 kf):=hgrow.cell (r1a _) (fun e=>Nat.lt_irrefl _ (hown.lt _ e.symm).2);obtain⟨p0,p1,p2,p3,p4,p5,p6,p7,p8,p9,p10,p11⟩:=qgi (x:=d.length*3) (y:=d.length*3+1) (z:=d.length*3+2) rfl rfl rfl r0 fz0 hownq hown2 hgrow));all_goals
         have key:∀w3,w3=w2.setCell ⟨w1.heap.size+1,kf,none⟩ (.slice (some ⟨g,0,none⟩) (d.length+1) cap)->Below w1.heap.size w1 w3/\RowsT (w1.heap.size+1) w3 (ds.modify kf (·++[(thr,sa,sb)])):=fun w3 hw=>by rw[hw];exact qsm (t:=(thr,sa,sb)) hC hd rfl hv hgs hgrow (hown2.lt g rfl).1 hat hB2 (Nat.le_succ _) (World.grownBy.refl _ _) (by rw[List.flatMap_append];simpa using hown2)
         go_wp2;go_roundw;case rel=>exact⟨j+1,by omega,by go_num,(key _ rfl).1,_,(key _ rfl).2,hrest,by rw[List.length_modify];exact hdl,qj5 hlen hd⟩
         case measure=>simp[intOf];omega
       .generalize hws:(wq.alloc (Obj.cells #[Value.bool true] 4)).drew=ws;have hgs:wr.grownBy ws none:=by rw[<-hws];exact⟨hgq.os,hgq.tape,hgq.output,Nat.le_trans hgq.size (by simp),fun j hj _=>(heap_alloc_old wq _ (Nat.lt_of_lt_of_le hj hgq.size)).trans (hgq.block j hj (by simp))⟩
        have hbs:=(show ws.heap[wr.heap.size]?=wq.heap[wr.heap.size]? by rw[<-hws];exact heap_alloc_old wq _ (Array.getElem?_eq_some_iff.1 hbq).1).trans hbq;clear hws;have r0:ws.cell? ⟨w1.heap.size+1,kf,none⟩=some (.slice ad d.length cp):=hgs.cell q0 (by simp);have r1:=cell_of_row ws _ 1 _ _ _ hbs;have r5:=cell_of_row ws _ 5 _ _ _ hbs;have r6:=cell_of_row ws _ 6 _ _ _ hbs;have r7:=cell_of_row ws _ 7 _ _ _ hbs;simp only[List.size_toArray,List.length_cons,List.length_nil,Nat.zero_add,Nat.reduceAdd,Nat.reduceLT,getElem?_pos,List.getElem_toArray,List.getElem_cons_zero,List.getElem_cons_succ]at r1 r5 r6 r7;have n0:w1.heap.size+1<ws.heap.size:=World.block_lt_of_cell? ws _ r0;have r0a:=fun o=>(World.grownBy_alloc ws o none).cell r0 (by simp);have r1a:=fun o=>(World.grownBy_alloc ws o none).cell r1 (by simp);have r5a:=fun o=>(World.grownBy_alloc ws o none).cell r5 (by simp);have r6a:=fun o=>(World.grownBy_alloc ws o none).cell r6 (by simp);have r7a:=fun o=>(World.grownBy_alloc ws o none).cell r7 (by simp);have hownq:=hown.kept hgs (by cases hx:(Value.slice ad d.length cp).ownBlock<;>simp);have fz0:ws.frozen? ⟨w1.heap.size+1,kf,none⟩=false:=(World.frozen?_of_block (w:=wr) (hgs.block _ (Array.getElem?_eq_some_iff.1 hC.blk).1 (by simp))).trans (frozen_of_row wr _ kf cur 54 hC.blk);clear q0 hge hbs hbq;go_region_law((refine step_append_lies _ (by rfl) _ _ _ (by rfl) (w1.heap.size+2) 56 i56 _ 3 56 Tryz.underlying54 hi56 hy0 hy1 hy2 rfl (by decide) (.slice ad d.length cp) d.length _ (by rfl) ((hownq.alloc _).drew) ⟨ws.heap.size,0,none⟩ 1 1 [.int .i64 0,.slice none 0 0,.slice none 0 0] (by rfl) (by rfl) (World.news_of_block (cs:=#[.int .i64 0,.slice none 0 0,.slice none 0 0]) (t:=56) (fr:=(0,0)) (heap_alloc_new ws _)) (by simp[Value.oneCell']) (by omega) (by unfold maxLen;omega) (by omega) (by simp;omega) (ws.heap.size+1) (by simp) ?_;intro g cap w2 hown2 hgrow hat hlt;obtain⟨p0,p1,p2,p3,p4,p5,p6,p7,p8,p9,p10,p11⟩:=qgi (x:=d.length*3) (y:=d.length*3+1) (z:=d.length*3+2) rfl rfl rfl r0 fz0 hownq hown2 hgrow));all_goals
         have key:∀w3,_->Below w1.heap.size w1 w3/\RowsT (w1.heap.size+1) w3 _:=fun w3 hw=>qrt (t:=(thr,sa,sb)) (x:=d.length*3) (y:=d.length*3+1) (z:=d.length*3+2) rfl rfl rfl hC hd rfl hv hgs hgrow hown2 hat hB2 (Nat.le_succ _) (w3:=w3) hw;go_wp2;go_roundw;case rel=>exact⟨j+1,by omega,by go_num,(key _ (by first|exact .inl rfl|exact .inr rfl)).1,_,(key _ (by first|exact .inl rfl|exact .inr rfl)).2,hrest,by rw[List.length_modify];exact hdl,qj5 hlen hd⟩
         case measure=>simp[intOf];omega
      .have hcd1:(cd==0)=false:=by simp[hcd0]
       go_wp2;go_roundw;case rel=>exact⟨j+1,by omega,by go_num,hB2.grown (World.grownBy_alloc _ _ none) hB2.size (fun j hj=>by cases hj),ds,qgb hR2 (World.grownBy_alloc _ _ none),by simpa[q1e,hcd0]using hrest,hdl,fun d hd=>by have:=hlen d hd;omega⟩
       case measure=>simp[intOf];omega
     .have hkd1:(kd==3)=false:=by simp[hkd]
      go_wp2;go_roundw;case rel=>exact⟨j+1,by omega,by go_num,hB2.grown (World.grownBy_alloc _ _ none) hB2.size (fun j hj=>by cases hj),ds,qgb hR2 (World.grownBy_alloc _ _ none),by simpa[q1e,hkd]using hrest,hdl,fun d hd=>by have:=hlen d hd;omega⟩
      case measure=>simp[intOf];omega
    .have hjm2:j=m:=by omega
     subst hjm2;go_wp2;go_ret2;refine⟨w1,_,hQ,hB2,.inr ⟨by trivial,rfl,?_⟩⟩;rw[List.drop_eq_nil_of_le (by rw[hmp];exact Nat.le_refl _)]at hrest;simp only[q1e,sI]at hrest;rw[<-hrest];exact hR2
theorem qt9:ybi env 45 43 qar:=by
 intro vs hp v1 v hp' hk X w args hH hA hrun;unfold qar at hk;split at hk
 .rename_i vD zs zi csD ec msD ill psD;split at hk
  .rename_i ms0 ps0 cs h1 h2 h3;split at hk
   .rename_i hlen;have h0:=(hA.2 0 _ rfl).2;have g1:=q0y (show Rep w X.imm (.v (.int .i64 ill)) (args.getD 1 undef)from(hA.2 1 _ rfl).2);have g2:Rep w X.imm (.list psD) (args.getD 2 undef):=(hA.2 2 _ rfl).2;obtain⟨va,e0,hva,hvr⟩:=q5y (show Rep w X.imm (.agg [.list msD]) (args.getD 0 undef)from h0);have hrm:=hvr 0 _ rfl;obtain⟨sm,em,hml⟩:=q13 hrm;rw[em]at hrm;obtain⟨sl,el,hll⟩:=q13 g2;rw[el]at g2;have ha:args=#[.agg #[.slice sm.1 sm.2.1 sm.2.2],.int .i64 ill,.slice sl.1 sl.2.1 sl.2.2]:=by rw[arr3 hA.1,e0,arr1 hva,em,g1,el]
    obtain⟨ms,hms,hMat,hMrel⟩:=y1i hrm h1;obtain⟨ps,hps,hPat,hPrel⟩:=qx2 g2 h2;obtain⟨hcl,_⟩:=q3t h3;obtain⟨hml0,_⟩:=q3t h1;obtain⟨hpl0,_⟩:=q3t h2;have hg0:=World.grownBy_alloc w (.cells #[.slice sm.1 sm.2.1 sm.2.2] 27) none;obtain⟨hE0,hH0⟩:=hH.grown hg0;have hA0:Ab.ArgRel (w.alloc (.cells #[.slice sm.1 sm.2.1 sm.2.2] 27)) X [.d (.agg [.list msD]),.d (.v (.int .i64 ill)),.d (.list psD)] args:=⟨hA.1,fun i u hu=>by have q:=hA.2 i u hu;refine⟨q.1,?_⟩;rcases(by have:=(List.getElem?_eq_some_iff.1 hu).1;simp at this;omega:i=0\/i=1\/i=2)with rfl|rfl|rfl<;>cases hu<;>exact hE0.rep q.2⟩;have hcall:=hrun _ hH0 hA0;rw[ha]at hcall⊢;have hout:ec=0->∃out0 out,v=.tup [.d (.list (out0.map fun l=>.list (l.map .agg))),.d (.v (.int .i64 0))]/\hp'=[]/\q1e ps cs (ms.map q5b)=some out/\All2 (All2 (RepT w X.imm)) out0 out:=fun he=>by
     rw[if_pos he]at hk;split at hk
     .rename_i out0 ho;cases hk;obtain⟨out,k1,k2⟩:=y0u hPrel (hMrel.map (S:=All2 (RepT w X.imm)) (f:=fun m:Bool×List D=>if m.1 then [m.2]else []) (g:=q5b) fun a b h=>by
       unfold q5b;rw[h.1];split;·exact .cons h.2 .nil
       .exact .nil) ho;exact⟨out0,out,rfl,rfl,k1,k2⟩
     .cases hk
    have hne:ec≠0->v=.tup [.d (.list []),.d (.v (.int .i64 ec))]/\hp'=[]:=fun he=>by rw[if_neg he]at hk;cases hk;exact⟨rfl,rfl⟩
    refine(qun sm.2.1 sl.2.1 csD.length sm.1 sl.1 sm.2.2 sl.2.2 ill ec zs zi vD.length ms ps cs (if he:ec=0 then(hout he).choose_spec.choose else []) (hml.trans hms.symm) (by rw[hml,<-hml0];exact hlen.1) (hll.trans hps.symm) (by rw[hll,<-hpl0];exact hlen.2) hcl.symm w (fun w1 ac=>∃X1,(∃more,X1.mu=X.mu++more)/\Ext X (w.alloc (.cells #[.slice sm.1 sm.2.1 sm.2.2] 27)) X1 w1/\HRel env X1 [] w1/\∃cc,Rep w1 X1.imm (.list csD) (.slice ac csD.length cc)) ?_ ?_ ?_ ?_ ?_).mono ?_
    .refine Calls.mono hcall ?_;rintro e w1⟨val,rfl,X1,hm1,hE1,hH1,hres⟩;obtain⟨_,_,_,vt,rfl,hvt,hvr⟩:=hres.plain rfl;obtain⟨_,q0⟩:=hvr 0 _ rfl;obtain⟨_,q1⟩:=hvr 1 _ rfl;obtain⟨_,q2⟩:=hvr 2 _ rfl;obtain⟨va',e0',hva',hvr'⟩:=q5y (show Rep w1 X1.imm (.agg [.list vD,.v (.int .i64 zs),.v (.int .i64 zi)]) (vt.getD 0 undef)from q0);obtain⟨sv,ev,hvl⟩:=q13 (hvr' 0 _ rfl);obtain⟨sc,esc,hcl2⟩:=q13 (show Rep w1 X1.imm (.list csD) (vt.getD 1 undef)from q1);have hq1:Rep w1 X1.imm (.list csD) (vt.getD 1 undef):=q1;rw[esc,hcl2]at hq1;refine⟨sv.1,sv.2.2,sc.1,sc.2.2,?_,⟨X1,hm1,hE1,hH1,_,hq1⟩,?_⟩;·rw[arr3 hvt,e0',arr3 hva',ev,q0y (hvr' 1 _ rfl),q0y (hvr' 2 _ rfl),esc,q0y (show Rep w1 X1.imm (.v (.int .i64 ec)) (vt.getD 2 undef)from q2),hvl,hcl2]
     .have hnone:X.G w.heap.size=none:=by cases hx:X.G w.heap.size with|none=>rfl|some lk=>have:=hH.gdom _ _ _ (show X.G w.heap.size=some (lk.1,lk.2)from hx);omega
      rw[cell?_of_heap (hE1.free w.heap.size (by simp) hnone).2 0];exact cell_of_row _ _ 0 _ _ _ (heap_alloc_new w _)
    .rintro w1 ac⟨X1,_,hE1,_⟩;exact hMat w1 X1.imm fun b o u hc hi=>by obtain⟨c1,i1⟩:=hE0.point hc hi;exact hE1.point c1 i1
    .rintro w1 ac⟨X1,_,hE1,_⟩;exact hPat w1 X1.imm fun b o u hc hi=>by obtain⟨c1,i1⟩:=hE0.point hc hi;exact hE1.point c1 i1
    .rintro w1 ac⟨X1,_,_,_,cc,hcc⟩;exact qx5 (s:=(ac,csD.length,cc)) hcc h3
    .intro he;rw[dif_pos he];exact(hout he).choose_spec.choose_spec.2.2.1
    .rintro e w2⟨w1,ac,⟨X1,hm1,hE1,hH1,_⟩,hB,hfin⟩;have hg1:w1.grownBy w2 none:=⟨hB.os,hB.tape,hB.output,hB.size,fun j hj _=>hB.block j hj⟩;obtain⟨hE2,hH2⟩:=hH1.grown hg1;have hE01:Ext X w X1 w2:=Ext.trans hH.gdom (Ext.trans hH.gdom hE0 hE1) hE2;rcases hfin with⟨he,rfl⟩|⟨he,rfl,hR⟩;·obtain⟨rfl,rfl⟩:=hne he;exact⟨_,rfl,X1,hm1,hE01,hH2,.inl ⟨⟨rfl,rfl,(fun _ e=>by cases e),_,rfl,rfl,fun j c hj=>by
       rcases(by have:=(List.getElem?_eq_some_iff.1 hj).1;simp at this;omega:j=0\/j=1)with rfl|rfl<;>cases hj;·exact⟨rfl,.empty _ _⟩
       .exact⟨rfl,.v _ rfl⟩⟩,rfl⟩⟩
     .rw[dif_pos he]at hR;have hsp:=(hout he).choose_spec.choose_spec;generalize(hout he).choose_spec.choose=out at hR hsp;generalize(hout he).choose=out0 at hsp;obtain⟨rfl,rfl,hpl,hrel⟩:=hsp;have hol:out.length=sm.2.1:=by rw[qa8 hpl,List.length_map,hms,hml]
      have hnew:∀c,w1.heap.size<=c->X1.G c=none/\∀o,X1.amb c o:=fun c hc=>⟨by cases hx:X1.G c with|none=>rfl|some lk=>have:=hH1.gdom _ _ _ (show X1.G c=some (lk.1,lk.2)from hx);omega,fun o=>hH1.amb c o hc⟩;have himm:∀c o,w1.heap.size<=c->X1.imm c o:=fun c o h=>⟨(hnew c h).2 o,fun l k e=>by rw[(hnew c h).1]at e;cases e⟩;have hrel2:All2 (All2 (RepT w2 X1.imm)) out0 out:=hrel.imp fun _ _ h=>h.imp fun _ _⟨y,z,e,r1,r2⟩=>⟨y,z,e,hE01.rep r1,hE01.rep r2⟩;exact⟨_,rfl,X1,hm1,hE01,hH2,.inl ⟨⟨rfl,rfl,(fun _ e=>by cases e),_,rfl,rfl,fun j c hj=>by
       rcases(by have:=(List.getElem?_eq_some_iff.1 hj).1;simp at this;omega:j=0\/j=1)with rfl|rfl<;>cases hj;·exact⟨rfl,y2h himm (Nat.le_succ _) hR hrel2 _ hol⟩
       .exact⟨rfl,.v _ rfl⟩⟩,rfl⟩⟩
   .cases hk
  .cases hk
 .cases hk
variable {l : List D} {b : Nat}
theorem y0w{g f:Nat}(h:ybi env f g qar):PreOk env f (qbe g):=by
 intro C hC vs hp v hp' hk X w args hH hA;simp only[qbe]at hk;split at hk;·rename_i v1 hg;exact h vs hp v1 v hp' hk X w args hH hA fun w' h1 h2=>hC g vs hp v1 [] hg X w' args h1 h2
 simp_all
structure St(X1:Cx)(w1:World)(S:Nat->Prop)(X:Cx)(w:World):Prop where
 mu:∃more,X.mu=X1.mu++more
 ext:Ext X1 w1 {X with amb:=X1.amb} w
 rel:HRel env X [] w
 own:∀b,S b->w1.heap.size<=b/\b<w.heap.size/\X.G b=none/\∀o,¬X.amb b o
 amb:∀b o,X.amb b o->X1.amb b o
 old:∀b o,b<w1.heap.size->X1.amb b o->X.amb b o
 dom:∀b l k,X1.G b=some (l,k)->b<w1.heap.size
variable {X1 X : Cx} {w1 w w' : World} {S : Nat -> Prop}
theorem St.start(h:HRel env X1 [] w1):St X1 w1 (fun _=>False) X1 w1:=⟨⟨[],by simp⟩,Ext.refl X1 w1,h,fun _ h=>h.elim,fun _ _ h=>h,fun _ _ _ h=>h,h.gdom⟩
theorem St.frame(h:St X1 w1 S X w)(h1:w'.os=w.os)(h2:w'.tape=w.tape)(h3:w'.output=w.output)(hsz:w.heap.size<=w'.heap.size)(hb:∀b,b<w.heap.size->¬S b->w'.heap[b]?=w.heap[b]?):∃X',St X1 w1 (fun b=>S b\/w.heap.size<=b/\b<w'.heap.size) X' w'/\∀d v,Rep w X.imm d v->Rep w' X'.imm d v:=by
 have hs1:=h.ext.size;have hlow:∀b,b<w1.heap.size->w'.heap[b]?=w.heap[b]?:=fun b hlt=>hb b (Nat.lt_of_lt_of_le hlt hs1) fun hs=>by have:=(h.own b hs).1;omega
 have hG:∀b,w.heap.size<=b->X.G b=none:=fun b hge=>by cases hx:X.G b with|none=>rfl|some lk=>have:=h.rel.gdom _ _ _ (show X.G b=some (lk.1,lk.2)from hx);omega
 refine⟨{X with amb:=fun b o=>X.amb b o/\¬(w.heap.size<=b/\b<w'.heap.size)},⟨h.mu,⟨rfl,Nat.le_trans hs1 hsz,h1.trans h.ext.os,h2.trans h.ext.tape,h3.trans h.ext.output,fun b hlt hn=>?_,fun b l k hk=>?_⟩,?_,fun b hs=>?_,fun b o hx=>h.amb b o hx.1,fun b o hlt hx=>⟨h.old b o hlt hx,by omega⟩,h.dom⟩,fun d v hr=>hr.mono fun b o u hc hi=>?_⟩;·obtain⟨g1,g2⟩:=h.ext.free b hlt hn;simp_all
 .obtain⟨g1,g2⟩:=h.ext.own b l k hk;exact⟨g1,fun o ho=>(cell?_of_heap (hlow b (h.dom b l k hk)) o).trans (g2 o ho)⟩
 .have hr:=h.rel;refine⟨fun t=>trivial,hr.bound,hr.mu,fun o cs hcs=>by simp_all,fun b l k hk=>Nat.lt_of_lt_of_le (hr.gdom b l k hk) hsz,fun b o hge=>⟨hr.amb b o (Nat.le_trans hsz hge),by omega⟩,fun b l k hk o=>⟨hr.oamb b l k hk o,by grind⟩,(fun g cs hg=>by cases hg),hr.defers⟩
 .rcases hs with hs|hs;·obtain⟨g1,g2,g3,g4⟩:=h.own b hs;exact⟨g1,Nat.lt_of_lt_of_le g2 hsz,g3,fun o hx=>g4 o hx.1⟩
  grind
 .have hlt:b<w.heap.size:=World.block_lt_of_cell? w ⟨b,o,none⟩ hc;exact⟨(cell?_of_heap (hb b hlt fun hs=>(h.own b hs).2.2.2 o hi.1) o).trans hc,⟨hi.1,by omega⟩,hi.2⟩
theorem St.src(h:St X1 w1 S X w){d:D}{v:Value}(hr:Rep w1 X1.imm d v):Rep w X.imm d v:=hr.mono fun b o u hc hi=>by obtain⟨g1,g2⟩:=h.ext.point hc hi;exact⟨g1,h.old b o (World.block_lt_of_cell? w1 ⟨b,o,none⟩ hc) hi.1,g2.2⟩
theorem St.call{m:List AV->Heap->Option (AV×Heap)}(hC:LibOk env 96 m){t:T3}(hl:m [.d (.agg l)] []=some (.d (.agg l),[]))(h:St X1 w1 S X w)(ht:RepT w X.imm l t):Calls Tryz.prog 96 #[.agg #[.int .i64 t.1,.slice t.2.1.1 t.2.1.2.1 t.2.1.2.2,.slice t.2.2.1 t.2.2.2.1 t.2.2.2.2]] w fun e w'=>∃t':T3,e=.returned (.agg #[.int .i64 t'.1,.slice t'.2.1.1 t'.2.1.2.1 t'.2.1.2.2,.slice t'.2.2.1 t'.2.2.2.1 t'.2.2.2.2])/\w.heap.size<=w'.heap.size/\(∀b,S b->w'.heap[b]?=w.heap[b]?)/\∃X',St X1 w1 S X' w'/\RepT w' X'.imm l t'/\∀d v,Rep w X.imm d v->Rep w' X'.imm d v:=by
 obtain⟨y,z,rfl,r1,r2⟩:=ht;refine Calls.mono (hC _ _ _ _ hl X w _ h.rel ⟨rfl,fun i u hu=>?_⟩) ?_
 .rcases(by have:=(List.getElem?_eq_some_iff.1 hu).1;simp at this;omega:i=0)with rfl;cases hu;refine⟨rfl,.agg _ _ rfl fun j c hj=>?_⟩;rcases(by have:=(List.getElem?_eq_some_iff.1 hj).1;simp at this;omega:j=0\/j=1\/j=2)with rfl|rfl|rfl<;>cases hj;·exact .v _ rfl
  .exact r1
  simp_all
 .rintro e w'⟨val,rfl,X',⟨more,hmu⟩,hE,hH,hres⟩;obtain⟨_,_,_,hrep⟩:=hres.plain rfl;obtain⟨va,e0,hva,hvr⟩:=q5y (show Rep w' X'.imm (.agg [.v (.int .i64 t.1),.list y,.list z]) val from hrep);obtain⟨s1,e1,_⟩:=q13 (hvr 1 _ rfl);obtain⟨s2,e2,_⟩:=q13 (hvr 2 _ rfl);have q1:=hvr 1 _ rfl;have q2:=hvr 2 _ rfl;rw[e1]at q1;rw[e2]at q2;refine⟨(t.1,s1,s2),by rw[e0,arr3 hva,q0y (hvr 0 _ rfl),e1,e2],hE.size,fun b hs=>(hE.free b (h.own b hs).2.1 (h.own b hs).2.2.1).2,X',⟨?_,?_,hH,fun b hs=>?_,fun b o hx=>h.amb b o (by rw[<-hE.amb];omega),fun b o hlt hx=>by rw[hE.amb];exact h.old b o hlt hx,h.dom⟩,⟨y,z,rfl,q1,q2⟩,fun d v hr=>hE.rep hr⟩;·obtain⟨m0,h0⟩:=h.mu;simp_all
  .exact Ext.trans h.dom h.ext ⟨rfl,hE.size,hE.os,hE.tape,hE.output,hE.free,hE.own⟩
  .obtain⟨g1,g2,g3,g4⟩:=h.own b hs;exact⟨g1,Nat.lt_of_lt_of_le g2 hE.size,(hE.free b g2 g3).1,by rw[hE.amb];omega⟩
def Jw(X1:Cx)(w1:World)(S:Nat->Prop)(w:World)(es:List (List (List D)))(ds:List (List T3)):Prop:=∃X,St X1 w1 S X w/\All2 (All2 (RepT w X.imm)) es ds
variable {es : List (List (List D))} {ds : List (List T3)}
theorem RepT.up{I I':Nat->Nat->Prop}(h:∀d v,Rep w I d v->Rep w' I' d v){t:T3}(hr:RepT w I l t):RepT w' I' l t:=by obtain⟨y,z,rfl,r1,r2⟩:=hr;exact⟨y,z,rfl,h _ _ r1,h _ _ r2⟩
theorem Jw.frame(h:Jw X1 w1 S w es ds)(h1:w'.os=w.os)(h2:w'.tape=w.tape)(h3:w'.output=w.output)(hsz:w.heap.size<=w'.heap.size)(hb:∀b,b<w.heap.size->¬S b->w'.heap[b]?=w.heap[b]?):Jw X1 w1 (fun b=>S b\/w.heap.size<=b/\b<w'.heap.size) w' es ds:=by obtain⟨X,h,hr⟩:=h;obtain⟨X',g,hg⟩:=h.frame h1 h2 h3 hsz hb;exact⟨X',g,hr.imp fun _ _ h=>h.imp fun _ _ h=>h.up hg⟩
theorem Jw.sub{S':Nat->Prop}(h:Jw X1 w1 S w es ds)(hs:∀b,S' b->S b):Jw X1 w1 S' w es ds:=by obtain⟨X,h,hr⟩:=h;exact⟨X,⟨h.mu,h.ext,h.rel,fun b hb=>h.own b (hs b hb),h.amb,h.old,h.dom⟩,hr⟩
theorem Jw.grown(h:Jw X1 w1 S w es ds)(hg:w.grownBy w' none):Jw X1 w1 (fun b=>S b\/w.heap.size<=b/\b<w'.heap.size) w' es ds:=h.frame hg.os hg.tape hg.output hg.size fun b hb _=>hg.block b hb (by simp)
theorem Jw.call{m:List AV->Heap->Option (AV×Heap)}(hC:LibOk env 96 m){t:T3}(hl:m [.d (.agg l)] []=some (.d (.agg l),[]))(h:Jw X1 w1 S w es ds)(ht:RepT w1 X1.imm l t):Calls Tryz.prog 96 #[.agg #[.int .i64 t.1,.slice t.2.1.1 t.2.1.2.1 t.2.1.2.2,.slice t.2.2.1 t.2.2.2.1 t.2.2.2.2]] w fun e w'=>∃t':T3,e=.returned (.agg #[.int .i64 t'.1,.slice t'.2.1.1 t'.2.1.2.1 t'.2.1.2.2,.slice t'.2.2.1 t'.2.2.2.1 t'.2.2.2.2])/\w.heap.size<=w'.heap.size/\(∀b,S b->w'.heap[b]?=w.heap[b]?)/\Jw X1 w1 S w' ([l]::es) ([t']::ds):=by obtain⟨X,h,hr⟩:=h;refine Calls.mono (h.call hC hl (ht.up fun _ _ hr=>h.src hr)) ?_;rintro e w'⟨t',he,h1,h2,X',g,g1,g2⟩;exact⟨t',he,h1,h2,X',g,.cons (.cons g1 .nil) (hr.imp fun _ _ h=>h.imp fun _ _ h=>h.up g2)⟩
theorem Jw.push{t:T3}(h:Jw X1 w1 S w ([l]::es) ([t]::ds))(k:Nat):Jw X1 w1 S w (es.modify k (·++[l])) (ds.modify k (·++[t])):=by obtain⟨X,h,hr⟩:=h;cases hr with|cons h1 h2=>cases h1 with|cons h3 _=>exact⟨X,h,h2.mod (fun _ _ h=>h.app h3) k⟩
theorem Jw.point(h:Jw X1 w1 S w es ds){o:Nat}{u:Value}(hc:w1.cell? ⟨b,o,none⟩=some u)(hi:X1.imm b o):w.cell? ⟨b,o,none⟩=some u:=by obtain⟨X,h,_⟩:=h;exact(h.ext.point hc hi).1
theorem RowsC.keep{cur:Array Value}(h:RowsC b w ds cur)(hk:∀c,(c=b\/∃j,(cur.getD j undef).ownBlock=some c)->w'.heap[c]?=w.heap[c]?):RowsC b w' ds cur:=by
 refine⟨(hk b (.inl rfl)).trans h.blk,h.size,fun j d hj=>?_,h.sep⟩;obtain⟨g1,g2⟩:=h.row j d hj;refine⟨g1,?_⟩;rcases g2 with g2|⟨g,cap,c,e,hb,hg,rest⟩;·simp_all
 .exact .inr ⟨g,cap,c,e,hb,(hk g (.inr ⟨j,by rw[e];rfl⟩)).trans hg,rest⟩
end Go.Proofs.YtdmfjabikomgiaaGreat
namespace Go.Proofs.YtdmfjabikomgiaaGreat
open Go
variable {fuel i : Nat} {o oi : Oper} {listed : Array Bool} {a : Act} {w : World}
section
variable {P : Program} {ops : Array Oper} {Q : Exit -> Act -> World -> Prop} {md : Region.Mode} {S : World -> Prop} {late : Nat -> Bool}
def q75(P:Program)(md:Region.Mode)(ops:Array Oper)(Q:Exit->Act->World->Prop)(S:World->Prop)(late:Nat->Bool):Nat->Array Bool->Act->World->Prop|0,listed,a,w=>Region.ready md ops listed=[]/\Q .normal a w|fuel+1,listed,a,w=>(Region.ready md ops listed=[]->Q .normal a w)/\∀i∈Region.ready md ops listed,wpOp P ops Q i (fun a' w'=>(late i=false->S w')/\q75 P md ops Q S late fuel (listed.setIfInBounds i true) a' w') a w
theorem qfk:∀(fuel:Nat)(listed:Array Bool)(a:Act)(w:World),q75 P md ops Q S late fuel listed a w->wpAny P md ops Q fuel listed a w|0,_,_,_,h=>h|fuel+1,_,_,_,h=>⟨h.1,fun i hi=>wpOp_mono (fun a' w' h'=>qfk fuel _ a' w' h'.2) (h.2 i hi)⟩
theorem qsi{v:Value}(hi:ops[i]?=some oi)(hsel:∀(j:Nat)(o:Oper)cs b,ops[j]?=some o->o.op≠.select cs b)(hQ:∀c a w,Q (.panic c) (a.put oi.dst v) w->Q (.panic c) a w)(hlate:∀j oj,ops[j]?=some oj->late j=true->∃e∈oj.after,Region.binds md e=true/\e.on=i):∀(fuel:Nat)(listed:Array Bool)(a:Act)(w:World),(∀j oj,ops[j]?=some oj->j≠i->listed.getD j true=false->(∀e∈oj.after,Region.binds md e=true->e.on≠i)->oi.apart ops oj=true)->i∈Region.ready md ops listed->YieldsIf P ops S oi v a->S w->q75 P md ops Q S late fuel (listed.setIfInBounds i true) (a.put oi.dst v) w->q75 P md ops Q S late (fuel+1) listed a w:=by
 intro fuel;induction fuel with|zero=>
  intro listed a w _ hr hy hS H;refine⟨fun h=>(by simp_all),fun j hj=>?_⟩;by_cases hji:j=i;·subst hji;exact hy.wpOp hi hS ⟨fun _=>hS,H⟩
  .have:=ready_mono hj hji;rw[H.1]at this;grind|succ fuel ih=>
  intro listed a w hfree hr hy hS H;refine⟨fun h=>(by simp_all),fun j hj=>?_⟩;by_cases hji:j=i;·subst hji;exact hy.wpOp hi hS ⟨fun _=>hS,H⟩
  .have h1:=H.2 j (ready_mono hj hji);obtain⟨hjun,oj,hoj,hall⟩:=mem_ready.1 hj;have hnot:∀e∈oj.after,Region.binds md e=true->e.on≠i:=fun e he hb heq=>by
    have h1:=hall e he hb;have h0:=(mem_ready.1 hr).1;rw[heq]at h1;rcases Nat.lt_or_ge i listed.size with h'|h';·simp[h']at h0 h1;rw[h0]at h1;cases h1
    .simp[Array.getElem?_eq_none h']at h1
   have hlj:late j=false:=by cases hx:late j with|false=>rfl|true=>obtain⟨e,he,hb,heq⟩:=hlate j oj hoj hx;exact absurd heq (hnot e he hb)
   have h2:=wpOp_putIf hoj (hfree j oj hoj hji hjun hnot) (fun cs b=>hsel i oi cs b hi) (fun cs b=>hsel j oj cs b hoj) hQ hy h1;have hfree':∀k ok,ops[k]?=some ok->k≠i->(listed.setIfInBounds j true).getD k true=false->(∀e∈ok.after,Region.binds md e=true->e.on≠i)->oi.apart ops ok=true:=fun k ok hk hki hun hno=>by
    refine hfree k ok hk hki ?_ hno;by_cases hjk:j=k;·subst hjk;exact hjun
    .rw[getD_set_ne true hjk]at hun;exact hun
   refine wpOp_mono (fun a' w' h3=>⟨h3.2.1,ih (listed.setIfInBounds j true) a' w' hfree' (ready_mono hr (Ne.symm hji)) h3.1 (h3.2.1 hlj) ?_⟩) h2;rw[Array.setIfInBounds_comm _ _ hji];grind
def yit(md:Region.Mode)(ops:Array Oper)(late:Nat->Bool)(i:Nat):Bool:=(List.range ops.size).all fun j=>!late j||(match ops[j]? with|some o=>o.after.any fun e=>Region.binds md e&&e.on==i|none=>true)
theorem q15(i:Nat)(v:Value)(hi:ops[i]?=some oi)(hc:(Region.noSelect ops&&Region.free md ops listed i&&((Region.ready md ops listed).contains i&&yit md ops late i))=true)(hQ:∀c a w,Q (.panic c) (a.put oi.dst v) w->Q (.panic c) a w)(hw:Region.wanted oi (yielded ops a.tmps)=true)(hy:∀w,S w->(execOp a.eval oi).run P w=.ok (.value v) w)(hS:S w)(h:q75 P md ops Q S late fuel (listed.setIfInBounds i true) (a.put oi.dst v) w):q75 P md ops Q S late (fuel+1) listed a w:=by simp only[aT]at hc;obtain⟨⟨hs,hf⟩,hr,hl⟩:=hc;exact qsi hi (Region.noSelect_spec hs) hQ (fun j oj hj hx=>by have:=List.all_eq_true.1 hl j (List.mem_range.2 (Array.getElem?_eq_some_iff.1 hj).1);grind) fuel listed a w (Region.free_spec hi hf) (by simp_all) (.inl ⟨hw,hy⟩) hS h
theorem qm3{rs:List Nat}(hr:Region.ready md ops listed=rs)(hne:rs≠[])(h:∀i∈rs,wpOp P ops Q i (fun a' w'=>(late i=false->S w')/\q75 P md ops Q S late fuel (listed.setIfInBounds i true) a' w') a w):q75 P md ops Q S late (fuel+1) listed a w:=⟨fun h0=>absurd (hr▸h0) hne,hr▸h⟩
theorem qcw(hr:Region.ready md ops listed=[])(h:Q .normal a w):∀fuel,q75 P md ops Q S late fuel listed a w|0=>⟨hr,h⟩|_+1=>⟨fun _=>h,by simp_all⟩
theorem qcb{id:Nat}(hm:P.follows .mixedOrders=true)(h:q75 P .any ops Q S late ops.size (Array.replicate ops.size false) a w.drew):(Code.region id ops true).wp P Q a w:=wp_region_any hm (qfk _ _ _ _ h)
theorem q2d(hr:Region.ready md ops listed=[i])(ho:ops[i]?=some o)(h:∀K':Act->World->Prop,Shut (∀a w,(late i=false->S w)->q75 P md ops Q S late fuel (listed.setIfInBounds i true) a w->K' a w)->if Region.wanted o (yielded ops a.tmps)=true then Oper.wp P o a w K' Q else K' (a.put o.dst undef) w):q75 P md ops Q S late (fuel+1) listed a w:=qm3 hr (by simp) fun j hj=>by
  obtain rfl:j=i:=by simp_all
  exact wpOp_step ho (fun K' hK=>h K' (fun a w hS hW=>hK a w ⟨hS,hW⟩))
theorem y02{i':Nat}{o':Oper}(hr:Region.ready md ops listed=[i,i'])(ho:ops[i]?=some o)(ho':ops[i']?=some o')(h:∀K':Act->World->Prop,Shut (∀a w,(late i=false->S w)->q75 P md ops Q S late fuel (listed.setIfInBounds i true) a w->K' a w)->if Region.wanted o (yielded ops a.tmps)=true then Oper.wp P o a w K' Q else K' (a.put o.dst undef) w)(h':∀K':Act->World->Prop,Shut (∀a w,(late i'=false->S w)->q75 P md ops Q S late fuel (listed.setIfInBounds i' true) a w->K' a w)->if Region.wanted o' (yielded ops a.tmps)=true then Oper.wp P o' a w K' Q else K' (a.put o'.dst undef) w):q75 P md ops Q S late (fuel+1) listed a w:=qm3 hr (by simp) fun j hj=>by
  rcases List.mem_cons.1 hj with rfl|hj;·exact wpOp_step ho (fun K' hK=>h K' (fun a w hS hW=>hK a w ⟨hS,hW⟩))
  .obtain rfl:j=i':=by simp_all
   exact wpOp_step ho' (fun K' hK=>h' K' (fun a w hS hW=>hK a w ⟨hS,hW⟩))
end
end Go.Proofs.YtdmfjabikomgiaaGreat
namespace Go.Proofs.YtdmfjabikomgiaaGreat
open Go Go.Ab Go.RowKit
variable {X1 : Cx} {w1 w2 wa : World} {es : List (List (List D))} {cur : Array Value} {c cap g : Nat} {v : Value} {l : List D}
attribute [local go_sem ↓] Go.wp_at_zero Go.wp_at_succ
def Rws(X1:Cx)(w1:World)(b:Nat)(w:World)(es:List (List (List D))):Prop:=∃S cur ds,S b/\(∀(j:Nat)g,(cur.getD j undef).ownBlock=some g->S g)/\RowsC b w ds cur/\Jw X1 w1 S w es ds
theorem Jw.drew{w:World}{S:Nat->Prop}{ds:List (List T3)}(h:Jw X1 w1 S w es ds):Jw X1 w1 S w.drew es ds:=(h.grown (w':=w.drew) ⟨rfl,rfl,rfl,Nat.le_refl _,fun _ _ _=>rfl⟩).sub fun _ h=>.inl h
theorem Rws.grown{w w':World}{b:Nat}(h:Rws X1 w1 b w es)(hg:w.grownBy w' none):Rws X1 w1 b w' es:=by
 obtain⟨S,cur,ds,h1,h2,h3,h4⟩:=h;refine⟨_,cur,ds,.inl h1,fun j g e=>.inl (h2 j g e),h3.keep fun c hc=>hg.block c ?_ (by simp),h4.grown hg⟩;obtain⟨X,hs,_⟩:=h4;rcases hc with rfl|⟨j,e⟩;·exact(hs.own _ h1).2.1
 .exact(hs.own _ (h2 j c e)).2.1
theorem Rws.at{w:World}{b k:Nat}{S:Nat->Prop}{ds:List (List T3)}(hC:RowsC b w ds cur)(hJ:Jw X1 w1 S w es ds){e:List (List D)}(he:es[k]?=some e):∃d,ds[k]?=some d/\Hid (d.length=e.length)/\w.ownsRow (b+1) 56 3 (cur.getD k undef) d.length (d.flatMap rowT)/\(∃ad cp,cur.getD k undef=.slice ad d.length cp)/\w.cell? ⟨b,k,none⟩=some (cur.getD k undef)/\w.frozen? ⟨b,k,none⟩=false:=by
 obtain⟨X,_,hr⟩:=hJ;have hl:=hr.len;have hk:k<es.length:=(List.getElem?_eq_some_iff.1 he).1;obtain⟨d,hd⟩:∃d,ds[k]?=some d:=⟨ds[k]'(by omega),by simp⟩;have hrow:=hC.row k d hd;have hsz:k<cur.size:=by rw[hC.size];omega
 refine⟨d,hd,(hr.get he hd).len.symm,hrow,?_,?_,frozen_of_row w b k cur 54 hC.blk⟩
 .rcases hrow.2 with⟨h,h0⟩|⟨g,cap,c,h,_⟩;·exact⟨none,0,by rw[h,h0]⟩
  .exact⟨_,cap,h⟩
 .rw[cell_of_row w b k _ _ _ hC.blk];simp[Array.getD_eq_getD_getElem?,hsz]
theorem Rws.push{w:World}{b k:Nat}{S:Nat->Prop}{ds:List (List T3)}{d:List T3}{t:T3}(hSb:S b)(hSr:∀(j:Nat)g,(cur.getD j undef).ownBlock=some g->S g)(hJ:Jw X1 w1 S w ([l]::es) ([t]::ds))(hC:RowsC b w ds cur)(hk:ds[k]?=some d)(hc:c=d.length)(hv:cur.getD k undef=v)(hgr:w.grownBy w2 v.ownBlock)(hgb:b+1<=g)(hat:v.ownBlock=some g\/g=w.heap.size)(hgl:g<wa.heap.size)(hga:w2.grownBy wa (some g))(s3:wa.ownsRow (b+1) 56 3 (.slice (some ⟨g,0,none⟩) (c+1) cap) (c+1) ((d++[t]).flatMap rowT)):Rws X1 w1 b (wa.setCell ⟨b,k,none⟩ (.slice (some ⟨g,0,none⟩) (c+1) cap)) (es.modify k (·++[l])):=by
 have hR:=qnm hC hk hc hv hgr hgb (hat.imp_right fun e=>Nat.le_of_eq e.symm) hga s3;have hSg:S g\/w.heap.size<=g/\g<wa.heap.size:=hat.elim (fun e=>.inl (hSr k g (by rw[hv];exact e))) fun e=>.inr ⟨by omega,hgl⟩;have hF:=hJ.frame (w':=wa.setCell ⟨b,k,none⟩ (.slice (some ⟨g,0,none⟩) (c+1) cap)) (hga.os.trans hgr.os) (hga.tape.trans hgr.tape) (hga.output.trans hgr.output) (by simpa using Nat.le_trans hgr.size hga.size) fun j hj hs=>by
  have h1:j≠b:=fun e=>hs (e▸hSb);have h2:some j≠v.ownBlock:=fun e=>hs (hSr k j (by rw[hv,e]));have h3:some j≠some g:=fun e=>by
   cases e;rcases hSg with h|h;·exact hs h
   .omega
  exact(heap_setCell_other wa ⟨b,k,none⟩ j _ (fun e=>h1 e)).trans ((hga.block j (Nat.lt_of_lt_of_le hj hgr.size) h3).trans (hgr.block j hj h2))
 refine⟨_,_,_,.inl hSb,fun j g' e=>?_,hR,hF.push k⟩;have hkl:k<cur.size:=by rw[hC.size];exact(List.getElem?_eq_some_iff.1 hk).1
 simp only[Array.getD_eq_getD_getElem?,Array.getElem?_setIfInBounds]at e;by_cases h:k=j
 .subst h;rw[if_pos rfl,if_pos hkl]at e;cases e;rcases hSg with h|h;·exact .inl h
  .exact .inr ⟨h.1,by simpa using h.2⟩
 .rw[if_neg h]at e;exact .inl (hSr j g' (by simpa[Array.getD_eq_getD_getElem?]using e))
theorem Rws.lit{w:World}{b k cp:Nat}{ad:Option Addr}{S:Nat->Prop}{ds:List (List T3)}{t:T3}(hSb:S b)(hSr:∀(j:Nat)g,(cur.getD j undef).ownBlock=some g->S g)(hJ:Jw X1 w1 S w ([l]::es) ([t]::ds))(hC:RowsC b w ds cur)(hk:ds[k]?=some [])(hv:cur.getD k undef=.slice ad 0 cp):Rws X1 w1 b ((w.alloc (.cells #[.int .i64 t.1,.slice t.2.1.1 t.2.1.2.1 t.2.1.2.2,.slice t.2.2.1 t.2.2.2.1 t.2.2.2.2] 56)).setCell ⟨b,k,none⟩ (.slice (some ⟨w.heap.size,0,none⟩) 1 1)) (es.modify k (·++[l])):=by have hb:b<w.heap.size:=(Array.getElem?_eq_some_iff.1 hC.blk).1;refine Rws.push (c:=0) (g:=w.heap.size) (cap:=1) (w2:=w.alloc _) (wa:=w.alloc _) hSb hSr hJ hC hk rfl hv (World.grownBy_alloc _ _ _) hb (.inr rfl) (by simp) (World.grownBy.refl _ _) ⟨by simp[rowT],.inr ⟨_,1,_,rfl,hb,heap_alloc_new w _,Nat.le_refl _,by decide,by simp,by simp[rowT]⟩⟩
theorem Rws.app{w:World}{o:Obj}{b k:Nat}{S:Nat->Prop}{ds:List (List T3)}{d:List T3}{t:T3}(hSb:S b)(hSr:∀(j:Nat)g,(cur.getD j undef).ownBlock=some g->S g)(hJ:Jw X1 w1 S w ([l]::es) ([t]::ds))(hC:RowsC b w ds cur)(hk:ds[k]?=some d)(hc:c=d.length)(hv:cur.getD k undef=v)(hgr:(w.alloc o).grownBy w2 v.ownBlock)(hgb:b+1<=g)(hat:v.ownBlock=some g\/g=w.heap.size+1)(hga:w2.grownBy wa (some g))(s3:wa.ownsRow (b+1) 56 3 (.slice (some ⟨g,0,none⟩) (c+1) cap) (c+1) ((d++[t]).flatMap rowT)):Rws X1 w1 b (wa.setCell ⟨b,k,none⟩ (.slice (some ⟨g,0,none⟩) (c+1) cap)) (es.modify k (·++[l])):=by
 obtain⟨X,hs,_⟩:=id hJ;refine Rws.push (.inl hSb) (fun j g e=>.inl (hSr j g e)) (hJ.grown (World.grownBy_alloc w o none)) (hC.keep fun c hc=>heap_alloc_old w o ?_) hk hc hv hgr hgb (by simpa using hat) (s3.lt g rfl).2 hga s3;rcases hc with rfl|⟨j,e⟩;·exact(hs.own _ hSb).2.1
 .exact(hs.own _ (hSr j c e)).2.1
abbrev At5(w:World)(b k p:Nat)(x0 x1 x5 x6 x7:Value):Prop:=w.cell? ⟨b,k,none⟩=some x0/\w.cell? ⟨p,1,none⟩=some x1/\w.cell? ⟨p,5,none⟩=some x5/\w.cell? ⟨p,6,none⟩=some x6/\w.cell? ⟨p,7,none⟩=some x7
section
variable {w w' : World} {b k p : Nat} {x0 x1 x5 x6 x7 : Value} (h : At5 w b k p x0 x1 x5 x6 x7)
include h
theorem At5.heap(e1:w'.heap[b]?=w.heap[b]?)(e2:w'.heap[p]?=w.heap[p]?):At5 w' b k p x0 x1 x5 x6 x7:=⟨(cell?_of_heap e1 k).trans h.1,(cell?_of_heap e2 1).trans h.2.1,(cell?_of_heap e2 5).trans h.2.2.1,(cell?_of_heap e2 6).trans h.2.2.2.1,(cell?_of_heap e2 7).trans h.2.2.2.2⟩
theorem At5.grown{r:Option Nat}(hg:w.grownBy w' r)(n1:some b≠r)(n2:some p≠r):At5 w' b k p x0 x1 x5 x6 x7:=⟨hg.cell h.1 n1,hg.cell h.2.1 n2,hg.cell h.2.2.1 n2,hg.cell h.2.2.2.1 n2,hg.cell h.2.2.2.2 n2⟩
end
set_option maxHeartbeats 40000000 in
set_option maxRecDepth 100000 in
theorem qsr(n m mc:Nat)(am al:Option Addr)(cm cl:Nat)(ill ec m1 m2:Int)(nv:Nat)(ms0:List (Bool×List D))(ms:List (Bool×T3))(ps0:List (Int×Int×List D))(ps:List (Int×Int×T3))(cs:LI)(out0:List (List (List D))){mT:List AV->Heap->Option (AV×Heap)}(hC:LibOk env 96 mT)(hT:∀l,(l∈ms0.map (·.2)\/l∈ps0.map (·.2.2))->mT [.d (.agg l)] []=some (.d (.agg l),[]))(hn:n=ms.length)(hn2:n<=1000)(hm:m=ps.length)(hm2:m<=1000)(hmc:mc=cs.length)(W:World)(Q:Cx->World->Option Addr->Prop)(hRun:Calls Tryz.prog 13 #[.agg #[.slice am n cm],.int .i64 ill,.slice al m cl] (W.alloc (.cells #[.slice am n cm] 27)) fun e w1=>∃av cv ac cc X1,e=.returned (.tuple #[.agg #[.slice av nv cv,.int .i64 m1,.int .i64 m2],.slice ac mc cc,.int .i64 ec])/\Q X1 w1 ac/\w1.cell? ⟨W.heap.size,0,none⟩=some (.slice am n cm))(hQ:∀X1 w1 ac,Q X1 w1 ac->HRel env X1 [] w1/\All2 (fun a b=>a.1=b.1/\RepT w1 X1.imm a.2 b.2) ms0 ms/\All2 (fun a b=>a.1=b.1/\a.2.1=b.2.1/\RepT w1 X1.imm a.2.2 b.2.2) ps0 ps/\∀w':World,(∀b o u,w1.cell? ⟨b,o,none⟩=some u->X1.imm b o->w'.cell? ⟨b,o,none⟩=some u)->(∀(j:Nat)p,ms[j]?=some p->∃b o,am=some ⟨b,o,none⟩/\MemAt w' b (o+j*4) p)/\(∀(j:Nat)p,ps[j]?=some p->∃b o,al=some ⟨b,o,none⟩/\qy7 w' b (o+j*15) p)/\∀(j:Nat)c,cs[j]?=some c->∃b o,ac=some ⟨b,o,none⟩/\w'.cell? ⟨b,o+j,none⟩=some (.int .i64 c))(hO:ec=0->q1e ps0 cs (ms0.map q5b)=some out0):Calls Tryz.prog 44 #[.agg #[.slice am n cm],.int .i64 ill,.slice al m cl] W fun e w2=>∃X1 w1 ac,Q X1 w1 ac/\((ec≠0/\e=.returned (.tuple #[.slice none 0 0,.int .i64 ec])/\w1.grownBy w2 none)\/(ec=0/\e=.returned (.tuple #[.slice (some ⟨w1.heap.size+1,0,none⟩) n n,.int .i64 0])/\Rws X1 w1 (w1.heap.size+1) w2 out0)):=by
 obtain⟨i54,hi54,hz0,hz1,hz2⟩:∃i,Tryz.prog.info? 54=some i/\i.zero=some (.slice none 0 0)/\i.size=1/\i.bytes=24:=⟨_,rfl,rfl,rfl,rfl⟩;have hmk:∀w,(Instr.makeSlice 86 (.int .i64 n) (.int .i64 n)).run Tryz.prog w=.ok (.slice (some ⟨w.heap.size,0,none⟩) n n) (w.alloc (.cells (madeCells #[.slice none 0 0] n) 54)):=fun w=>by have:=run_make (P:=Tryz.prog) w 86 54 i54 _ Tryz.underlying86 hi54 hz0 .i64 .i64 n n (by omega) (Int.le_refl _) (by rw[hz2];omega) (by omega);simp only[tN,hz1,Nat.mul_one]at this;exact this
 clear hi54 hz0 hz1 hz2;replace hn:Hid (n=ms.length):=hn;replace hn2:Hid (n<=1000):=hn2;replace hQ:=hidOf hQ;replace hC:=hidOf hC;replace hT:=hidOf hT;replace hO:=hidOf hO;replace hm:=hidOf hm;replace hm2:=hidOf hm2;replace hmc:=hidOf hmc;by_cases he:ec=0;case neg=>
  have he2:(ec !=0)=true:=by simp[he]
  clear hmk;go_enter Tryz.func44,Tryz.ntmps44;go_wp2_with(go_at_call 13;refine hRun.mono ?_;rintro e w1⟨av,cv,ac,cc,X1,rfl,hQ1,hbox⟩);go_ret2;exact⟨X1,w1,_,hQ1,.inl ⟨he,rfl,World.grownBy_alloc _ _ _⟩⟩
 subst he;go_enter Tryz.func44,Tryz.ntmps44;go_wp2_with(go_at_call 13;refine hRun.mono ?_;rintro e w1⟨av,cv,ac,cc,X1,rfl,hQ1,hbox⟩;have hb2:=fun o=>(World.grownBy_alloc w1 o none).cell hbox (by simp);have hb3:=fun o o'=>(World.grownBy_alloc (w1.alloc o) o' none).cell (hb2 o) (by simp));obtain⟨hH1,hMs,hPs,hAt⟩:=hQ.out _ _ _ hQ1;replace hMs:=hidOf hMs;replace hPs:=hidOf hPs;replace hAt:=hidOf hAt;generalize hw3:(w1.alloc (Obj.cells #[Value.slice av nv cv,Value.int IntKind.i64 m1,Value.int IntKind.i64 m2] 33)).alloc (Obj.cells (madeCells #[Value.slice none 0 0] n) 54)=w3;clear hmk;have hL0:Rws X1 w1 (w1.heap.size+1) w3 (begT ms0 0):=by
  have hJ0:Jw X1 w1 (fun _=>False) w1 (begT ms0 0) (List.replicate n []):=⟨X1,St.start hH1,by
   rw[qs0,<-hMs.out.len.trans hn.out.symm];exact All2.of (by simp) fun j a b ha hb=>by
    rw[List.getElem?_replicate]at ha hb;split at ha;·cases ha;rw[if_pos (by assumption)]at hb;cases hb;exact .nil
    .cases ha⟩;obtain⟨cur,hCr⟩:=qmg (w:=w1.alloc (Obj.cells #[Value.slice av nv cv,Value.int IntKind.i64 m1,Value.int IntKind.i64 m2] 33)) (n:=n);rw[<-hw3];have hsz:((w1.alloc (Obj.cells #[Value.slice av nv cv,Value.int IntKind.i64 m1,Value.int IntKind.i64 m2] 33)).alloc (Obj.cells (madeCells #[Value.slice none 0 0] n) 54)).heap.size=w1.heap.size+2:=by simp
  refine⟨_,cur,_,?_,fun j g e=>?_,by simpa using hCr,hJ0.grown (w':=(w1.alloc _).alloc _) ⟨rfl,rfl,rfl,by simp;omega,fun k hk _=>(heap_alloc_old _ _ (by simp;omega)).trans (heap_alloc_old _ _ hk)⟩⟩;·exact .inr ⟨by omega,by rw[hsz];omega⟩
  .exfalso;have hj:j<cur.size:=Decidable.byContradiction fun h=>by rw[Array.getD_eq_getD_getElem?,Array.getElem?_eq_none (by omega)]at e;cases e
   rw[hCr.size,List.length_replicate]at hj;have hr:=(hCr.row j [] (by rw[List.getElem?_replicate,if_pos hj])).2;rcases hr with⟨h,_⟩|⟨g',cap,c,h,hb,hg,_⟩;·rw[h]at e;cases e
   .rw[h]at e;cases e;have:=(Array.getElem?_eq_some_iff.1 hg).1;rw[hsz]at this;simp at hb;omega
 go_loopw [34](fun i wr=>∃k:Nat,k<=n/\i=.int .i64 k/\Rws X1 w1 (w1.heap.size+1) wr (begT ms0 k))(fun i _=>n-(intOf i).toNat);case atStart=>exact⟨0,Nat.zero_le _,rfl,hL0⟩
 case round=>
  obtain⟨k,hk,rfl,hL⟩:=hrel;have hn2':=hn2.out;obtain⟨hM,hP,hD⟩:=hAt.out wr (by obtain⟨_,_,_,_,_,_,hJ⟩:=hL;exact fun b o u hc hi=>hJ.point hc hi);replace hP:=hidOf hP;replace hD:=hidOf hD;by_cases hlt:k<n
  .obtain⟨p,hp⟩:∃p,ms[k]?=some p:=by have:=hn.out;exact⟨ms[k]'(by omega),by simp[<-this,hlt]⟩
   obtain⟨b,o,rfl,c0,c1,c2,c3⟩:=hM k p hp;obtain⟨p0,hp0⟩:∃p0,ms0[k]?=some p0:=⟨ms0[k]'(by rw[hMs.out.len];exact(List.getElem?_eq_some_iff.1 hp).1),by simp⟩;obtain⟨hpe,hpr⟩:=hMs.out.get hp0 hp;obtain⟨dcl,thr,sa,sb⟩:=p;obtain⟨dcl0,l0⟩:=p0;replace hpe:dcl0=dcl:=hpe;subst hpe;clear hM;replace hpr:=hidOf hpr;cases dcl0 with
   |false=>
    go_wp2;go_roundw;case rel=>exact⟨k+1,by omega,by go_num,by rw[qrq hp0];exact hL.grown (World.grownBy_alloc _ _ none)⟩
    case measure=>simp[intOf];omega|true=>
    obtain⟨S,cur,ds,hSb,hSr,hCr,hJ⟩:=hL;have hkm:k<ms0.length:=(List.getElem?_eq_some_iff.1 hp0).1;obtain⟨d,hd,hdl,hrow,⟨ad,cp,hv⟩,hcell,hfz⟩:=Rws.at hCr hJ (y5q hkm);have hd0:d=[]:=List.length_eq_zero_iff.1 hdl.out;subst hd0;rw[hv]at hrow hcell;have hl:mT [.d (.agg l0)] []=some (.d (.agg l0),[]):=hT.out l0 (.inl (List.mem_map.2 ⟨_,List.mem_of_getElem? hp0,rfl⟩));have hJq:=fun o=>(hJ.grown (World.grownBy_alloc wr o none)).sub (S':=fun c=>S c\/c=wr.heap.size) (fun c hc=>by
     rcases hc with hc|rfl;·exact .inl hc
     .exact .inr ⟨Nat.le_refl _,by simp⟩);have hlt2:(0:Int)<=(k:Int):=by omega
    have hlt3:(k:Int)<(n:Int):=by omega
    have hcq:∀o,(wr.alloc o).heap[w1.heap.size+1]?=wr.heap[w1.heap.size+1]?:=fun o=>heap_alloc_old wr o (Array.getElem?_eq_some_iff.1 hCr.blk).1;have hkp:∀c,(c=w1.heap.size+1\/∃j,(cur.getD j undef).ownBlock=some c)->∀{o:Obj}(w':World),(∀b,S b\/b=wr.heap.size->w'.heap[b]?=(wr.alloc o).heap[b]?)->w'.heap[c]?=wr.heap[c]?:=fun c hc o w' hfr=>by
     have hSc:S c:=by
      rcases hc with rfl|⟨j,e⟩;·exact hSb
      .exact hSr j c e
     exact(hfr c (.inl hSc)).trans (heap_alloc_old wr _ (by obtain⟨X,hs,_⟩:=hJ;exact(hs.own c hSc).2.1))
    go_wp2_with(go_at_call 96;refine((hJq _).call hC.out hl (t:=(thr,sa,sb)) hpr.out).mono ?_;rintro e w'⟨t',rfl,hsz,hfr,hJ'⟩;have hcl:=(hfr (w1.heap.size+1) (.inl hSb)).trans (hcq _);have hCw:RowsC (w1.heap.size+1) w' ds cur:=hCr.keep (fun c hc=>hkp c hc w' hfr);have q0:w'.cell? ⟨w1.heap.size+1,k,none⟩=some (.slice ad 0 cp):=(cell?_of_heap hcl k).trans hcell;have q0a:=fun o=>(World.grownBy_alloc w' o none).cell q0 (by simp);have f0:∀o,(w'.alloc o).frozen? ⟨w1.heap.size+1,k,none⟩=false:=fun o=>(World.frozen?_of_block (w:=w') (heap_alloc_old w' o (World.block_lt_of_cell? w' _ q0))).trans ((World.frozen?_of_block (w:=wr) hcl).trans hfz));go_roundw;case rel=>exact⟨k+1,by omega,by go_num,by rw[qkg hp0];exact Rws.lit (.inl hSb) (fun j g e=>.inl (hSr j g e)) hJ' hCw hd hv⟩
    case measure=>simp[intOf];omega
  .have hke:k=n:=by omega
   subst hke;have hO':q1e ps0 cs (ms0.map q5b)=some out0:=by first|exact hO.out trivial|exact hO.out rfl
   have hbl:begT ms0 k=ms0.map q5b:=by rw[show k=ms0.length from hn.out.trans hMs.out.len.symm,qi7]
   rw[hbl]at hL;have hel0:(ms0.map q5b).length=k:=by rw[List.length_map,hMs.out.len,hn.out]
   replace hO':=hidOf hO';clear hM;go_wp2;go_loopw [51](fun i wq=>∃j:Nat,j<=m/\i=.int .i64 j/\∃es,Rws X1 w1 (w1.heap.size+1) wq es/\q1e (ps0.drop j) (cs.drop j) es=some out0/\es.length=k/\∀e∈es,e.length<=j+1)(fun i _=>m-(intOf i).toNat);case atStart=>exact⟨0,Nat.zero_le _,rfl,_,hL,by simpa using hO'.out,hel0,fun d hd=>by obtain⟨p,_,rfl⟩:=List.mem_map.1 hd;unfold q5b;split<;>simp⟩
   case round=>
    obtain⟨j,hj,rfl,es,hL2,hrest,hel,hlen⟩:=hrel;obtain⟨_,hP2,hD2⟩:=hAt.out wr (by obtain⟨_,_,_,_,_,_,hJ⟩:=hL2;exact fun b o u hc hi=>hJ.point hc hi);have hm2':=hm2.out;have hmp:=hm.out;by_cases hjm:j<m
    .obtain⟨p,hp⟩:∃p,ps[j]?=some p:=⟨ps[j]'(by omega),by simp[<-hmp,hjm]⟩;clear hmp;obtain⟨bp,op,rfl,z2,z3,z4,z8,z9,z10,s11,s12,s13,s14,d0,d1,d2,d3,d4,d5,d6,d7,d8,d9,d10,d11,d12,d13,d14⟩:=hP2 j p hp;obtain⟨p0,hp0⟩:∃p0,ps0[j]?=some p0:=⟨ps0[j]'(by rw[hPs.out.len];exact(List.getElem?_eq_some_iff.1 hp).1),by simp⟩;obtain⟨hpe,hpf,hpr⟩:=hPs.out.get hp0 hp;obtain⟨kd,fr,thr,sa,sb⟩:=p;obtain⟨kd0,fr0,l0⟩:=p0;replace hpe:kd0=kd:=hpe;replace hpf:fr0=fr:=hpf;subst hpe hpf;replace hpr:=hidOf hpr;clear hP2;have hpd:ps0.drop j=(kd0,fr0,l0)::ps0.drop (j+1):=by obtain⟨h1,h2⟩:=List.getElem?_eq_some_iff.1 hp0;rw[List.drop_eq_getElem_cons h1,h2]
     obtain⟨cd,hcd⟩:∃cd,cs[j]?=some cd:=by cases h:cs[j]? with|some cd=>exact⟨cd,rfl⟩|none=>rw[hpd,List.drop_eq_nil_of_le (List.getElem?_eq_none_iff.1 h)]at hrest;simp[q1e]at hrest
     obtain⟨bc,oc,rfl,g0⟩:=hD2 j cd hcd;clear hD2;have hjc:j<cs.length:=(List.getElem?_eq_some_iff.1 hcd).1;have hcdr:cs.drop j=cd::cs.drop (j+1):=by obtain⟨h1,h2⟩:=List.getElem?_eq_some_iff.1 hcd;rw[List.drop_eq_getElem_cons h1,h2]
     rw[hpd,hcdr]at hrest;have hl:mT [.d (.agg l0)] []=some (.d (.agg l0),[]):=hT.out l0 (.inr (List.mem_map.2 ⟨_,List.mem_of_getElem? hp0,rfl⟩));have hmc':=hmc.out;have hj0:(0:Int)<=(j:Int):=by omega
     have hj1:(j:Int)<(mc:Int):=by omega
     have hgc:∀o,(wr.alloc o).cell? ⟨bc,oc+j,none⟩=some (.int .i64 cd):=fun o=>(World.grownBy_alloc wr o none).cell g0 (by simp);clear hmc';by_cases hkd:kd0=3
     .subst hkd;by_cases hcd0:cd=0
      .subst hcd0;go_wp2;generalize hwq:wr.alloc (Obj.cells #[Value.int IntKind.i64 3,Value.int IntKind.i64 fr0,Value.int IntKind.i64 z2,Value.int IntKind.i64 z3,Value.int IntKind.i64 z4,Value.int IntKind.i64 thr,Value.slice sa.1 sa.2.1 sa.2.2,Value.slice sb.1 sb.2.1 sb.2.2,Value.int IntKind.i64 z8,Value.int IntKind.i64 z9,Value.int IntKind.i64 z10,Value.slice s11.1 s11.2.1 s11.2.2,Value.slice s12.1 s12.2.1 s12.2.2,Value.slice s13.1 s13.2.1 s13.2.2,Value.slice s14.1 s14.2.1 s14.2.2] 70)=wq;have hgq:wr.grownBy wq none:=by rw[<-hwq];exact World.grownBy_alloc _ _ _
       have hbq:wq.heap[wr.heap.size]?=some (.cells #[.int .i64 3,.int .i64 fr0,.int .i64 z2,.int .i64 z3,.int .i64 z4,.int .i64 thr,.slice sa.1 sa.2.1 sa.2.2,.slice sb.1 sb.2.1 sb.2.2,.int .i64 z8,.int .i64 z9,.int .i64 z10,.slice s11.1 s11.2.1 s11.2.2,.slice s12.1 s12.2.1 s12.2.2,.slice s13.1 s13.2.1 s13.2.2,.slice s14.1 s14.2.1 s14.2.2] 70 (0,0)):=by rw[<-hwq];exact heap_alloc_new wr _
       clear hwq d0 d1 d2 d3 d4 d5 d6 d7 d8 d9 d10 d11 d12 d13 d14 g0 hgc;have hcnd:0<=fr0/\fr0<es.length:=by
        rw[q1e,if_pos ⟨rfl,rfl⟩]at hrest;split at hrest;·assumption
        .cases hrest
       rw[q1e,if_pos ⟨rfl,rfl⟩,if_pos hcnd]at hrest;obtain⟨kf,rfl⟩:=Int.eq_ofNat_of_zero_le hcnd.1;rw[tN]at hrest;have hkf:kf<es.length:=by omega
       obtain⟨S,cur,ds,hSb,hSr,hCr,hJ⟩:=hL2;have hes:es[kf]?=some es[kf]:=by simp[hkf]
       obtain⟨d,hd,hdl,hrow,⟨ad,cp,hv⟩,hcell,hfz⟩:=Rws.at hCr hJ hes;have hdl1:d.length<=j+1:=by rw[hdl.out];exact hlen _ (List.mem_of_getElem? hes)
       rw[hv]at hrow hcell;have hk0:(0:Int)<=(kf:Int):=by omega
       have hk1:(kf:Int)<(k:Int):=by omega
       obtain⟨i56,hi56,hy0,hy1,hy2⟩:∃i,Tryz.prog.info? 56=some i/\i.zero=some (.agg #[.int .i64 0,.slice none 0 0,.slice none 0 0])/\i.size=3/\i.bytes=56:=⟨_,rfl,rfl,rfl,rfl⟩;have hkp:∀c,(c=w1.heap.size+1\/∃j,(cur.getD j undef).ownBlock=some c)->S c:=fun c hc=>by
        rcases hc with rfl|⟨j,e⟩;·exact hSb
        .exact hSr j c e
       have hSl:∀c,S c->c<wr.heap.size:=fun c hc=>by obtain⟨X,hs,_⟩:=hJ;exact(hs.own c hc).2.1
       have hbne:w1.heap.size+1≠wr.heap.size:=fun e=>by have:=hSl _ hSb;omega
       have pre:∀(o:Obj)(ws:World),(wq.alloc o).drew=ws->wr.grownBy ws none/\wr.heap.size<ws.heap.size/\At5 ws (w1.heap.size+1) kf wr.heap.size (.slice ad d.length cp) (.int .i64 kf) (.int .i64 thr) (.slice sa.1 sa.2.1 sa.2.2) (.slice sb.1 sb.2.1 sb.2.2):=fun o ws hws=>by
        have hgs:wr.grownBy ws none:=by rw[<-hws];exact⟨hgq.os,hgq.tape,hgq.output,Nat.le_trans hgq.size (by simp),fun j hj _=>(heap_alloc_old wq _ (Nat.lt_of_lt_of_le hj hgq.size)).trans (hgq.block j hj (by simp))⟩
        have hbs:=(show ws.heap[wr.heap.size]?=wq.heap[wr.heap.size]? by rw[<-hws];exact heap_alloc_old wq _ (Array.getElem?_eq_some_iff.1 hbq).1).trans hbq;have r1:=cell_of_row ws _ 1 _ _ _ hbs;have r5:=cell_of_row ws _ 5 _ _ _ hbs;have r6:=cell_of_row ws _ 6 _ _ _ hbs;have r7:=cell_of_row ws _ 7 _ _ _ hbs;simp only[List.size_toArray,List.length_cons,List.length_nil,Nat.zero_add,Nat.reduceAdd,Nat.reduceLT,getElem?_pos,List.getElem_toArray,List.getElem_cons_zero,List.getElem_cons_succ]at r1 r5 r6 r7;exact⟨hgs,(Array.getElem?_eq_some_iff.1 hbs).1,hgs.cell hcell (by simp),r1,r5,r6,r7⟩
       go_region;all_goals go_wp2
       .generalize hws:(wq.alloc (Obj.cells #[Value.bool false] 4)).drew=ws;obtain⟨hgs,hbx,hr5⟩:=pre _ ws hws;clear hws;have r0:=hr5.1;have hJs:=(hJ.grown hgs).drew;refine qcb (S:=fun w'=>At5 w' (w1.heap.size+1) kf wr.heap.size (.slice ad d.length cp) (.int .i64 kf) (.int .i64 thr) (.slice sa.1 sa.2.1 sa.2.2) (.slice sb.1 sb.2.1 sb.2.2)) (late:=fun j=>decide (13<=j)) (by kernel_rfl) ?_;refine q15 0 ?_ rfl (by kernel_rfl) (fun _ _ _ h=>h) (by rfl) ?_ hr5 ?_;rotate_left;·(intro w hSw;obtain⟨x0,x1,x5,x6,x7⟩:=hSw;go_simp;try with_reducible rfl)
        simp only[Act.put,List.setIfInBounds_toArray];refine q15 1 ?_ rfl (by kernel_rfl) (fun _ _ _ h=>h) (by rfl) ?_ hr5 ?_;rotate_left;·(intro w hSw;obtain⟨x0,x1,x5,x6,x7⟩:=hSw;go_simp;try with_reducible rfl)
        simp only[Act.put];refine q15 2 ?_ rfl (by kernel_rfl) (fun _ _ _ h=>h) (by rfl) ?_ hr5 ?_;rotate_left;·(intro w hSw;obtain⟨x0,x1,x5,x6,x7⟩:=hSw;go_simp;try with_reducible rfl)
        simp only[Act.put];refine q15 3 ?_ rfl (by kernel_rfl) (fun _ _ _ h=>h) (by rfl) ?_ hr5 ?_;rotate_left;·(intro w hSw;obtain⟨x0,x1,x5,x6,x7⟩:=hSw;go_simp;try with_reducible rfl)
        simp only[Act.put];refine q15 4 ?_ rfl (by kernel_rfl) (fun _ _ _ h=>h) (by rfl) ?_ hr5 ?_;rotate_left;·(intro w hSw;obtain⟨x0,x1,x5,x6,x7⟩:=hSw;go_simp;try with_reducible rfl)
        simp only[Act.put];refine q15 5 ?_ rfl (by kernel_rfl) (fun _ _ _ h=>h) (by rfl) ?_ hr5 ?_;rotate_left;·(intro w hSw;obtain⟨x0,x1,x5,x6,x7⟩:=hSw;go_simp;try with_reducible rfl)
        simp only[Act.put];refine q15 6 ?_ rfl (by kernel_rfl) (fun _ _ _ h=>h) (by rfl) ?_ hr5 ?_;rotate_left;·(intro w hSw;obtain⟨x0,x1,x5,x6,x7⟩:=hSw;go_simp;try with_reducible rfl)
        simp only[Act.put];refine q15 7 ?_ rfl (by kernel_rfl) (fun _ _ _ h=>h) (by rfl) ?_ hr5 ?_;rotate_left;·(intro w hSw;obtain⟨x0,x1,x5,x6,x7⟩:=hSw;go_simp;try with_reducible rfl)
        simp only[Act.put];refine q15 8 ?_ rfl (by kernel_rfl) (fun _ _ _ h=>h) (by rfl) ?_ hr5 ?_;rotate_left;·(intro w hSw;obtain⟨x0,x1,x5,x6,x7⟩:=hSw;go_simp;try with_reducible rfl)
        simp only[Act.put];refine q15 9 ?_ rfl (by kernel_rfl) (fun _ _ _ h=>h) (by rfl) ?_ hr5 ?_;rotate_left;·(intro w hSw;obtain⟨x0,x1,x5,x6,x7⟩:=hSw;go_simp;try with_reducible rfl)
        simp only[Act.put];refine q2d (i:=10) (by kernel_rfl) rfl (fun K hK=>?_);go_simp;go_at_call 96;refine(hJs.call hC.out hl (t:=(thr,sa,sb)) hpr.out).mono ?_;rintro e w'⟨t',rfl,hsz,hfr,hJ'⟩;dsimp only;have hcl:∀c,(S c\/c=wr.heap.size)->w'.heap[c]?=ws.heap[c]?:=fun c hc=>hfr c (hc.elim .inl fun e=>.inr ⟨by omega,by omega⟩);have k5:=At5.heap hr5 (hcl (w1.heap.size+1) (.inl hSb)) (hcl _ (.inr rfl));have k0:=k5.1;have k5a:=fun o=>At5.grown k5 (World.grownBy_alloc w' o none) (by simp) (by simp);have k0a:=fun o=>(k5a o).1;have hCw:RowsC (w1.heap.size+1) w' ds cur:=hCr.keep (fun c hc=>(hcl c (.inl (hkp c hc))).trans (hgs.block c (hSl c (hkp c hc)) (by simp)));have hownw:w'.ownsRow (w1.heap.size+2) 56 3 (.slice ad d.length cp) d.length (d.flatMap rowT):=hv▸hCw.row kf d hd;have hbw:w1.heap.size+2<=w'.heap.size:=Nat.lt_of_lt_of_le (hSl _ hSb) (Nat.le_trans hgs.size hsz);refine hK.out _ _ (fun _=>k5) ?_;clear hK K;try simp only[Act.put,List.setIfInBounds_toArray,List.set_cons_zero,List.set_cons_succ]
        refine q2d (i:=11) (by kernel_rfl) rfl (fun K hK=>?_);go_simp;refine hK.out _ _ (fun _=>k5a _) ?_;clear hK K;try simp only[Act.put,List.setIfInBounds_toArray,List.set_cons_zero,List.set_cons_succ]
        refine q2d (i:=12) (by kernel_rfl) rfl (fun K hK=>?_);refine step_append_lies _ (by rfl) _ _ _ (by rfl) (w1.heap.size+2) 56 i56 _ 3 56 Tryz.underlying54 hi56 hy0 hy1 hy2 rfl (by decide) (.slice ad d.length cp) d.length _ (by rfl) (hownw.alloc _) ⟨w'.heap.size,0,none⟩ 1 1 (rowT t') (by rfl) (by rfl) (World.news_of_block (cs:=#[.int .i64 t'.1,.slice t'.2.1.1 t'.2.1.2.1 t'.2.1.2.2,.slice t'.2.2.1 t'.2.2.2.1 t'.2.2.2.2]) (t:=56) (fr:=(0,0)) (heap_alloc_new w' _)) (by simp[Value.oneCell',rowT]) (by omega) (by unfold maxLen;omega) (by omega) (by simp;omega) (w'.heap.size+1) (by simp) ?_;intro g cap w2 hown2 hgrow hat hlt;have kne:some wr.heap.size≠(Value.slice ad d.length cp).ownBlock:=fun e=>Nat.lt_irrefl _ (hrow.lt _ e.symm).2;have k5b:=At5.grown (k5a _) hgrow (fun e=>absurd (hownw.lt _ e.symm).1 (Nat.not_succ_le_self _)) kne;have k0b:=k5b.1;have f0:w2.frozen? ⟨w1.heap.size+1,kf,none⟩=false:=(hgrow.frozen_far _ (World.block_lt_of_cell? _ _ (k0a _)) (fun e=>absurd (hownw.lt _ e.symm).1 (Nat.not_succ_le_self _))).trans ((World.frozen?_of_block (w:=wr) ((heap_alloc_old w' _ (World.block_lt_of_cell? w' _ k0)).trans ((hcl _ (.inl hSb)).trans (hgs.block _ (hSl _ hSb) (by simp))))).trans hfz);refine hK.out _ _ (fun _=>k5b) ?_;clear hK K;try simp only[Act.put,List.setIfInBounds_toArray]
        refine q2d (i:=13) (by kernel_rfl) rfl (fun K hK=>?_);go_simp;refine hK.out _ _ (fun h=>by simp at h) ?_;clear hK K;try simp only[Act.put,List.setIfInBounds_toArray,List.set_cons_zero,List.set_cons_succ]
        refine q2d (i:=14) (by kernel_rfl) rfl (fun K hK=>?_);go_simp;refine hK.out _ _ (fun h=>by simp at h) ?_;clear hK K;try simp only[Act.put,List.setIfInBounds_toArray,List.set_cons_zero,List.set_cons_succ]
        refine qcw (by kernel_rfl) ?_ _;go_wp2;go_roundw;case rel=>exact⟨j+1,by omega,by go_num,_,Rws.app (t:=t') (.inl hSb) (fun j g e=>.inl (hSr j g e)) hJ' hCw hd rfl hv hgrow (hown2.lt g rfl).1 hat (World.grownBy.refl _ _) (by rw[List.flatMap_append];simpa using hown2),hrest,by rw[List.length_modify];exact hel,qj5 hlen hes⟩
        case measure=>simp[intOf];omega
       .generalize hws:(wq.alloc (Obj.cells #[Value.bool true] 4)).drew=ws;obtain⟨hgs,hbx,hr5⟩:=pre _ ws hws;clear hws;have r0:=hr5.1;have hJs:=(hJ.grown hgs).drew;refine qcb (S:=fun w'=>At5 w' (w1.heap.size+1) kf wr.heap.size (.slice ad d.length cp) (.int .i64 kf) (.int .i64 thr) (.slice sa.1 sa.2.1 sa.2.2) (.slice sb.1 sb.2.1 sb.2.2)) (late:=fun j=>decide (11<=j)) (by kernel_rfl) ?_;refine q15 0 ?_ rfl (by kernel_rfl) (fun _ _ _ h=>h) (by rfl) ?_ hr5 ?_;rotate_left;·(intro w hSw;obtain⟨x0,x1,x5,x6,x7⟩:=hSw;go_simp;try with_reducible rfl)
        simp only[Act.put,List.setIfInBounds_toArray];refine q15 1 ?_ rfl (by kernel_rfl) (fun _ _ _ h=>h) (by rfl) ?_ hr5 ?_;rotate_left;·(intro w hSw;obtain⟨x0,x1,x5,x6,x7⟩:=hSw;go_simp;try with_reducible rfl)
        simp only[Act.put];refine q15 2 ?_ rfl (by kernel_rfl) (fun _ _ _ h=>h) (by rfl) ?_ hr5 ?_;rotate_left;·(intro w hSw;obtain⟨x0,x1,x5,x6,x7⟩:=hSw;go_simp;try with_reducible rfl)
        simp only[Act.put];refine q15 3 ?_ rfl (by kernel_rfl) (fun _ _ _ h=>h) (by rfl) ?_ hr5 ?_;rotate_left;·(intro w hSw;obtain⟨x0,x1,x5,x6,x7⟩:=hSw;go_simp;try with_reducible rfl)
        simp only[Act.put];refine q15 4 ?_ rfl (by kernel_rfl) (fun _ _ _ h=>h) (by rfl) ?_ hr5 ?_;rotate_left;·(intro w hSw;obtain⟨x0,x1,x5,x6,x7⟩:=hSw;go_simp;try with_reducible rfl)
        simp only[Act.put];refine q15 5 ?_ rfl (by kernel_rfl) (fun _ _ _ h=>h) (by rfl) ?_ hr5 ?_;rotate_left;·(intro w hSw;obtain⟨x0,x1,x5,x6,x7⟩:=hSw;go_simp;try with_reducible rfl)
        simp only[Act.put];refine q15 6 ?_ rfl (by kernel_rfl) (fun _ _ _ h=>h) (by rfl) ?_ hr5 ?_;rotate_left;·(intro w hSw;obtain⟨x0,x1,x5,x6,x7⟩:=hSw;go_simp;try with_reducible rfl)
        simp only[Act.put];refine q15 8 ?_ rfl (by kernel_rfl) (fun _ _ _ h=>h) (by rfl) ?_ hr5 ?_;rotate_left;·(intro w hSw;obtain⟨x0,x1,x5,x6,x7⟩:=hSw;go_simp;try with_reducible rfl)
        simp only[Act.put];refine y02 (i:=7) (i':=9) (by kernel_rfl) rfl rfl (fun K hK=>?_) (fun K hK=>?_)
        .go_simp;go_at_call 96;refine(hJs.call hC.out hl (t:=(thr,sa,sb)) hpr.out).mono ?_;rintro e w'⟨t',rfl,hsz,hfr,hJ'⟩;dsimp only;have hcl:∀c,(S c\/c=wr.heap.size)->w'.heap[c]?=ws.heap[c]?:=fun c hc=>hfr c (hc.elim .inl fun e=>.inr ⟨by omega,by omega⟩);have k5:=At5.heap hr5 (hcl (w1.heap.size+1) (.inl hSb)) (hcl _ (.inr rfl));have k0:=k5.1;have hCw:RowsC (w1.heap.size+1) w' ds cur:=hCr.keep (fun c hc=>(hcl c (.inl (hkp c hc))).trans (hgs.block c (hSl c (hkp c hc)) (by simp)));have hownw:w'.ownsRow (w1.heap.size+2) 56 3 (.slice ad d.length cp) d.length (d.flatMap rowT):=hv▸hCw.row kf d hd;have fw:w'.frozen? ⟨w1.heap.size+1,kf,none⟩=false:=(World.frozen?_of_block (w:=wr) ((hcl _ (.inl hSb)).trans (hgs.block _ (hSl _ hSb) (by simp)))).trans hfz;have hbw:w1.heap.size+2<=w'.heap.size:=Nat.lt_of_lt_of_le (hSl _ hSb) (Nat.le_trans hgs.size hsz);have k5a:=fun o=>At5.grown k5 (World.grownBy_alloc w' o none) (by simp) (by simp);have k0a:=fun o=>(k5a o).1;have fwa:∀o,(w'.alloc o).frozen? ⟨w1.heap.size+1,kf,none⟩=false:=fun o=>(World.frozen?_of_block (w:=w') (heap_alloc_old w' o (World.block_lt_of_cell? w' _ k0))).trans fw;refine hK.out _ _ (fun _=>k5) ?_;clear hK K;try simp only[Act.put,List.setIfInBounds_toArray,List.set_cons_zero,List.set_cons_succ]
         refine q2d (i:=9) (by kernel_rfl) rfl (fun K hK=>?_);go_simp;refine hK.out _ _ (fun _=>k5a _) ?_;clear hK K;try simp only[Act.put,List.setIfInBounds_toArray,List.set_cons_zero,List.set_cons_succ]
         refine q2d (i:=10) (by kernel_rfl) rfl (fun K hK=>?_);refine step_append_lies _ (by rfl) _ _ _ (by rfl) (w1.heap.size+2) 56 i56 _ 3 56 Tryz.underlying54 hi56 hy0 hy1 hy2 rfl (by decide) (.slice ad d.length cp) d.length _ (by rfl) (hownw.alloc _) ⟨w'.heap.size,0,none⟩ 1 1 [.int .i64 0,.slice none 0 0,.slice none 0 0] (by rfl) (by rfl) (World.news_of_block (cs:=#[.int .i64 0,.slice none 0 0,.slice none 0 0]) (t:=56) (fr:=(0,0)) (heap_alloc_new w' _)) (by simp[Value.oneCell']) (by omega) (by unfold maxLen;omega) (by omega) (by first|omega|(simp;omega)) (w'.heap.size+1) (by first|rfl|simp) ?_;intro g cap w2 hown2 hgrow hat hlt;obtain⟨p0,p1,p2,p3,p4,p5,p6,p7,p8,p9,p10,p11⟩:=qd4 (x:=d.length*3) (y:=d.length*3+1) (z:=d.length*3+2) rfl rfl rfl (k0a _) (fwa _) (hownw.alloc _) hown2 hgrow;have kne:some wr.heap.size≠(Value.slice ad d.length cp).ownBlock:=fun e=>Nat.lt_irrefl _ (hrow.lt _ e.symm).2;refine hK.out _ _ (fun _=>At5.grown (k5a _) hgrow (fun e=>absurd (hownw.lt _ e.symm).1 (Nat.not_succ_le_self _)) kne) ?_;clear hK K;try simp only[Act.put,List.setIfInBounds_toArray]
         refine q2d (i:=11) (by kernel_rfl) rfl (fun K hK=>?_);go_simp;refine hK.out _ _ (fun h=>by simp at h) ?_;clear hK K;try simp only[Act.put,List.setIfInBounds_toArray,List.set_cons_zero,List.set_cons_succ]
         refine q2d (i:=12) (by kernel_rfl) rfl (fun K hK=>?_);go_simp;refine hK.out _ _ (fun h=>by simp at h) ?_;clear hK K;try simp only[Act.put,List.setIfInBounds_toArray,List.set_cons_zero,List.set_cons_succ]
         refine qcw (by kernel_rfl) ?_ _;go_wp2;go_roundw;case rel=>obtain⟨wa,_,he,hga,hs3⟩:=row3 (k:=kf) (t:=t') (x:=d.length*3) (y:=d.length*3+1) (z:=d.length*3+2) rfl rfl rfl hownw.1 hown2;exact⟨j+1,by omega,by go_num,_,by rw[he];exact Rws.app (t:=t') (.inl hSb) (fun j g e=>.inl (hSr j g e)) hJ' hCw hd rfl hv hgrow (hown2.lt g rfl).1 hat hga hs3,hrest,by rw[List.length_modify];exact hel,qj5 hlen hes⟩
         case measure=>simp[intOf];omega
        .go_simp;generalize hwv:(ws.alloc (Obj.cells #[Value.int IntKind.i64 0,Value.slice none 0 0,Value.slice none 0 0] 56)).drew=wv;have hgv:ws.grownBy wv none:=by rw[<-hwv];exact⟨rfl,rfl,rfl,by simp,fun j hj _=>heap_alloc_old ws _ hj⟩
         have hbv:wv.heap[ws.heap.size]?=some (.cells #[Value.int IntKind.i64 0,Value.slice none 0 0,Value.slice none 0 0] 56 (0,0)):=by rw[<-hwv];exact heap_alloc_new ws _
         have hvs:ws.heap.size<wv.heap.size:=by rw[<-hwv];simp
         clear hwv;have hgw:wr.grownBy wv none:=⟨hgv.os.trans hgs.os,hgv.tape.trans hgs.tape,hgv.output.trans hgs.output,Nat.le_trans hgs.size hgv.size,fun j hj _=>(hgv.block j (Nat.lt_of_lt_of_le hj hgs.size) (by simp)).trans (hgs.block j hj (by simp))⟩;have r5v:=At5.grown hr5 hgv (by simp) (by simp);have hJv:=hJ.grown hgw;refine hK.out _ _ (fun _=>r5v) ?_;clear hK K;try simp only[Act.put,List.setIfInBounds_toArray,List.set_cons_zero,List.set_cons_succ]
         refine q2d (i:=7) (by kernel_rfl) rfl (fun K hK=>?_);go_simp;go_at_call 96;refine(hJv.call hC.out hl (t:=(thr,sa,sb)) hpr.out).mono ?_;rintro e w'⟨t',rfl,hsz,hfr,hJ'⟩;dsimp only;have hcl:∀c,(S c\/c=wr.heap.size)->w'.heap[c]?=ws.heap[c]?:=fun c hc=>(hfr c (hc.elim .inl fun e=>.inr ⟨by omega,by omega⟩)).trans (hgv.block c (hc.elim (fun h=>Nat.lt_of_lt_of_le (hSl c h) hgs.size) fun e=>by omega) (by simp));have hzw:=(hfr ws.heap.size (.inr ⟨hgs.size,hvs⟩)).trans hbv;have k5:=At5.heap hr5 (hcl (w1.heap.size+1) (.inl hSb)) (hcl _ (.inr rfl));have k0:=k5.1;have hCw:RowsC (w1.heap.size+1) w' ds cur:=hCr.keep (fun c hc=>(hcl c (.inl (hkp c hc))).trans (hgs.block c (hSl c (hkp c hc)) (by simp)));have hownw:w'.ownsRow (w1.heap.size+2) 56 3 (.slice ad d.length cp) d.length (d.flatMap rowT):=hv▸hCw.row kf d hd;have fw:w'.frozen? ⟨w1.heap.size+1,kf,none⟩=false:=(World.frozen?_of_block (w:=wr) ((hcl _ (.inl hSb)).trans (hgs.block _ (hSl _ hSb) (by simp)))).trans hfz;have hbw:w1.heap.size+2<=w'.heap.size:=Nat.lt_of_lt_of_le (hSl _ hSb) (Nat.le_trans hgw.size hsz);refine hK.out _ _ (fun _=>k5) ?_;clear hK K;try simp only[Act.put,List.setIfInBounds_toArray,List.set_cons_zero,List.set_cons_succ]
         refine q2d (i:=10) (by kernel_rfl) rfl (fun K hK=>?_);refine step_append_lies _ (by rfl) _ _ _ (by rfl) (w1.heap.size+2) 56 i56 _ 3 56 Tryz.underlying54 hi56 hy0 hy1 hy2 rfl (by decide) (.slice ad d.length cp) d.length _ (by rfl) hownw ⟨ws.heap.size,0,none⟩ 1 1 [.int .i64 0,.slice none 0 0,.slice none 0 0] (by rfl) (by rfl) (World.news_of_block (cs:=#[.int .i64 0,.slice none 0 0,.slice none 0 0]) (t:=56) (fr:=(0,0)) hzw) (by simp[Value.oneCell']) (by omega) (by unfold maxLen;omega) (by omega) (by first|omega|(simp;omega)) w'.heap.size (by first|rfl|simp) ?_;intro g cap w2 hown2 hgrow hat hlt;obtain⟨p0,p1,p2,p3,p4,p5,p6,p7,p8,p9,p10,p11⟩:=qd4 (x:=d.length*3) (y:=d.length*3+1) (z:=d.length*3+2) rfl rfl rfl k0 fw hownw hown2 hgrow;have kne:some wr.heap.size≠(Value.slice ad d.length cp).ownBlock:=fun e=>Nat.lt_irrefl _ (hrow.lt _ e.symm).2;refine hK.out _ _ (fun _=>At5.grown k5 hgrow (fun e=>absurd (hownw.lt _ e.symm).1 (Nat.not_succ_le_self _)) kne) ?_;clear hK K;try simp only[Act.put,List.setIfInBounds_toArray]
         refine q2d (i:=11) (by kernel_rfl) rfl (fun K hK=>?_);go_simp;refine hK.out _ _ (fun h=>by simp at h) ?_;clear hK K;try simp only[Act.put,List.setIfInBounds_toArray,List.set_cons_zero,List.set_cons_succ]
         refine q2d (i:=12) (by kernel_rfl) rfl (fun K hK=>?_);go_simp;refine hK.out _ _ (fun h=>by simp at h) ?_;clear hK K;try simp only[Act.put,List.setIfInBounds_toArray,List.set_cons_zero,List.set_cons_succ]
         refine qcw (by kernel_rfl) ?_ _;go_wp2;go_roundw;case rel=>obtain⟨wa,_,he,hga,hs3⟩:=row3 (k:=kf) (t:=t') (x:=d.length*3) (y:=d.length*3+1) (z:=d.length*3+2) rfl rfl rfl hownw.1 hown2;exact⟨j+1,by omega,by go_num,_,by rw[he];exact Rws.push (t:=t') (.inl hSb) (fun j g e=>.inl (hSr j g e)) hJ' hCw hd rfl hv hgrow (hown2.lt g rfl).1 hat (hs3.lt g rfl).2 hga hs3,hrest,by rw[List.length_modify];exact hel,qj5 hlen hes⟩
         case measure=>simp[intOf];omega
      .have hcd1:(cd==0)=false:=by simp[hcd0]
       go_wp2;go_roundw;case rel=>exact⟨j+1,by omega,by go_num,es,hL2.grown (World.grownBy_alloc _ _ none),by simpa[q1e,hcd0]using hrest,hel,fun d hd=>by have:=hlen d hd;omega⟩
       case measure=>simp[intOf];omega
     .have hkd1:(kd0==3)=false:=by simp[hkd]
      go_wp2;go_roundw;case rel=>exact⟨j+1,by omega,by go_num,es,hL2.grown (World.grownBy_alloc _ _ none),by simpa[q1e,hkd]using hrest,hel,fun d hd=>by have:=hlen d hd;omega⟩
      case measure=>simp[intOf];omega
    .have hjm2:j=m:=by omega
     subst hjm2;go_wp2;go_ret2;rw[List.drop_eq_nil_of_le (by rw[hPs.out.len,<-hmp];exact Nat.le_refl _)]at hrest;simp only[q1e,sI]at hrest;exact⟨X1,w1,_,hQ1,.inr ⟨by trivial,rfl,hrest▸hL2⟩⟩
theorem qu6:PreOk env 44 (qda 13 96):=by
 intro C hC vs hp v hp' hk X w args hH hA;simp only[qda]at hk;split at hk;case isFalse=>cases hk
 rename_i hT;simp only[qbe]at hk;split at hk;case h_2=>cases hk
 rename_i v1 hg13;unfold qar at hk;split at hk;case h_2=>cases hk
 rename_i vD zs zi csD ec msD ill psD;split at hk;case h_2=>cases hk
 rename_i ms0 ps0 cs h1 h2 h3;split at hk;case isFalse=>cases hk
 rename_i hlen;have h0:=(hA.2 0 _ rfl).2;have g1:=q0y (show Rep w X.imm (.v (.int .i64 ill)) (args.getD 1 undef)from(hA.2 1 _ rfl).2);have g2:Rep w X.imm (.list psD) (args.getD 2 undef):=(hA.2 2 _ rfl).2;obtain⟨va,e0,hva,hvr⟩:=q5y (show Rep w X.imm (.agg [.list msD]) (args.getD 0 undef)from h0);have hrm:=hvr 0 _ rfl;obtain⟨sm,em,hml⟩:=q13 hrm;rw[em]at hrm;obtain⟨sl,el,hll⟩:=q13 g2;rw[el]at g2;have ha:args=#[.agg #[.slice sm.1 sm.2.1 sm.2.2],.int .i64 ill,.slice sl.1 sl.2.1 sl.2.2]:=by rw[arr3 hA.1,e0,arr1 hva,em,g1,el]
 obtain⟨ms,hms,hMat,hMrel⟩:=y1i hrm h1;obtain⟨ps,hps,hPat,hPrel⟩:=qx2 g2 h2;obtain⟨hcl,_⟩:=q3t h3;obtain⟨hml0,_⟩:=q3t h1;obtain⟨hpl0,_⟩:=q3t h2;obtain⟨hE0,hH0⟩:=hH.grown (World.grownBy_alloc w (.cells #[.slice sm.1 sm.2.1 sm.2.2] 27) none);have hA0:Ab.ArgRel (w.alloc (.cells #[.slice sm.1 sm.2.1 sm.2.2] 27)) X [.d (.agg [.list msD]),.d (.v (.int .i64 ill)),.d (.list psD)] args:=⟨hA.1,fun i u hu=>by have q:=hA.2 i u hu;refine⟨q.1,?_⟩;rcases(by have:=(List.getElem?_eq_some_iff.1 hu).1;simp at this;omega:i=0\/i=1\/i=2)with rfl|rfl|rfl<;>cases hu<;>exact hE0.rep q.2⟩;have hcall:=hC 13 _ _ _ _ hg13 X _ args hH0 hA0;rw[ha]at hcall⊢;have hne:ec≠0->v=.tup [.d (.list []),.d (.v (.int .i64 ec))]/\hp'=[]:=fun he=>by rw[if_neg he]at hk;cases hk;exact⟨rfl,rfl⟩
 have hout:ec=0->∃out0,v=.tup [.d (.list (out0.map fun l=>.list (l.map .agg))),.d (.v (.int .i64 0))]/\hp'=[]/\q1e ps0 cs (ms0.map q5b)=some out0:=fun he=>by
  rw[if_pos he]at hk;split at hk;·rename_i out0 ho;cases hk;exact⟨out0,rfl,rfl,ho⟩
  .cases hk
 obtain⟨out0,hout2⟩:∃out0,ec=0->v=.tup [.d (.list (out0.map fun l=>.list (l.map .agg))),.d (.v (.int .i64 0))]/\hp'=[]/\q1e ps0 cs (ms0.map q5b)=some out0:=by
  by_cases he:ec=0;·obtain⟨out0,h⟩:=hout he;exact⟨out0,fun _=>h⟩
  .exact⟨[],fun h=>absurd h he⟩
 refine(qsr sm.2.1 sl.2.1 csD.length sm.1 sl.1 sm.2.2 sl.2.2 ill ec zs zi vD.length ms0 ms ps0 ps cs out0 (hC 96) (fun l hl=>hT l (by simp only[qia,h1,h2,List.mem_append];exact hl)) (hml.trans hms.symm) (by rw[hml,<-hml0];exact hlen.1) (hll.trans hps.symm) (by rw[hll,<-hpl0];exact hlen.2) hcl.symm w (fun X1 w1 ac=>(∃more,X1.mu=X.mu++more)/\Ext X (w.alloc (.cells #[.slice sm.1 sm.2.1 sm.2.2] 27)) X1 w1/\HRel env X1 [] w1/\∃cc,Rep w1 X1.imm (.list csD) (.slice ac csD.length cc)) ?_ ?_ fun he=>(hout2 he).2.2).mono ?_
 .refine Calls.mono hcall ?_;rintro e w1⟨val,rfl,X1,hm1,hE1,hH1,hres⟩;obtain⟨_,_,_,vt,rfl,hvt,hvr⟩:=hres.plain rfl;obtain⟨_,q0⟩:=hvr 0 _ rfl;obtain⟨_,q1⟩:=hvr 1 _ rfl;obtain⟨_,q2⟩:=hvr 2 _ rfl;obtain⟨va',e0',hva',hvr'⟩:=q5y (show Rep w1 X1.imm (.agg [.list vD,.v (.int .i64 zs),.v (.int .i64 zi)]) (vt.getD 0 undef)from q0);obtain⟨sv,ev,hvl⟩:=q13 (hvr' 0 _ rfl);obtain⟨sc,esc,hcl2⟩:=q13 (show Rep w1 X1.imm (.list csD) (vt.getD 1 undef)from q1);have hq1:Rep w1 X1.imm (.list csD) (vt.getD 1 undef):=q1;rw[esc,hcl2]at hq1;refine⟨sv.1,sv.2.2,sc.1,sc.2.2,X1,?_,⟨hm1,hE1,hH1,_,hq1⟩,?_⟩;·rw[arr3 hvt,e0',arr3 hva',ev,q0y (hvr' 1 _ rfl),q0y (hvr' 2 _ rfl),esc,q0y (show Rep w1 X1.imm (.v (.int .i64 ec)) (vt.getD 2 undef)from q2),hvl,hcl2]
  .have hnone:X.G w.heap.size=none:=by cases hx:X.G w.heap.size with|none=>rfl|some lk=>have:=hH.gdom _ _ _ (show X.G w.heap.size=some (lk.1,lk.2)from hx);omega
   rw[cell?_of_heap (hE1.free w.heap.size (by simp) hnone).2 0];exact cell_of_row _ _ 0 _ _ _ (heap_alloc_new w _)
 .rintro X1 w1 ac⟨_,hE1,hH1,cc,hcc⟩;have hpt:∀b o u,w.cell? ⟨b,o,none⟩=some u->X.imm b o->w1.cell? ⟨b,o,none⟩=some u/\X1.imm b o:=fun b o u hc hi=>by obtain⟨c1,i1⟩:=hE0.point hc hi;exact hE1.point c1 i1
  have hup:∀d v,Rep w X.imm d v->Rep w1 X1.imm d v:=fun d v hr=>hr.mono hpt;refine⟨hH1,hMrel.imp fun a b h=>⟨h.1,h.2.up hup⟩,hPrel.imp fun a b h=>⟨h.1,h.2.1,h.2.2.up hup⟩,fun w' hw'=>⟨?_,?_,?_⟩⟩;·exact hMat w' (fun _ _=>True) fun b o u hc hi=>by obtain⟨c1,i1⟩:=hpt b o u hc hi;exact⟨hw' b o u c1 i1,trivial⟩
  .exact hPat w' (fun _ _=>True) fun b o u hc hi=>by obtain⟨c1,i1⟩:=hpt b o u hc hi;exact⟨hw' b o u c1 i1,trivial⟩
  .exact qx5 (I:=fun _ _=>True) (s:=(ac,csD.length,cc)) (hcc.mono fun b o u hc hi=>⟨hw' b o u hc hi,trivial⟩) h3
 .rintro e w2⟨X1,w1,ac,⟨⟨more,hm1⟩,hE1,hH1,_⟩,hfin⟩;have hE01:Ext X w X1 w1:=Ext.trans hH.gdom hE0 hE1;rcases hfin with⟨he,rfl,hg1⟩|⟨he,rfl,S,cur,ds,hSb,hSr,hCr,X2,hs,hr⟩;·obtain⟨rfl,rfl⟩:=hne he;obtain⟨hE2,hH2⟩:=hH1.grown hg1;exact⟨_,rfl,X1,⟨more,hm1⟩,Ext.trans hH.gdom hE01 hE2,hH2,.inl ⟨⟨rfl,rfl,(fun _ e=>by cases e),_,rfl,rfl,fun j c hj=>by
    rcases(by have:=(List.getElem?_eq_some_iff.1 hj).1;simp at this;omega:j=0\/j=1)with rfl|rfl<;>cases hj;·exact⟨rfl,.empty _ _⟩
    .exact⟨rfl,.v _ rfl⟩⟩,rfl⟩⟩
  .obtain⟨rfl,rfl,hpl⟩:=hout2 he;have himm:∀c,S c->∀o,Cx.imm {X2 with amb:=X1.amb} c o:=fun c hc o=>by obtain⟨q1,_,q3,_⟩:=hs.own c hc;exact⟨hH1.amb c o q1,fun l k e=>by rw[show X2.G c=none from q3]at e;cases e⟩
   have hr2:All2 (All2 (RepT w2 (Cx.imm {X2 with amb:=X1.amb}))) out0 ds:=hr.imp fun _ _ h=>h.imp fun _ _ h=>h.up fun d v hr=>hr.mono fun b o u hc hi=>⟨hc,hs.amb b o hi.1,hi.2⟩;obtain⟨more2,hm2⟩:=hs.mu;have q:=hs.rel;refine⟨_,rfl,{X2 with amb:=X1.amb},⟨more++more2,by show X2.mu=_;rw[hm2,hm1,List.append_assoc]⟩,Ext.trans hH.gdom hE01 hs.ext,⟨fun t=>trivial,q.bound,q.mu,fun o cs hcs=>by simp at hcs,q.gdom,fun b o hge=>hH1.amb b o (Nat.le_trans hs.ext.size hge),fun b l k hk o=>hs.amb b o (q.oamb b l k hk o),(fun g cs hg=>by cases hg),q.defers⟩,.inl ⟨⟨rfl,rfl,(fun _ e=>by cases e),_,rfl,rfl,fun j c hj=>?_⟩,rfl⟩⟩;rcases(by have:=(List.getElem?_eq_some_iff.1 hj).1;simp at this;omega:j=0\/j=1)with rfl|rfl<;>cases hj;·exact⟨rfl,qxa (himm _ hSb) (fun j g e=>himm g (hSr j g e)) hCr hr2 _ (by rw[<-hr.len,qa8 hpl,List.length_map,hml0,hml])⟩
   .exact⟨rfl,.v _ rfl⟩
end Go.Proofs.YtdmfjabikomgiaaGreat
namespace Go.Proofs.YtdmfjabikomgiaaGreat
open Go Go.Ab
theorem yim:∀f m,env.lib f=some m->LibOk env f m:=by
 intro f m h;have h':look1 none y32 f=some m:=h;simp only[y32,look1]at h';by_cases h00:44=f;·rw[if_pos h00]at h';cases h';rw[<-h00];exact fun vs hp v hp' h=>by cases h
 rw[if_neg h00]at h';by_cases h0:45=f;·rw[if_pos h0]at h';cases h';rw[<-h0];exact fun vs hp v hp' h=>by cases h
 rw[if_neg h0]at h';by_cases h1:148=f;·rw[if_pos h1]at h';cases h';rw[<-h1];exact qlq
 rw[if_neg h1]at h';by_cases h2:207=f;·rw[if_pos h2]at h';cases h';rw[<-h2];exact qzo
 rw[if_neg h2]at h';by_cases h3:242=f;·rw[if_pos h3]at h';cases h';rw[<-h3];exact qyo
 rw[if_neg h3]at h';by_cases h4:253=f;·rw[if_pos h4]at h';cases h';rw[<-h4];exact y7u
 rw[if_neg h4]at h';by_cases h5:254=f;·rw[if_pos h5]at h';cases h';rw[<-h5];exact qv9
 rw[if_neg h5]at h';cases h'
theorem yg8:∀f p,env.pre f=some p->PreOk env f p:=by
 intro f p h;have h':look1 none [(44,some (qda 13 96)),(45,some (qbe 43))] f=some p:=h;simp only[look1]at h';by_cases h0:44=f;·rw[if_pos h0]at h';cases h';rw[<-h0];exact qu6
 rw[if_neg h0]at h';by_cases h1:45=f;·rw[if_pos h1]at h';cases h';rw[<-h1];exact y0w qt9
 rw[if_neg h1]at h';cases h'
theorem y6a:qon env:=⟨yim,yg8⟩
variable {c : Config} {ill : Int}
def dP(p:Play):Int×Int×Trust:=(p.Kind,p.From,p.Trust)
def qis(m:Member):LT:=if m.Declared then [m.Trust]else []
def declL(c:Config)(l:LP)(cs:LI):Option (List (LT)):=q1e (l.map dP) cs (c.Members.map qis)
theorem qmi{α β:Type}(f:α->β)(g:α->α)(h:β->β)(k:∀a,f (g a)=h (f a)):∀(l:List α)(n:Nat),(l.modify n g).map f=(l.map f).modify n h|[],n=>by cases n<;>rfl|a::l,0=>by grind|a::l,n+1=>by show f a::(l.modify n g).map f=f a::(l.map f).modify n h;rw[qmi f g h k l n]
theorem qkb{α β:Type}(f:α->β):∀(ps:List (Int×Int×α))(cs:LI)(ds:List (List α)),q1e (ps.map fun p=>(p.1,p.2.1,f p.2.2)) cs (ds.map (List.map f))=(q1e ps cs ds).map (List.map (List.map f))
 |[],cs,ds=>by rfl|(k,a,t)::r,[],ds=>by rfl|(k,a,t)::r,c::cs,ds=>by
  simp only[List.map_cons,q1e,List.length_map];by_cases h:k=3/\c=0
  .rw[if_pos h,if_pos h];by_cases h2:0<=a/\a<ds.length;·rw[if_pos h2,if_pos h2,<-qmi (List.map f) (·++[t]) (·++[f t]) (fun l=>by simp)];exact qkb f r cs _
   grind
  .rw[if_neg h,if_neg h];exact qkb f r cs ds
def encU(t:Trust):List D:=[.v (.int .i64 t.Threshold),.list (t.Nodes.map q23),.list (t.Inner.map q0z)]
theorem y6e(t:Trust):D.agg (encU t)=q0z t:=by cases t;simp[encU,q0z,q2w]
theorem qv6:∀l:LB,allOf memD (l.map q1o)=some (l.map fun m=>(m.Declared,encU m.Trust))|[]=>rfl|m::l=>by have h:memD (q1o m)=some (m.Declared,encU m.Trust):=rfl;rw[List.map_cons,allOf,h,qv6 l];rfl
theorem qo2:∀l:LP,allOf playD (l.map q1l)=some (l.map fun p=>(p.Kind,p.From,encU p.Trust))|[]=>rfl|p::l=>by have h:playD (q1l p)=some (p.Kind,p.From,encU p.Trust):=rfl;rw[List.map_cons,allOf,h,qo2 l];rfl
theorem qvu:∀l:LI,allOf codeD (l.map q23)=some l|[]=>rfl|c::l=>by have h:codeD (q23 c)=some c:=rfl;rw[List.map_cons,allOf,h,qvu l]
theorem yi4{l:LP}{m:Meeting}{cs:LI}{e:Int}{L:List (LT)}(hn:c.Members.length<=1000)(hl:l.length<=1000)(hL:e=0->declL c l cs=some L)(he:e≠0->L=[]):qar (.tup [.d (.agg [.list (m.Voters.map q39),.v (.int .i64 m.Stopped),.v (.int .i64 m.Ill)]),.d (.list (cs.map q23)),.d (.v (.int .i64 e))]) [.d (.agg [.list (c.Members.map q1o)]),.d (.v (.int .i64 ill)),.d (.list (l.map q1l))] []=some (.tup [.d (.list (L.map q41)),.d (.v (.int .i64 e))],[]):=by
 unfold qar;dsimp only;rw[qv6,qo2,qvu];dsimp only;rw[if_pos ⟨by simp_all,by simp_all⟩];by_cases h0:e=0;case neg=>rw[if_neg h0,he h0];rfl
 have hp:=qkb encU (l.map dP) cs (c.Members.map qis);have hL':q1e (l.map dP) cs (c.Members.map qis)=some L:=hL h0;rw[hL']at hp;have e1:(l.map dP).map (fun p=>(p.1,p.2.1,encU p.2.2))=l.map fun p=>(p.Kind,p.From,encU p.Trust):=by rw[List.map_map];rfl
 have e2:(c.Members.map qis).map (List.map encU)=(c.Members.map fun m=>(m.Declared,encU m.Trust)).map fun m:Bool×List D=>if m.1 then [m.2]else []:=by rw[List.map_map,List.map_map];refine List.map_congr_left fun m _=>?_;show(qis m).map encU=if m.Declared then [encU m.Trust]else [];unfold qis;split<;>rfl
 rw[e1,e2]at hp;have e3:(L.map (List.map encU)).map (fun l=>D.list (l.map .agg))=L.map q41:=by rw[List.map_map];refine List.map_congr_left fun d _=>?_;show D.list ((d.map encU).map .agg)=.list (d.map q0z);rw[List.map_map];congr 1;exact List.map_congr_left fun t _=>y6e t
 simp_all
theorem qim{N:Nat}(hN:N<=10):∀(l:LP)(q:Nat)(m:Meeting)(ds:List (LT)),GoodMt N q m->q+l.length<=1000->ds.length=N->∃out,q1e (l.map dP) (playM l m).2 ds=some out
 |[],q,m,ds,_,_,_=>⟨ds,rfl⟩|p::r,q,m,ds,hm,hq,hd=>by
  rw[List.length_cons]at hq;rw[playM];simp only[List.map_cons,q1e];have hm':GoodMt N (q+1) (if(stepM m p).2=0 then(stepM m p).1 else m):=by
   split;·rename_i h0;exact hm.step hN (by omega) h0
   .exact hm.up
  by_cases h:(dP p).1=3/\(stepM m p).2=0;·obtain⟨ha,_⟩:=q85 h.2;obtain⟨_,_,_,f1,f2,_⟩:=q3p ha;have hl:=hm.len;show∃out,(if(dP p).1=3/\(stepM m p).2=0 then _ else _)=some out;rw[if_pos h];have hx:0<=(dP p).2.1/\(dP p).2.1<(ds.length:Int):=⟨f1,by rw[hd,<-hl];exact f2⟩;show∃out,(if 0<=(dP p).2.1/\(dP p).2.1<(ds.length:Int)then _ else _)=some out;rw[if_pos hx];exact qim hN r (q+1) _ _ hm' (by omega) (by simp_all)
  .show∃out,(if(dP p).1=3/\(stepM m p).2=0 then _ else _)=some out;rw[if_neg h];exact qim hN r (q+1) _ _ hm' (by omega) hd
noncomputable def q78(c:Config)(ill:Int)(l:LP):List (LT)×Int:=if(runG c ill l).2.2=0 then((declL c l (runG c ill l).2.1).getD [],0)else([],(runG c ill l).2.2)
theorem qiv{l:LP}(hl:l.length<=400)(h:(runG c ill l).2.2=0):∃L,declL c l (runG c ill l).2.1=some L:=by
 unfold runG at h⊢;split at h;·simp_all
 rename_i h0;obtain⟨h1,h2,h3⟩:=q6v (Decidable.not_not.1 h0);rw[if_neg h0,if_neg (by omega)];exact qim h2 l 1 _ _ h3 (by omega) (by simp)
theorem ktrG{l:LP}(hc:c.Members.length<=1000)(hl:l.length<=400):qar (.tup [.d (.agg [.list ((runG c ill l).1.Voters.map q39),.v (.int .i64 (runG c ill l).1.Stopped),.v (.int .i64 (runG c ill l).1.Ill)]),.d (.list ((runG c ill l).2.1.map q23)),.d (.v (.int .i64 (runG c ill l).2.2))]) [.d (.agg [.list (c.Members.map q1o)]),.d (.v (.int .i64 ill)),.d (.list (l.map q1l))] []=some (.tup [.d (.list ((q78 c ill l).1.map q41)),.d (.v (.int .i64 (q78 c ill l).2))],[]):=by
 have he:(q78 c ill l).2=(runG c ill l).2.2:=by unfold q78;split<;>simp_all
 rw[he];refine yi4 hc (by omega) (fun h0=>?_) fun h0=>by unfold q78;rw[if_neg h0]
 obtain⟨L,hL⟩:=qiv hl h0;unfold q78;simp_all
theorem qzd(h:q31 c)(hc:c.Members.length<=1000)(ill:Int){l:LP}(hl:l.length<=400)(hp:∀p∈l,SmallP p):za2 c ill l=some (q78 c ill l):=by obtain⟨n,hn⟩:=qbf (T:=tn) (qo5 h ill hp);refine qrj (T:=tn) (m:=qnp) (p:=qbe 43) sigOk (by rfl) rfl rfl ⟨n,?_⟩;have hn':call env n 43 [.d (.agg [.list (c.Members.map q1o)]),.d (.v (.int .i64 ill)),.d (.list (l.map q1l))] []=some (.tup [.d (.agg [.list ((runG c ill l).1.Voters.map q39),.v (.int .i64 (runG c ill l).1.Stopped),.v (.int .i64 (runG c ill l).1.Ill)]),.d (.list ((runG c ill l).2.1.map q23)),.d (.v (.int .i64 (runG c ill l).2.2))],[]):=hn;show libA (fun vs hp=>(qbe 43).k (call env n) vs hp) [.d (.agg [.list (c.Members.map q1o)]),.d (.v (.int .i64 ill)),.d (.list (l.map q1l))] []=some (.tup [.d (.list ((q78 c ill l).1.map q41)),.d (.v (.int .i64 (q78 c ill l).2))],[]);unfold libA qbe;dsimp only;rw[hn'];dsimp only;rw[ktrG hc hl];rfl
theorem qsa{f:Nat}:∀(ls:List (List D)),(∀x∈ls,∃n,call env n f [.d (.agg x)] []=some (.d (.agg x),[]))->∃n,∀m,n<=m->∀x∈ls,call env m f [.d (.agg x)] []=some (.d (.agg x),[])
 |[],_=>⟨0,fun _ _ _ h=>by cases h⟩|y::r,h=>by
  obtain⟨n,hn⟩:=h y (by simp);obtain⟨k,hk⟩:=qsa r fun x hx=>h x (by simp[hx]);refine⟨max n k,fun m hm x hx=>?_⟩;rcases List.mem_cons.1 hx with rfl|hx;·exact qor hn (by omega)
  grind
theorem qyy(h:q31 c)(hc:c.Members.length<=1000)(ill:Int){l:LP}(hl:l.length<=400)(hp:∀p∈l,SmallP p)(hf:∀m∈c.Members,Fits m.Trust)(hg:∀p∈l,Fits p.Trust):z9y c ill l=some (q78 c ill l):=by
 obtain⟨n,hn⟩:=qbf (T:=tn) (qpd h ill hp);have hn':call env n 13 [.d (.agg [.list (c.Members.map q1o)]),.d (.v (.int .i64 ill)),.d (.list (l.map q1l))] []=some (.tup [.d (.agg [.list ((runG c ill l).1.Voters.map q39),.v (.int .i64 (runG c ill l).1.Stopped),.v (.int .i64 (runG c ill l).1.Ill)]),.d (.list ((runG c ill l).2.1.map q23)),.d (.v (.int .i64 (runG c ill l).2.2))],[]):=hn;have hcopy:∀t,Fits t->∃n,call env n 96 [.d (.agg (encU t))] []=some (.d (.agg (encU t)),[]):=fun t ht=>by obtain⟨k,hk⟩:=qbf (T:=tn) (qku t ht);exact⟨k,hk⟩
 obtain⟨k,hk⟩:=qsa (f:=96) (qia [.d (.agg [.list (c.Members.map q1o)]),.d (.v (.int .i64 ill)),.d (.list (l.map q1l))]) fun x hx=>by unfold qia at hx;dsimp only at hx;rw[qv6,qo2]at hx;grind
 refine qrj (T:=tn) (m:=qnp) (p:=qda 13 96) sigOk (by rfl) rfl rfl ⟨max n k,?_⟩;show libA (fun vs hp=>(qda 13 96).k (call env (max n k)) vs hp) [.d (.agg [.list (c.Members.map q1o)]),.d (.v (.int .i64 ill)),.d (.list (l.map q1l))] []=some (.tup [.d (.list ((q78 c ill l).1.map q41)),.d (.v (.int .i64 (q78 c ill l).2))],[]);have hk2:=hk (max n k) (Nat.le_max_right _ _);unfold libA qda;dsimp only;rw[if_pos hk2];unfold qbe;dsimp only;rw[qor hn' (Nat.le_max_left _ _)];dsimp only;rw[ktrG hc hl];rfl
variable {N q : Nat}
theorem q9n(s:Nat):∀n i,q1z s n i=(List.range' i n).filter fun k=>s.testBit k|0,_=>rfl|n+1,i=>by rw[q1z,List.range'_succ,List.filter_cons,q9n s n (i+1)]
def wellL(N z:Nat):List Nat:=(List.range' 0 N).filter fun k=>!z.testBit k
theorem qg4{z:Nat}(hN:N<=10)(hz:z<2^N):nodes (2^N-1-z)=wellL N z:=by
 unfold nodes wellL;rw[q9n,show(10:Nat)=N+(10-N)by omega,<-List.range'_append_1,List.filter_append,Nat.zero_add];have hb:∀k,(2^N-1-z).testBit k=(decide (k<N)&&!z.testBit k):=fun k=>by rw[show 2^N-1-z=2^N-(z+1)by omega,Nat.testBit_two_pow_sub_succ hz]
 have h2:(List.range' N (10-N)).filter (fun k=>(2^N-1-z).testBit k)=[]:=by rw[List.filter_eq_nil_iff];intro k hk;have:=(List.mem_range'_1.1 hk).1;rw[hb,decide_eq_false (by omega)];simp
 rw[h2,List.append_nil];refine List.filter_congr fun k hk=>?_;simp_all
theorem qm4{S:LV}{z a:Nat}:∀l:List Nat,rIn S z a l=if z.testBit a=true then none else conIn S a (l.filter fun k=>!z.testBit k)|[]=>by simp[rIn,conIn]|b::r=>by rw[rIn,qm4 r,List.filter_cons];cases ha:z.testBit a<;>cases hb:z.testBit b<;>simp[conIn]
theorem qkk{S:LV}{z:Nat}:∀l:List Nat,rOut S z l=qqi S (wellL S.length z) (l.filter fun k=>!z.testBit k)
 |[]=>rfl|a::r=>by
  rw[rOut,qm4,qkk r,List.filter_cons];cases ha:z.testBit a;·simp[qqi,wellL]
  rfl
def qy5(m:Meeting):Int×Int×Bool:=if q3i m=true then qqi m.Voters (wellL m.Voters.length m.Ill.toNat) (wellL m.Voters.length m.Ill.toNat)else(0,0,false)
theorem qz8{m:Meeting}(h:SmallMt m):z4e m=some (qy5 m):=by apply yie;rw[q6y h,bS];unfold qy5;cases hv:q3i m with|false=>rfl|true=>
  obtain⟨⟨h1,h2,⟨h3,h4⟩,_⟩,_⟩:=q10.1 hv;have hp:=qb4 h2;have hpos:=Nat.two_pow_pos m.Voters.length;have hw:z4k (subI .i64 (subI .i64 (shlI .i64 1 ((m.Voters.length:Nat):Int)) 1) m.Ill)=some ((wellL m.Voters.length m.Ill.toNat).map Int.ofNat):=by rw[shlN h2,show subI .i64 ((2^m.Voters.length:Nat):Int) 1=((2^m.Voters.length:Nat):Int)-1 from q46 (by omega) (by omega),q46 (by omega) (by omega),show((2^m.Voters.length:Nat):Int)-1-m.Ill=((2^m.Voters.length-1-m.Ill.toNat:Nat):Int)by omega,qit (by omega),qg4 h2 (by omega)]
  rw[nT,cF,q0i (by omega),hw,bS,List.length_map,if_pos rfl];refine y36 (fun v hv=>(h.voters v hv).confs) _ ?_ (fun a ha=>?_) _ 0 rfl;·rw[<-qg4 h2 (by omega)];exact qep _
  .have:=(List.mem_filter.1 ha).1;simp_all
theorem y04{m:Meeting}(h:SmallMt m):z5z m=some (qy5 m):=by apply yfw;rw[q6x h,bS];unfold qy5;cases hv:q3i m with|false=>rfl|true=>obtain⟨⟨h1,h2,⟨h3,h4⟩,_⟩,_⟩:=q10.1 hv;have hp:=qb4 h2;rw[nT,cF,if_pos rfl];have:=y0z (S:=m.Voters) h2 (fun v hv=>(h.voters v hv).confs) (z:=m.Ill.toNat) (by omega) (st:=m.Stopped) m.Voters.length 0 (by omega);rw[Int.toNat_of_nonneg h3]at this;rw[qkk]at this;exact this
theorem qno{N q:Nat}(hN:N<=10)(hq:q<=100000)(a:Nat){a6 a8:Int}{a20:LV}{a22 a24:Int}{R:Option (Meeting×Int)}:∀(r k:Nat)(m:Meeting)(any:Bool),k+r=N->GoodMt N q m->(∀m' any',m'=sends m ((List.range' k r).map fun b=>(a,b))->any'=(any||decide (pot m<pot m'))->z3p any' a6 (addI .i64 a8 1) m'.Voters m'.Stopped m'.Ill a20 a22 a24=R)->(∃r,R=some r)->z3r any (a:Int) a6 a8 (N:Int) (k:Int) m.Voters m.Stopped m.Ill a20 a22 a24=R
 |0,k,m,any,h,hm,hR,⟨r,hr⟩=>by rw[hr];apply y9o;rw[q00 (by omega),cF,hR m any rfl (by simp),hr]|r+1,k,m,any,h,hm,hR,⟨x,hx⟩=>by
  have hs:z87 (Meeting.mk m.Voters m.Stopped m.Ill) (Play.mk 2 (a:Int) (k:Int) (Claim.mk 0 0) (Trust.mk 0 [] []) (Message.mk 0 0 (Trust.mk 0 [] []) [] []))=some (stepM m (sendP a k)):=qo4 (hm.small hN) (qjx a k);rw[hx];apply y9o;rw[q04 (by omega),cT,hs,bS,q03 (by omega),<-hx];rw[List.range'_succ]at hR;by_cases h0:(stepM m (sendP a k)).2=0
  .have hp:=qo1 hm h0;have hg:=hm.send hN hq h0;have hp2:=(q2z hN hq ((List.range' (k+1) r).map fun b=>(a,b)) _ hg).2.le;have hne:z1z (Meeting.mk m.Voters m.Stopped m.Ill) (stepM m (sendP a k)).1=some false:=by obtain⟨s,h3,h4⟩:=qg3 (hm.small hN) (stepM m (sendP a k)).1;cases s with|false=>exact h3|true=>rw[<-h4.1 rfl]at hp;omega
   have key:z3r true (a:Int) a6 a8 (N:Int) ((k+1:Nat):Int) (stepM m (sendP a k)).1.Voters (stepM m (sendP a k)).1.Stopped (stepM m (sendP a k)).1.Ill a20 a22 a24=R:=by
    refine qno hN hq a r (k+1) _ true (by omega) hg (fun m' any' e1 e2=>hR m' any' ?_ ?_) ⟨x,hx⟩;·rw[e1];show _=sends (sendM m a k) _;unfold sendM;rw[if_pos h0]
    .rw[e1]at e2⊢;rw[e2];have:pot m<pot (sends (stepM m (sendP a k)).1 ((List.range' (k+1) r).map fun b=>(a,b))):=by omega
     simp[this]
   rw[show eqB (stepM m (sendP a k)).2 0=true by rw[h0];rfl,cT];simp_all
  .rw[q0d h0,cF];refine qno hN hq a r (k+1) m any (by omega) hm (fun m' any' e1 e2=>hR m' any' ?_ e2) ⟨x,hx⟩;rw[e1];show _=sends (sendM m a k) _;unfold sendM;simp_all
def allP(N i r:Nat):List (Nat×Nat):=(List.range' i r).flatMap fun a=>(List.range' 0 N).map fun b=>(a,b)
theorem qx6{N q:Nat}(hN:N<=10)(hq:q<=100000){a20:LV}{a22 a24:Int}{R:Option (Meeting×Int)}:∀(r i:Nat)(m:Meeting)(any:Bool),i+r=N->GoodMt N q m->(∀m' any',m'=sends m (allP N i r)->any'=(any||decide (pot m<pot m'))->z81 any' (N:Int) (N:Int) false m'.Voters m'.Stopped m'.Ill a20 a22 a24=R)->(∃r,R=some r)->z3p any (N:Int) (i:Int) m.Voters m.Stopped m.Ill a20 a22 a24=R
 |0,i,m,any,h,hm,hR,⟨x,hx⟩=>by rw[hx];apply yb1;rw[q00 (by omega),cF,show i=N by omega,hR m any rfl (by simp),hx]|r+1,i,m,any,h,hm,hR,⟨x,hx⟩=>by
  have hl:=hm.len;rw[hx];apply yb1;rw[q04 (by omega),cT,hl,<-hx];refine qno hN hq i N 0 m any (by omega) hm (fun m' any' e1 e2=>?_) ⟨x,hx⟩;obtain⟨g1,g2⟩:=q2z hN hq ((List.range' 0 N).map fun b=>(i,b)) m hm;rw[<-e1]at g1 g2;rw[q03 (by omega)];refine qx6 hN hq r (i+1) m' any' (by omega) g1 (fun m2 any2 q1 q2=>hR m2 any2 ?_ ?_) ⟨x,hx⟩;·rw[q1,e1,<-qgx];rfl
  .have hp1:=g2.le;have hp2:=(q2z hN hq (allP N (i+1) r) m' g1).2.le;rw[<-q1]at hp2;rw[q2,e2];grind
theorem y74{m:Meeting}{a b:Nat}(h:(stepM m (sendP a b)).2=0):a∈wellL m.Voters.length m.Ill.toNat/\b∈wellL m.Voters.length m.Ill.toNat:=by obtain⟨ha,_⟩:=q85 h;obtain⟨hv,_,_,f1,f2,ht,hi,_⟩:=q3p ha;obtain⟨⟨_,h2,_⟩,_⟩:=q10.1 hv;obtain⟨t1,t2,_,t4⟩:=ht rfl;have e1:has m.Ill.toNat (a:Int)=false:=hi;have e2:has (m.Ill.toNat|||m.Stopped.toNat) (b:Int)=false:=t4;have f2':(a:Int)<(m.Voters.length:Int):=f2;have t2':(b:Int)<(m.Voters.length:Int):=t2;rw[q76 (by omega)]at e1 e2;rw[Nat.testBit_or]at e2;refine⟨List.mem_filter.2 ⟨List.mem_range'_1.2 ⟨by omega,by omega⟩,by rw[e1];rfl⟩,List.mem_filter.2 ⟨List.mem_range'_1.2 ⟨by omega,by omega⟩,?_⟩⟩;simp_all
theorem qhr{N z:Nat}:∀(l:List (Nat×Nat))(m:Meeting),m.Voters.length=N->m.Ill.toNat=z->sends m (l.filter fun p=>!z.testBit p.1&&!z.testBit p.2)=sends m l
 |[],m,_,_=>rfl|p::r,m,hl,hz=>by
  have hstep:(sendM m p.1 p.2).Voters.length=N/\(sendM m p.1 p.2).Ill.toNat=z:=by
   unfold sendM;split;·rename_i h0;rw[(qf4 h0).2.2.1];exact⟨by simpa using hl,hz⟩
   omega
  have ih:=qhr r (sendM m p.1 p.2) hstep.1 hstep.2;rw[List.filter_cons];split;·exact ih
  .rename_i hn;have:sendM m p.1 p.2=m:=by
    unfold sendM;split;·rename_i h0;obtain⟨h1,h2⟩:=y74 h0;rw[hl,hz]at h1 h2;have h1:=(List.mem_filter.1 h1).2;have h2:=(List.mem_filter.1 h2).2;rw[h1,h2]at hn;exact absurd rfl hn
    .rfl
   rw[this]at ih;show _=sends (sendM m p.1 p.2) r;simp_all
theorem qta(f:Nat->Bool)(l k:List Nat):(l.flatMap fun a=>k.map fun b=>(a,b)).filter (fun p=>f p.1&&f p.2)=(l.filter f).flatMap fun a=>(k.filter f).map fun b=>(a,b):=by induction l with|nil=>rfl|cons a l ih=>
  rw[List.flatMap_cons,List.filter_append,ih,List.filter_cons];have h:(k.map fun b=>(a,b)).filter (fun p=>f p.1&&f p.2)=if f a=true then(k.filter f).map fun b=>(a,b)else []:=by
   rw[List.filter_map];by_cases h:f a=true;·rw[if_pos h];congr 1;refine List.filter_congr fun b _=>?_;simp[h]
   .rw[if_neg h,List.map_eq_nil_iff,List.filter_eq_nil_iff];intro b _;simp[h]
  grind
theorem y2n(hN:N<=10){m:Meeting}(hm:GoodMt N q m):sends m (allP N 0 N)=q4w (q2c N m) m:=by obtain⟨⟨s1,s2⟩,_⟩:=hm.sets;have hw:q2c N m=wellL N m.Ill.toNat:=qg4 hN (by omega);rw[<-qhr (N:=N) (allP N 0 N) m hm.len rfl,hw];unfold allP q4w q61;rw[qta (fun k=>!m.Ill.toNat.testBit k)];rfl
theorem qvy{N q B:Nat}(hN:N<=10)(hq:q<=100000)(hB0:1000000<=B){a20:LV}{a22 a24:Int}:∀(n:Nat)(m:Meeting),GoodMt N q m->BdM B m->10*(10*B)-pot m<n->z3p false (N:Int) 0 m.Voters m.Stopped m.Ill a20 a22 a24=some (iterM (q2c N m) n m,0)
 |0,m,hm,hB,hn=>by omega|n+1,m,hm,hB,hn=>by
  obtain⟨g1,g2⟩:=qn8 hN hq hB0 hm hB (q2c N m);have hR:=(q2z hN hq (q61 (q2c N m)) m hm).2;have hp:pot m<=pot (q4w (q2c N m) m):=hR.le;refine qx6 hN hq N 0 m false (by omega) hm (fun m' any' e1 e2=>?_) ⟨_,rfl⟩;rw[y2n hN hm]at e1;subst e1;rw[Bool.false_or]at e2;by_cases h:pot m<pot (q4w (q2c N m) m);·have hb:=y82 hN g1 g2;rw[decide_eq_true h]at e2;subst e2;have ih:=qvy hN hq hB0 (a20:=a20) (a22:=a22) (a24:=a24) n (q4w (q2c N m) m) g1 g2 (by omega);rw[qlz]at ih;apply y9j;rw[cT,g1.len];exact ih
  .rw[decide_eq_false h]at e2;subst e2;have e:q4w (q2c N m) m=m:=(hR.stay (by show pot (q4w (q2c N m) m)=pot m;omega)).1;rw[qkp e,e];apply y9j;rfl
theorem y2u(hN:N<=10)(_h1:1<=N)(hq:q<=100000){m:Meeting}(hm:GoodMt N q m):∃m',z4j m=some (m',0)/\z7a m=some (m',0)/\GoodMt N q m':=by
 obtain⟨B,hB0,hB⟩:=ybz m;obtain⟨g1,_⟩:=qxu hN hq hB0 (a10:=[]) (a12:=0) (a14:=0) (10*(10*B)-pot m+1) m hm hB (by omega);have g2:=qvy hN hq hB0 (a20:=[]) (a22:=0) (a24:=0) (10*(10*B)-pot m+1) m hm hB (by omega);refine⟨iterM (q2c N m) (10*(10*B)-pot m+1) m,y8y _ _ ?_,y9a _ _ ?_,qr9 (K:=GoodMt N q) (fun m a b h h0=>h.send hN hq h0) _ _ m hm⟩;·rw[q6y (hm.small hN),hm.val,bS];grind
 .rw[q6x (hm.small hN),hm.val,bS,nT,cF];apply yed;rw[cT,hm.len];omega
theorem qmv:z4j q1u=some (q1u,1)/\z7a q1u=some (q1u,1):=by
 have hv:q3i q1u=false:=by rfl
 constructor;·apply y8y;rw[q6y q49,hv];rfl
 .apply y9a;rw[q6x q49,hv];rfl
theorem qs6{c:Config}{n:Nat}(hn:n<=10)(h1:1<=n)(hm:c.Members.length=n){l:LI}:∀(k s:Nat)(i:Int),k<=100->s<2^n->q0n l i->∃(v:Nat)(j:Int),z8r (n:Int) (s:Int) (k:Int) l i c.Members=some ((v:Int),l,j)/\v<2^n/\q0n l j
 |0,s,i,hk,hs,h=>by
  have hp:=pow10 hn;have hp1:=Nat.two_pow_pos n;obtain⟨v,j,g1,g2,g3,g4⟩:=N_ok (n:=2) (by decide) (by decide) h;have hd:=qam c;have hr:=q96 c (by omega);have hlt:ndiff (2^n-1) (decl c)<2^n:=qux.2 fun i hi=>by rw[q53]at hi;cases hx:(2^n-1).testBit i with|true=>rfl|false=>simp[hx]at hi
  have hv:v=0\/v=1:=by omega
  have key:∀w:Nat,mulI .i64 ((ndiff (2^n-1) (decl c):Nat):Int) v=((w:Nat):Int)->w<2^n->∃(v:Nat)(j:Int),z8r (n:Int) (s:Int) ((0:Nat):Int) l i c.Members=some ((v:Int),l,j)/\v<2^n/\q0n l j:=by intro w hw hwl;refine⟨s|||w,j,?_,Nat.or_lt_two_pow hs hwl,g4⟩;apply yal;rw[q00 (by omega),q0i (by omega),show Config.mk c.Members=c from rfl,hr];simp only[cF,bS];rw[g1];simp only[bS];rw[qvb hn,qcs (by omega) (by omega),hw,q3a (by omega) (by omega)]
  rcases hv with rfl|rfl;·refine key 0 ?_ hp1;show mulI .i64 _ 0=_;unfold mulI;rw[Int.mul_zero];exact wrap64 (by omega) (by omega)
  .refine key (ndiff (2^n-1) (decl c)) ?_ hlt;show mulI .i64 _ 1=_;unfold mulI;rw[Int.mul_one];exact wrap64 (by omega) (by omega)|k+1,s,i,hk,hs,h=>by have hp:=pow10 hn;obtain⟨v,j,g1,g2,g3,g4⟩:=N_ok (n:=(n:Int)) (by omega) (by omega) h;obtain⟨w,rfl⟩:=Int.eq_ofNat_of_zero_le g2;have hw:2^w<2^n:=Nat.pow_lt_pow_right (by decide) (by omega);obtain⟨v',j',k1,k2,k3⟩:=qs6 hn h1 hm k (s|||2^w) j (by omega) (Nat.or_lt_two_pow hs hw) g4;refine⟨v',j',?_,k2,k3⟩;apply yal;rw[q04 (by omega),g1];simp only[cT,bS];rw[q0i (by omega),shl1 (by omega) (by omega),tN,q3a (by omega) (by omega),q46 (by omega) (by omega)];rw[show((k+1:Nat):Int)-1=((k:Nat):Int)by omega];exact k1
theorem y7b{m:Nat}{c:Config}(hc:ConfOk m c)(hm:m<=10){l:LI}{i:Int}(h:q0n l i):∃(v:Nat)(j:Int),za1 c l i=some ((v:Int),l,j)/\v<2^c.Members.length/\q0n l j:=by
 have hle:=hc.le;have hpos:=hc.pos;obtain⟨p,j,g1,g2,g3⟩:=q4l (ps:=[0,1,1,2,3]) (by decide) (by decide) h;have hpn:∃k:Nat,k<=100/\p=(k:Int):=by
  simp at g2;rcases g2 with rfl|rfl|rfl|rfl;·exact⟨0,by decide,rfl⟩
  .exact⟨1,by decide,rfl⟩
  .exact⟨2,by decide,rfl⟩
  .exact⟨3,by decide,rfl⟩
 obtain⟨k,hk,rfl⟩:=hpn;have hp1:=Nat.two_pow_pos c.Members.length;obtain⟨v,j',k1,k2,k3⟩:=qs6 (c:=c) (n:=c.Members.length) (by omega) (by omega) rfl (l:=l) k 0 j hk hp1 g3;refine⟨v,j',?_,k2,k3⟩;apply yh7;rw[g1];simp only[bS];exact k1
variable {m : Message} {l : LI} {i : Int}
structure RawM(m:Message):Prop where
 tr:raw m.Trust=true
 votes:m.Votes.length<1152921504606846976
 accs:m.Accepts.length<1152921504606846976
theorem qpk(h:RawM m):∃b,z48 m=some b/\(b=true->SmallM m/\Fits m.Trust):=by obtain⟨b,g1,g2⟩:=qj6 h.tr;cases b with|false=>exact⟨false,y2v _ _ (by simp_all),fun e=>by cases e⟩|true=>
  have hs:=g2 rfl;by_cases e1:m.Votes.length<=40
  .refine⟨leB ((m.Accepts.length:Nat):Int) 40,y2v _ _ (by rw[g1,bS,cT,q0s (by omega)];rfl),fun e=>?_⟩;have:m.Accepts.length<=40:=by simp[leB]at e;omega
   exact⟨⟨by unfold Small;omega,by omega,by omega⟩,by unfold Fits;omega⟩
  .exact⟨false,y2v _ _ (by rw[g1,bS,cT,q0v (by omega)];rfl),fun e=>by cases e⟩
theorem qn2(l:LM)(hl:l.length<1000)(hr:∀m∈l,RawM m):∀(suf:LM)(i:Nat),l.drop i=suf->∃b,z26 l ((l.length:Nat):Int) (i:Int)=some b/\(b=true->∀m∈suf,SmallM m)|[],i,h=>⟨true,y4p _ _ _ _ (by rw[q0c h];rfl),fun _ m hm=>by grind⟩|m::suf,i,h=>by have hlt:=q09 h;obtain⟨b,g1,g2⟩:=qpk (hr m (List.mem_of_mem_drop (i:=i) (by simp_all)));cases b with|false=>exact⟨false,y4p _ _ _ _ (by rw[q05 h,cT,q02 h,g1];rfl),fun e=>by cases e⟩|true=>obtain⟨c,q1,q2⟩:=qn2 l hl hr suf (i+1) (q01 h);refine⟨c,y4p _ _ _ _ (by rw[q05 h,cT,q02 h,g1,bS,q03 (by omega),q1];rfl),fun e x hx=>?_⟩;grind
structure RawV(v:Voter):Prop where
 tr:raw v.Trust=true
 votes:v.Votes.length<1152921504606846976
 accs:v.Accepts.length<1152921504606846976
 confs:v.Confirms.length<1152921504606846976
 heard:v.Heard.length<1152921504606846976
 msgs:∀m∈v.Heard,RawM m
theorem y4e{v:Voter}(h:RawV v):∃b,z3m v=some b/\(b=true->SmallV v/\Fits v.Trust):=by obtain⟨b,g1,g2⟩:=qj6 h.tr;cases b with|false=>exact⟨false,qni _ _ (by simp_all),fun e=>by cases e⟩|true=>
  have hs:=g2 rfl;by_cases e1:v.Votes.length<=40
  .by_cases e2:v.Accepts.length<=40
   .by_cases e3:v.Confirms.length<=40
    .by_cases e4:v.Heard.length<=20;·obtain⟨c,q1,q2⟩:=qn2 v.Heard (by omega) h.msgs v.Heard 0 rfl;have q3:z4m v.Heard=some c:=yas _ _ (by rw[q00 (by omega),cF];omega);refine⟨c,qni _ _ (by rw[g1,bS,cT,q0s (by omega),cT,q0s (by omega),cT,q0s (by omega),cT,q3];rfl),fun e=>?_⟩;exact⟨⟨by unfold Small;omega,by omega,by omega,by omega,by omega,q2 e⟩,by unfold Fits;omega⟩
     .have q3:z4m v.Heard=some false:=yas _ _ (by rw[q04 (by omega),cT]);exact⟨false,qni _ _ (by simp_all),fun e=>by cases e⟩
    .exact⟨false,qni _ _ (by rw[g1,bS,cT,q0s (by omega),cT,q0s (by omega),cT,q0v (by omega)];rfl),fun e=>by cases e⟩
   .exact⟨false,qni _ _ (by rw[g1,bS,cT,q0s (by omega),cT,q0v (by omega)];rfl),fun e=>by cases e⟩
  .exact⟨false,qni _ _ (by rw[g1,bS,cT,q0v (by omega)];rfl),fun e=>by cases e⟩
structure RawP(p:Play):Prop where
 tr:raw p.Trust=true
 msg:RawM p.Message
theorem qmp(l:LP)(hl:l.length<1000)(hr:∀p∈l,RawP p):∀(suf:LP)(i:Nat),l.drop i=suf->∃b,z2k l ((l.length:Nat):Int) (i:Int)=some b/\(b=true->∀p∈suf,SmallP p/\Fits p.Trust)|[],i,h=>⟨true,qwr _ _ _ _ (by rw[q0c h];rfl),fun _ m hm=>by grind⟩|p::suf,i,h=>by have hlt:=q09 h;have hp:=hr p (List.mem_of_mem_drop (i:=i) (by simp_all));obtain⟨b,g1,g2⟩:=qj6 hp.tr;cases b with|false=>exact⟨false,qwr _ _ _ _ (by rw[q05 h,cT,q02 h,g1];rfl),fun e=>by cases e⟩|true=>obtain⟨d,u1,u2⟩:=qpk hp.msg;cases d with|false=>exact⟨false,qwr _ _ _ _ (by rw[q05 h,cT,q02 h,g1,bS,nT,cF,u1];rfl),fun e=>by cases e⟩|true=>
    obtain⟨c,q1,q2⟩:=qmp l hl hr suf (i+1) (q01 h);refine⟨c,qwr _ _ _ _ (by rw[q05 h,cT,q02 h,g1,bS,nT,cF,u1,bS,nT,cF,q03 (by omega),q1]),fun e x hx=>?_⟩;rcases List.mem_cons.1 hx with hx|hx;·rw[hx];have:=g2 rfl;exact⟨⟨by unfold Small;omega,(u2 rfl).1⟩,by unfold Fits;omega⟩
    simp_all
theorem qm8(l:LP)(n:Nat)(hn:n<1000)(hr:∀p∈l,RawP p):∃b,z4g l (n:Int)=some b/\(b=true->l.length<=n/\∀p∈l,SmallP p/\Fits p.Trust):=by
 by_cases h:l.length<=n;·obtain⟨b,g1,g2⟩:=qmp l (by omega) hr l 0 rfl;exact⟨b,ybb _ _ _ (by rw[q00 (by omega),cF];omega),fun e=>⟨h,g2 e⟩⟩
 .exact⟨false,ybb _ _ _ (by rw[q04 (by omega)];rfl),fun e=>by cases e⟩
theorem qmz(m:Meeting)(hl:m.Voters.length<1000)(hr:∀v∈m.Voters,RawV v):∀(suf:LV)(i:Nat),m.Voters.drop i=suf->∃b,z2h m.Voters ((m.Voters.length:Nat):Int) (i:Int) m.Voters m.Stopped m.Ill=some b/\(b=true->∀v∈suf,SmallV v)|[],i,h=>⟨true,y3v _ _ _ _ _ _ _ (by rw[q0c h];rfl),fun _ m hm=>by grind⟩|v::suf,i,h=>by have hlt:=q09 h;obtain⟨b,g1,g2⟩:=y4e (hr v (List.mem_of_mem_drop (i:=i) (by simp_all)));cases b with|false=>exact⟨false,y3v _ _ _ _ _ _ _ (by rw[q05 h,cT,q02 h,g1];rfl),fun e=>by cases e⟩|true=>obtain⟨c,q1,q2⟩:=qmz m hl hr suf (i+1) (q01 h);refine⟨c,y3v _ _ _ _ _ _ _ (by rw[q05 h,cT,q02 h,g1,bS,nT,cF,q03 (by omega),q1]),fun e x hx=>?_⟩;grind
theorem qyn(m:Meeting)(hr:∀v∈m.Voters,RawV v):∃b,z6q m=some b/\(b=true->SmallMt m):=by
 by_cases h:m.Voters.length<=12;·obtain⟨b,g1,g2⟩:=qmz m (by omega) hr m.Voters 0 rfl;exact⟨b,y83 _ _ (by rw[q00 (by omega),cF];omega),fun e=>⟨by omega,g2 e⟩⟩
 .exact⟨false,y83 _ _ (by rw[q04 (by omega)];rfl),fun e=>by cases e⟩
theorem y1l(hb:TB m.Trust)(hs:SmallM m)(h:q0n l i):∃y j,z3u m l i=some (y,l,j)/\SmallM y/\q0n l j:=by
 obtain⟨x0,i0,g0,g0',g0'x,a0⟩:=N_ok (n:=5) (by omega) (by omega) h;by_cases e0:x0=0;·obtain⟨x1,i1,g1,_,a1⟩:=q4l (ps:=[-1,9,10]) (by decide) (by decide) a0;refine⟨⟨x1,m.Seq,m.Trust,m.Votes,m.Accepts⟩,i1,qqo _ _ _ _ ?_,⟨hs.tr,hs.votes,hs.accs⟩,a1⟩;rw[g0,bS];dsimp only;rw[e0,q0e,cT,g1,bS,Trust.etaM]
 by_cases e1:x0=1;·obtain⟨x1,i1,g1,_,a1⟩:=q4l (ps:=[0,-1,addI .i64 m.Seq 1]) (by simp) (by simp) a0;refine⟨⟨m.Node,x1,m.Trust,m.Votes,m.Accepts⟩,i1,qqo _ _ _ _ ?_,⟨hs.tr,hs.votes,hs.accs⟩,a1⟩;rw[g0,bS];dsimp only;rw[q0d e0,cF,e1,q0e,cT,g1,bS,Trust.etaM]
 by_cases e2:x0=2;·obtain⟨y,i1,g1,g1',_,a1⟩:=qv7 m.Trust hb.1 hb.2 i0 a0;refine⟨⟨m.Node,m.Seq,y,m.Votes,m.Accepts⟩,i1,qqo _ _ _ _ ?_,⟨by have:=hb.1;unfold Small;grind,hs.votes,hs.accs⟩,a1⟩;rw[g0,bS];dsimp only;rw[q0d e0,cF,q0d e1,cF,e2,q0e,cT,g1,bS,Trust.etaM]
 obtain⟨k,i1,g1,g1',a1⟩:=y5d (n:=4) (by omega) a0;have g1:z7b 4 l i0=some (k,l,i1):=g1;by_cases e3:x0=3;·refine⟨⟨m.Node,m.Seq,m.Trust,k,m.Accepts⟩,i1,qqo _ _ _ _ ?_,⟨hs.tr,by grind,hs.accs⟩,a1⟩;rw[g0,bS];dsimp only;rw[q0d e0,cF,q0d e1,cF,q0d e2,cF,e3,q0e,cT,g1,bS,Trust.etaM]
 .refine⟨⟨m.Node,m.Seq,m.Trust,m.Votes,k⟩,i1,qqo _ _ _ _ ?_,⟨hs.tr,hs.votes,by grind⟩,a1⟩;rw[g0,bS];dsimp only;rw[q0d e0,cF,q0d e1,cF,q0d e2,cF,q0d e3,cF,g1,bS,Trust.etaM]
theorem y2e(p:Play):Play.mk p.Kind p.From p.To p.Claim (Trust.mk p.Trust.Threshold p.Trust.Nodes p.Trust.Inner) (Message.mk p.Message.Node p.Message.Seq (Trust.mk p.Message.Trust.Threshold p.Message.Trust.Nodes p.Message.Trust.Inner) p.Message.Votes p.Message.Accepts)=p:=by simp
theorem y79{p:Play}(hp:SmallP p/\TB p.Trust/\TB p.Message.Trust)(h:q0n l i):∃y j,z56 p l i=some (y,l,j)/\(SmallP y/\Fits y.Trust)/\q0n l j:=by
 obtain⟨⟨hs,hm⟩,hb,hbm⟩:=hp;have hf:Fits p.Trust:=by have:=hb.1;unfold Fits;omega
 obtain⟨x0,i0,g0,g0',g0'x,a0⟩:=N_ok (n:=6) (by omega) (by omega) h;by_cases e0:x0=0;·obtain⟨x1,i1,g1,_,_,a1⟩:=q68 (a:=0) (b:=6) (by omega) (by omega) (by omega) a0;refine⟨⟨x1,p.From,p.To,p.Claim,p.Trust,p.Message⟩,i1,qn4 _ _ _ _ ?_,⟨⟨hs,hm⟩,hf⟩,a1⟩;rw[g0,bS];dsimp only;rw[e0,q0e,cT,g1,bS,Trust.etaM,Trust.etaM]
 by_cases e1:x0=1;·obtain⟨x1,i1,g1,_,a1⟩:=q4l (ps:=[-1,0,9,10,p.To]) (by simp) (by simp) a0;refine⟨⟨p.Kind,x1,p.To,p.Claim,p.Trust,p.Message⟩,i1,qn4 _ _ _ _ ?_,⟨⟨hs,hm⟩,hf⟩,a1⟩;rw[g0,bS];dsimp only;rw[q0d e0,cF,e1,q0e,cT,g1,bS,Trust.etaM,Trust.etaM]
 by_cases e2:x0=2;·obtain⟨x1,i1,g1,_,a1⟩:=q4l (ps:=[-1,0,9,10,p.From]) (by simp) (by simp) a0;refine⟨⟨p.Kind,p.From,x1,p.Claim,p.Trust,p.Message⟩,i1,qn4 _ _ _ _ ?_,⟨⟨hs,hm⟩,hf⟩,a1⟩;rw[g0,bS];dsimp only;rw[q0d e0,cF,q0d e1,cF,e2,q0e,cT,g1,bS,Trust.etaM,Trust.etaM]
 by_cases e3:x0=3;·obtain⟨x1,i1,g1,a1⟩:=qxs a0;refine⟨⟨p.Kind,p.From,p.To,x1,p.Trust,p.Message⟩,i1,qn4 _ _ _ _ ?_,⟨⟨hs,hm⟩,hf⟩,a1⟩;rw[g0,bS];dsimp only;rw[q0d e0,cF,q0d e1,cF,q0d e2,cF,e3,q0e,cT,g1,bS,Trust.etaM,Trust.etaM]
 by_cases e4:x0=4;·obtain⟨y,i1,g1,g1',_,a1⟩:=qv7 p.Trust hb.1 hb.2 i0 a0;have hb1:=hb.1;refine⟨⟨p.Kind,p.From,p.To,p.Claim,y,p.Message⟩,i1,qn4 _ _ _ _ ?_,⟨⟨by unfold Small;grind,hm⟩,by unfold Fits;grind⟩,a1⟩;rw[g0,bS];dsimp only;rw[q0d e0,cF,q0d e1,cF,q0d e2,cF,q0d e3,cF,e4,q0e,cT,g1,bS,Trust.etaM,Trust.etaM]
 .obtain⟨y,i1,g1,g1',a1⟩:=y1l hbm hm a0;refine⟨⟨p.Kind,p.From,p.To,p.Claim,p.Trust,y⟩,i1,qn4 _ _ _ _ ?_,⟨⟨hs,g1'⟩,hf⟩,a1⟩;rw[g0,bS];dsimp only;rw[q0d e0,cF,q0d e1,cF,q0d e2,cF,q0d e3,cF,q0d e4,cF,g1,bS,Trust.etaM,Trust.etaM]
end Go.Proofs.YtdmfjabikomgiaaGreat
