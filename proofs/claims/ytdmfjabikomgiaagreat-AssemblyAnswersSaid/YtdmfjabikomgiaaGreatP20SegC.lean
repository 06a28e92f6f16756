/- Laws of the printed functions. -/
import Derived.Test.YtdmfjabikomgiaaGreatP20SegB
import Derived.Test.YtdmfjabikomgiaaGreatP20SegA
namespace Go.Proofs.YtdmfjabikomgiaaGreat
open Go Go.Ab
variable {B N a b q : Nat}
def qax(c:Config)(k:Nat):Voter:=⟨(k:Int),1,tr c k,[],[],[],[]⟩
def q88(c:Config):LV:=(List.range c.Members.length).map (qax c)
theorem qn9(c:Config):(q88 c).length=c.Members.length:=by simp[q88]
theorem y17(c:Config){k:Nat}(h:k<c.Members.length):atV (q88 c) k=qax c k:=by
 have:=q2b (S:=q88 c) (b:=k) (by rw[qn9];exact h);have h2:(q88 c)[k]?=some (qax c k):=by simp[q88,h]
 grind
theorem tr_at{c:Config}{i:Nat}{m:Member}(h:c.Members[i]?=some m):tr c i=m.Trust:=by unfold tr;grind
noncomputable def playM:LP->Meeting->Meeting×LI|[],m=>(m,[])|p::r,m=>((playM r (if(stepM m p).2=0 then(stepM m p).1 else m)).1,(stepM m p).2::(playM r (if(stepM m p).2=0 then(stepM m p).1 else m)).2)
theorem qs1{N:Nat}(hN:N<=10):∀(l:LP)(q:Nat)(m:Meeting),GoodMt N q m->q+l.length<=100000->GoodMt N (q+l.length) (playM l m).1
 |[],q,m,h,_=>h|p::r,q,m,h,hq=>by
  rw[playM,List.length_cons,show q+(r.length+1)=q+1+r.length by omega];rw[List.length_cons]at hq;dsimp only;refine qs1 hN r (q+1) _ ?_ (by omega);split;·rename_i h0;exact h.step hN (by omega) h0
  .exact h.up
theorem qtc{N:Nat}(hN:N<=10)(l:LP)(hl:l.length<=400)(hp:∀p∈l,SmallP p)(a10:LB)(a12:LV)(a14 a16:Int):∀(suf:LP)(i q:Nat)(acc:LI)(m:Meeting),l.drop i=suf->acc.length<=i->GoodMt N q m->q+suf.length<=1000->z49 acc l ((l.length:Nat):Int) (i:Int) a10 a12 a14 a16 m.Voters m.Stopped m.Ill=some ((playM suf m).1,acc++(playM suf m).2,0)
 |[],i,q,acc,m,h,ha,hm,hq=>by apply ybp;rw[q0c h,cF,show Meeting.mk m.Voters m.Stopped m.Ill=m from rfl,hm.fresh hN,bS,playM,List.append_nil]|p::suf,i,q,acc,m,h,ha,hm,hq=>by
  have hlt:=q09 h;rw[List.length_cons]at hq;have hps:=hp p (List.mem_of_mem_drop (i:=i) (by grind));apply ybp;rw[q05 h,cT,q02 h,show Meeting.mk m.Voters m.Stopped m.Ill=m from rfl,qop (hm.small hN) hps,bS,q03 (by omega),playM];by_cases h0:(stepM m p).2=0;·have ih:=qtc hN l hl hp a10 a12 a14 a16 suf (i+1) (q+1) (acc++[(stepM m p).2]) (stepM m p).1 (q01 h) (by grind) (hm.step hN (by omega) h0) (by omega);simp only[if_pos h0];rw[show eqB (stepM m p).2 0=true by rw[h0];rfl,cT,q06 (by simp[q07];omega),ih];simp
  .have ih:=qtc hN l hl hp a10 a12 a14 a16 suf (i+1) (q+1) (acc++[(stepM m p).2]) m (q01 h) (by grind) hm.up (by omega);simp only[if_neg h0];rw[q0d h0,cF,q06 (by simp[q07];omega),ih];simp
def sendP(a b:Nat):Play:=⟨2,(a:Int),(b:Int),⟨0,0⟩,noT,noM⟩
theorem qjx(a b:Nat):SmallP (sendP a b):=⟨qf0,ql5⟩
noncomputable def sendM(m:Meeting)(a b:Nat):Meeting:=if(stepM m (sendP a b)).2=0 then(stepM m (sendP a b)).1 else m
def tot(l:LM):Nat:=(l.map fun m=>m.Seq.toNat).sum
def pot(m:Meeting):Nat:=(m.Voters.map fun v=>tot v.Heard).sum
theorem y2x:∀(l:List Nat)(i:Nat)(x:Nat),i<l.length->(l.set i x).sum+l.getD i 0=l.sum+x|[],i,x,h=>by cases h|y::l,0,x,_=>by grind|y::l,i+1,x,h=>by have:=y2x l i x (by simp_all);grind
theorem qxd{m:Message}(h1:1<=m.Seq):∀{l:LM},oldB l m=false->tot l<tot (hearL m l)
 |[],_=>by simp[hearL,tot];omega|x::r,ho=>by
  rw[qe7,Bool.or_eq_false_iff]at ho;rw[hearL];split;·have:=qxd h1 (l:=r) ho.2;simp only[tot,List.map_cons,List.sum_cons]at this⊢;omega
  .split
   .rename_i hn;have:¬m.Seq<=x.Seq:=by grind
    simp only[tot,List.map_cons,List.sum_cons];omega
   .simp only[tot,List.map_cons,List.sum_cons];omega
theorem qf4{m:Meeting}(h:(stepM m (sendP a b)).2=0):mAsk m (sendP a b)=0/\oldB (atV m.Voters b).Heard (say (atV m.Voters a))=false/\(stepM m (sendP a b)).1=⟨m.Voters.set b (turnV (atV m.Voters b) {atV m.Voters b with Heard:=hearL (say (atV m.Voters a)) (atV m.Voters b).Heard}),m.Stopped,m.Ill⟩/\a<m.Voters.length/\b<m.Voters.length/\a≠b/\m.Ill.toNat.testBit a=false/\(m.Ill.toNat|||m.Stopped.toNat).testBit b=false:=by
 obtain⟨ha,w,e,hw⟩:=q85 h;obtain⟨hv,_,_,f1,f2,ht,hi,_⟩:=q3p ha;obtain⟨⟨_,l10,_⟩,_⟩:=q10.1 hv;obtain⟨t1,t2,t3,t4⟩:=ht rfl;have f2:(a:Int)<(m.Voters.length:Int):=f2;have t2:(b:Int)<(m.Voters.length:Int):=t2;have t3:(b:Int)≠(a:Int):=t3;have hwb:whoP (sendP a b)=b:=tN b;have hi:has m.Ill.toNat (a:Int)=false:=hi;have t4:has (m.Ill.toNat|||m.Stopped.toNat) (b:Int)=false:=t4;rw[q76 (by omega)]at hi t4;rw[hwb]at e hw;rcases hw with⟨_,_,h2,_⟩|⟨u,hu,rfl⟩;·exact absurd rfl h2
 .rcases hu with⟨k,_⟩|⟨_,g1,g2⟩|⟨k,_⟩|⟨k,_⟩;·cases k
  .have e1:(sendP a b).From.toNat=a:=tN a;rw[e1]at g1 g2;refine⟨ha,g1,?_,by omega,by omega,by omega,hi,t4⟩;rw[e,g2];rfl
  .cases k
  .cases k
theorem qmr(b u:Voter):(turnV b u).Heard=u.Heard:=by obtain⟨s,_,h2,_⟩:=q4d b u;rw[h2];exact(q2s u).2.2.2.2
theorem qo1{m:Meeting}(hm:GoodMt N q m)(h:(stepM m (sendP a b)).2=0):pot m<pot (stepM m (sendP a b)).1:=by
 obtain⟨_,ho,e,ha,hb,_⟩:=qf4 h;rw[e];unfold pot;dsimp only;have hA:=hm.at (b:=a) (by rw[<-hm.len];omega);have h1:=(q14.1 hA.2.1).1.seq.1;have ht:=qxd (m:=say (atV m.Voters a)) h1 ho;rw[List.map_set];have hs:=y2x (m.Voters.map fun v=>tot v.Heard) b (tot (turnV (atV m.Voters b) {atV m.Voters b with Heard:=hearL (say (atV m.Voters a)) (atV m.Voters b).Heard}).Heard) (by simp_all);rw[qmr]at hs⊢;have hg:(m.Voters.map fun v=>tot v.Heard).getD b 0=tot (atV m.Voters b).Heard:=by rw[List.getD_eq_getElem?_getD,List.getElem?_map,q2b hb];rfl
 grind
theorem GoodMt.send(hN:N<=10)(hq:q<=100000){m:Meeting}(hm:GoodMt N q m)(h:(stepM m (sendP a b)).2=0):GoodMt N q (stepM m (sendP a b)).1:=hm.move hN hq h (.inr ⟨rfl,rfl⟩)
noncomputable def sends(m:Meeting)(l:List (Nat×Nat)):Meeting:=l.foldl (fun m p=>sendM m p.1 p.2) m
structure SendR(m m':Meeting)(l:List (Nat×Nat)):Prop where
 le:pot m<=pot m'
 stay:pot m'=pot m->m'=m/\∀p∈l,(stepM m (sendP p.1 p.2)).2≠0
theorem q2z{N q:Nat}(hN:N<=10)(hq:q<=100000):∀(l:List (Nat×Nat))(m:Meeting),GoodMt N q m->GoodMt N q (sends m l)/\SendR m (sends m l) l
 |[],m,h=>⟨h,Nat.le_refl _,fun _=>⟨rfl,fun _ h=>by cases h⟩⟩|p::r,m,h=>by
  show GoodMt N q (sends (sendM m p.1 p.2) r)/\SendR m (sends (sendM m p.1 p.2) r) (p::r);unfold sendM;by_cases h0:(stepM m (sendP p.1 p.2)).2=0;·rw[if_pos h0];obtain⟨g1,g2⟩:=q2z hN hq r _ (h.send hN hq h0);have:=qo1 h h0;have:=g2.le;exact⟨g1,by omega,fun e=>by omega⟩
  .rw[if_neg h0];obtain⟨g1,g2⟩:=q2z hN hq r m h;refine⟨g1,g2.le,fun e=>⟨(g2.stay e).1,fun x hx=>?_⟩⟩;rcases List.mem_cons.1 hx with e'|hx;·grind
   .exact(g2.stay e).2 x hx
theorem qdx{K:Meeting->Prop}(hK:∀m a b,K m->(stepM m (sendP a b)).2=0->K (stepM m (sendP a b)).1):∀(l:List (Nat×Nat))(m:Meeting),K m->K (sends m l)|[],_,h=>h|p::r,m,h=>by show K (sends (sendM m p.1 p.2) r);refine qdx hK r _ ?_;unfold sendM;grind
theorem qgx(m:Meeting)(l k:List (Nat×Nat)):sends m (l++k)=sends (sends m l) k:=List.foldl_append
def q61(w:List Nat):List (Nat×Nat):=w.flatMap fun a=>w.map fun b=>(a,b)
theorem qlf{N q:Nat}(hN:N<=10)(hq:q<=100000)(w:List Nat)(hw:w.length<=10)(a:Nat){a8:LI}{a10 a12:Int}{a26:LV}{a28 a30:Int}{R:Option (Meeting×Bool)}:∀(suf:List Nat)(i:Nat)(m:Meeting)(any:Bool),w.drop i=suf->GoodMt N q m->(∀m' any',m'=sends m (suf.map fun b=>(a,b))->any'=(any||decide (pot m<pot m'))->z31 (w.map Int.ofNat) any' a8 a10 (addI .i64 a12 1) m'.Voters m'.Stopped m'.Ill a26 a28 a30=R)->(∃r,R=some r)->z32 (w.map Int.ofNat) any (a:Int) a8 a10 a12 (w.map Int.ofNat) ((w.length:Nat):Int) (i:Int) m.Voters m.Stopped m.Ill a26 a28 a30=R
 |[],i,m,any,h,hm,hR,⟨r,hr⟩=>by rw[hr];apply y8e;rw[q0c h,cF,hR m any rfl (by simp),hr]|b::suf,i,m,any,h,hm,hR,⟨r,hr⟩=>by
  have hlt:=q09 h;have h':(w.map Int.ofNat).drop i=(b:Int)::suf.map Int.ofNat:=by rw[<-List.map_drop,h];rfl
  have hs:=qop (hm.small hN) (qjx a b);have hs:z5n (Meeting.mk m.Voters m.Stopped m.Ill) (Play.mk 2 (a:Int) (b:Int) (Claim.mk 0 0) (Trust.mk 0 [] []) (Message.mk 0 0 (Trust.mk 0 [] []) [] []))=some (stepM m (sendP a b)):=hs;rw[hr];apply y8e;rw[q04 (by omega),cT,q02 h',hs,bS,q03 (by omega),<-hr];by_cases h0:(stepM m (sendP a b)).2=0
  .rw[show eqB (stepM m (sendP a b)).2 0=true by rw[h0];rfl,cT];refine qlf hN hq w hw a suf (i+1) _ true (q01 h) (hm.send hN hq h0) (fun m' any' e1 e2=>?_) ⟨r,hr⟩;have hp:=qo1 hm h0;have hp2:=(q2z hN hq (suf.map fun b=>(a,b)) _ (hm.send hN hq h0)).2.le;refine hR m' any' ?_ ?_;·rw[e1];show _=sends (sendM m a b) _;unfold sendM;simp_all
   grind
  .rw[q0d h0,cF];refine qlf hN hq w hw a suf (i+1) m any (q01 h) hm (fun m' any' e1 e2=>hR m' any' ?_ e2) ⟨r,hr⟩;rw[e1];show _=sends (sendM m a b) _;unfold sendM;grind
theorem qqu{N q:Nat}(hN:N<=10)(hq:q<=100000)(w:List Nat)(hw:w.length<=10){a18:LV}{a20 a22:Int}:∀(suf:List Nat)(i:Nat)(m:Meeting)(any:Bool),w.drop i=suf->GoodMt N q m->z31 (w.map Int.ofNat) any (w.map Int.ofNat) ((w.length:Nat):Int) (i:Int) m.Voters m.Stopped m.Ill a18 a20 a22=some (sends m (suf.flatMap fun a=>w.map fun b=>(a,b)),any||decide (pot m<pot (sends m (suf.flatMap fun a=>w.map fun b=>(a,b)))))
 |[],i,m,any,h,hm=>by apply ybj;rw[q0c h,cF];simp[sends]|a::suf,i,m,any,h,hm=>by
  have hlt:=q09 h;have h':(w.map Int.ofNat).drop i=(a:Int)::suf.map Int.ofNat:=by rw[<-List.map_drop,h];rfl
  apply ybj;rw[q04 (by omega),cT,q02 h',List.length_map];refine qlf hN hq w hw a w 0 m any rfl hm (fun m' any' e1 e2=>?_) ⟨_,rfl⟩;obtain⟨g1,g2⟩:=q2z hN hq (w.map fun b=>(a,b)) m hm;rw[<-e1]at g1 g2;rw[q03 (by omega),qqu hN hq w hw suf (i+1) m' any' (q01 h) g1,List.flatMap_cons,qgx,<-e1];have hp1:=g2.le;have hp2:=(q2z hN hq (suf.flatMap fun a=>w.map fun b=>(a,b)) m' g1).2.le;congr 2;grind
def q2c(N:Nat)(m:Meeting):List Nat:=nodes (2^N-1-m.Ill.toNat)
noncomputable def q4w(w:List Nat)(m:Meeting):Meeting:=sends m (q61 w)
theorem y1m(hN:N<=10)(hq:q<=100000){m:Meeting}(hm:GoodMt N q m):z7l m=some (q4w (q2c N m) m,decide (pot m<pot (q4w (q2c N m) m))):=by
 have hl:=hm.len;obtain⟨⟨s1,s2⟩,_⟩:=hm.sets;have hp:=qb4 hN;have hpos:=Nat.two_pow_pos N;have hw:z4k (subI .i64 (subI .i64 (shlI .i64 1 ((m.Voters.length:Nat):Int)) 1) m.Ill)=some ((q2c N m).map Int.ofNat):=by
  have e1:subI .i64 ((2^N:Nat):Int) 1=((2^N:Nat):Int)-1:=q46 (by omega) (by omega);rw[hl,shlN hN,e1,q46 (by omega) (by omega)];have:((2^N:Nat):Int)-1-m.Ill=((2^N-1-m.Ill.toNat:Nat):Int):=by omega
  rw[this];exact qit (by omega)
 apply yda;rw[q0i (by omega),hw,bS];have:=qqu hN hq (q2c N m) (qep _) (a18:=[]) (a20:=0) (a22:=0) (q2c N m) 0 m false rfl hm;rw[List.length_map];rw[Bool.false_or]at this;exact this
noncomputable def iterM(w:List Nat):Nat->Meeting->Meeting|0,m=>m|n+1,m=>iterM w n (q4w w m)
theorem qkp{w:List Nat}{m:Meeting}(h:q4w w m=m):∀n,iterM w n m=m|0=>rfl|n+1=>by rw[iterM,h];exact qkp h n
theorem qr9{K:Meeting->Prop}(hK:∀m a b,K m->(stepM m (sendP a b)).2=0->K (stepM m (sendP a b)).1)(w:List Nat):∀(n:Nat)(m:Meeting),K m->K (iterM w n m)|0,_,h=>h|n+1,m,h=>qr9 hK w n _ (qdx hK _ m h)
def BdM(B:Nat)(m:Meeting):Prop:=∀v∈m.Voters,∀x∈v.Heard,x.Seq.toNat<=B
theorem y9g{l:List Nat}(h:∀x∈l,x<=B):l.sum<=l.length*B:=by induction l with|nil=>simp|cons y l ih=>have h1:=h y (by simp);have h2:=ih fun x hx=>h x (by grind);rw[List.sum_cons,List.length_cons,Nat.add_mul];omega
theorem y82(hN:N<=10){m:Meeting}(hm:GoodMt N q m)(hB:BdM B m):pot m<=10*(10*B):=by
 have h1:pot m<=(m.Voters.map fun v=>tot v.Heard).length*(10*B):=y9g fun x hx=>by
  obtain⟨v,hv,rfl⟩:=List.mem_map.1 hx;have h2:tot v.Heard<=(v.Heard.map fun m=>m.Seq.toNat).length*B:=y9g fun y hy=>by obtain⟨k,hk,rfl⟩:=List.mem_map.1 hy;exact hB v hv k hk
  obtain⟨i,hi⟩:=List.getElem?_of_mem hv;have hlt:i<m.Voters.length:=(List.getElem?_eq_some_iff.1 hi).1;have hr:=hm.ready v hv;rw[q2b hlt]at hi;cases hi;have:=hr.hlen;rw[List.length_map]at h2;exact Nat.le_trans h2 (Nat.mul_le_mul_right B this)
 have hl:=hm.len;rw[List.length_map]at h1;exact Nat.le_trans h1 (Nat.mul_le_mul_right _ (by omega))
theorem BdM.send(hB0:1000000<=B){m:Meeting}(hm:GoodMt N q m)(hB:BdM B m)(h:(stepM m (sendP a b)).2=0):BdM B (stepM m (sendP a b)).1:=by
 obtain⟨_,_,e,ha,hb,_⟩:=qf4 h;rw[e];intro v hv x hx;dsimp only at hv;rcases List.mem_or_eq_of_mem_set hv with g|g;·exact hB v g x hx
 .rw[g,qmr]at hx;rcases qej hx with g|g;·have hA:=hm.at (b:=a) (by rw[<-hm.len];omega);have h1:=(q14.1 hA.2.1).1.seq;rw[g];show(atV m.Voters a).Seq.toNat<=B;omega
  .exact hB _ (List.mem_of_getElem? (q2b hb)) x g
theorem ybz(m:Meeting):∃B,1000000<=B/\BdM B m:=by
 have key:∀{l:List Nat}{x:Nat},x∈l->x<=l.sum:=by intro l;induction l with|nil=>simp|cons y l ih=>grind
 refine⟨1000000+pot m,by omega,fun v hv x hx=>?_⟩;have h1:x.Seq.toNat<=tot v.Heard:=key (List.mem_map_of_mem (f:=fun m:Message=>m.Seq.toNat) hx);have h2:tot v.Heard<=pot m:=key (List.mem_map_of_mem (f:=fun v:Voter=>tot v.Heard) hv);omega
theorem qn8(hN:N<=10)(hq:q<=100000)(hB0:1000000<=B){m:Meeting}(hm:GoodMt N q m)(hB:BdM B m)(w:List Nat):GoodMt N q (q4w w m)/\BdM B (q4w w m):=qdx (K:=fun m=>GoodMt N q m/\BdM B m) (fun _m _a _b h h0=>⟨h.1.send hN hq h0,h.2.send hB0 h.1 h0⟩) _ m ⟨hm,hB⟩
theorem qlz(w:List Nat)(m:Meeting):q2c N (q4w w m)=q2c N m:=qdx (K:=fun x=>q2c N x=q2c N m) (fun x a b h h0=>by rw[<-h];unfold q2c;rw[(qf4 h0).2.2.1]) _ m rfl
theorem qxu{N q B:Nat}(hN:N<=10)(hq:q<=100000)(hB0:1000000<=B){a10:LV}{a12 a14:Int}:∀(n:Nat)(m:Meeting),GoodMt N q m->BdM B m->10*(10*B)-pot m<n->z3h true m.Voters m.Stopped m.Ill a10 a12 a14=some (iterM (q2c N m) n m,0)/\q4w (q2c N m) (iterM (q2c N m) n m)=iterM (q2c N m) n m
 |0,m,hm,hB,hn=>by omega|n+1,m,hm,hB,hn=>by
  obtain⟨g1,g2⟩:=qn8 hN hq hB0 hm hB (q2c N m);have hR:=(q2z hN hq (q61 (q2c N m)) m hm).2;have hr:z7l (Meeting.mk m.Voters m.Stopped m.Ill)=_:=y1m hN hq hm;have hp:=hR.le;by_cases h:pot m<pot (q4w (q2c N m) m);·have hb:=y82 hN g1 g2;obtain⟨i1,i2⟩:=qxu hN hq hB0 (a10:=a10) (a12:=a12) (a14:=a14) n (q4w (q2c N m) m) g1 g2 (by omega);rw[qlz]at i1 i2;refine⟨?_,i2⟩;apply y1o;rw[cT,hr,bS,decide_eq_true h];exact i1
  .have e:q4w (q2c N m) m=m:=(hR.stay (by show pot (q4w (q2c N m) m)=pot m;have:pot m<=pot (q4w (q2c N m) m):=hp;omega)).1;rw[qkp e];refine⟨?_,e⟩;apply y1o;rw[cT,hr,bS,e,decide_eq_false (Nat.lt_irrefl (pot m))];apply y1o;rw[cF,show Meeting.mk m.Voters m.Stopped m.Ill=m from rfl,hm.fresh hN,bS]
end Go.Proofs.YtdmfjabikomgiaaGreat
namespace Go.Proofs.YtdmfjabikomgiaaGreat
open Go Go.Ab Go.Sort
end Go.Proofs.YtdmfjabikomgiaaGreat
namespace Go.Proofs.YtdmfjabikomgiaaGreat
open Go Go.Ab Go.Sort
theorem y6w{m:Nat}:∀t:Trust,good t=true->uses t<2^m->below (m:Int) t=true:=by
 apply Trust.ind;intro t ih hg hu;rw[qg9]at hg;simp only[aT,dT]at hg;obtain⟨_,_,hN,_,hI⟩:=hg;rw[qoi]at hu;have hu':=qux.1 hu;rw[y6o,aT];refine⟨?_,?_⟩;·rw[List.all_eq_true];intro k hk;have hkr:=List.all_eq_true.1 hN k hk;have h1:=qpw hk hkr;obtain⟨j,rfl,hj,hb⟩:=y4v h1;have h2:=hu' j (by rw[Nat.testBit_or,hb];rfl);simp_all
 .have hgs:∀l:LT,goods l=true->∀x∈l,good x=true:=by intro l;induction l with|nil=>simp|cons y r ihr=>intro h x hx;simp only[goods,aT]at h;grind
  have key:∀l:LT,(∀x∈l,below (m:Int) x=true)->q6z (m:Int) l=true:=by intro l;induction l with|nil=>intro _;rfl|cons y r ihr=>intro h;simp only[q6z,h y (by simp),ihr (fun x hx=>h x (by grind)),Bool.and_self]
  refine key _ fun x hx=>ih x hx (hgs _ hI x hx) ?_;exact qux.2 fun i hi=>hu' i (by rw[Nat.testBit_or,qq6 hx i hi,Bool.or_true])
theorem ValidC.conf{c:Config}{n:Nat}(h:ValidC c)(h1:1<=c.Members.length)(h2:c.Members.length<=n):ConfOk n c:=⟨h1,h2,fun m hm=>by
  have:=h.2 m hm;unfold MemV at this;unfold MemOk;split;·rename_i hd;rw[if_pos hd]at this;exact⟨this.1,y6w _ (qzl this.1) this.2⟩
  simp_all⟩
variable {n : Nat}
def y2d(ms:LB):Prop:=∀m∈ms,Small m.Trust
theorem qzr(k m:Int):Small ⟨1,[k,m],[]⟩:=by unfold Small;rw[q8p];simp[sizes]
theorem qtl{n:Nat}(hn:n<=10)(h1:1<=n)(l:LI)(i:Int)(a10:LB):∀(r k:Nat)(ms:LB),k+r=ms.length->1<=ms.length->ms.length<=n->y2d ms->(∀j m,j<k->ms[j]?=some m->m.Declared=true)->∃c,z6a ((ms.length:Nat):Int) (k:Int) l i a10 ms=some (c,l,i)/\ConfOk n c/\∀m∈c.Members,m.Declared=true
 |0,k,ms,hk,hp,hl,hs,hd=>by
  have hsc:q31 ⟨ms⟩:=⟨by grind,hs⟩;by_cases h0:cerr ⟨ms⟩=0
  .refine⟨⟨ms⟩,?_,(qap.1 h0).conf hp hl,fun m hm=>?_⟩;·apply qyi;rw[q00 (by omega),cF,qny hsc,h0];rfl
   .obtain⟨j,hj⟩:=List.getElem?_of_mem hm;grind
  .refine⟨⟨[⟨true,⟨1,[0],[]⟩⟩]⟩,?_,?_,fun m hm=>?_⟩;·apply qyi;rw[q00 (by omega),cF,qny hsc];simp[neB,h0]
   .refine⟨by show 1<=1;omega,by show 1<=n;omega,fun x hx=>?_⟩;have hx':x=⟨true,⟨1,[0],[]⟩⟩:=by simpa using hx
    subst hx';show MemOk 1 _;unfold MemOk;rw[if_pos rfl];exact⟨by decide,by decide⟩
   grind|r+1,k,ms,hk,hp,hl,hs,hd=>by
  have hlt:k<ms.length:=by omega
  have hget:ms[k]?=some ms[k]:=by simp
  cases hdk:ms[k].Declared with|true=>obtain⟨c,g1,g2⟩:=qtl hn h1 l i a10 r (k+1) ms (by omega) hp hl hs (fun j m hj hm=>by grind);refine⟨c,?_,g2⟩;apply qyi;rw[q04 (by omega),cT,q0m (y:=ms[k]) (by omega) (by simp)];simp only[nthN,tN,hget,hdk,nT,cF];rw[q03 (by omega)];omega|false=>
   have hlen:(ms.set k ⟨true,⟨1,[(k:Int),remI .i64 ((k+1:Nat):Int) ((ms.length:Nat):Int)],[]⟩⟩).length=ms.length:=by simp
   obtain⟨c,g1,g2⟩:=qtl hn h1 l i a10 r (k+1) (ms.set k ⟨true,⟨1,[(k:Int),remI .i64 ((k+1:Nat):Int) ((ms.length:Nat):Int)],[]⟩⟩) (by omega) (by omega) (by omega) (fun m hm=>by
    rcases List.mem_or_eq_of_mem_set hm with h|h;·exact hs m h
    .subst h;exact qzr _ _) (fun j m hj hm=>by grind);refine⟨c,?_,g2⟩;rw[hlen]at g1;apply qyi;rw[q04 (by omega),cT,q0m (y:=ms[k]) (by omega) (by simp)];simp only[nthN,tN,hget,hdk,Bool.not_false,cT];rw[q0i (by omega),q0m (y:=ms[k]) (by omega) (by simp),q03 (by omega)];omega
theorem ycm(hn:n<=10)(h1:2<=n)(l:LI)(i:Int)(a6:LB):∀(r:Nat)(ms:LB),2<=ms.length+r->ms.length<=n->y2d ms->∃c,z8v l i a6 ms=some (c,l,i)/\ConfOk n c/\∀m∈c.Members,m.Declared=true:=by intro r;induction r with|zero=>intro ms h2 hl hs;obtain⟨c,g1,g2⟩:=qtl hn (by omega) l i a6 ms.length 0 ms (by omega) (by omega) hl hs (fun j m hj _=>by omega);refine⟨c,?_,g2⟩;apply ya2;rw[q00 (by omega),cF];omega|succ r ih=>
  intro ms h2 hl hs;by_cases h:ms.length<2;·obtain⟨c,g1,g2⟩:=ih (ms++[⟨false,⟨0,[],[]⟩⟩]) (by simp;omega) (by simp;omega) (fun m hm=>by
    rcases List.mem_append.1 hm with hm|hm;·exact hs m hm
    .rw[List.mem_singleton]at hm;subst hm;unfold Small;rw[q8p];simp[sizes]);refine⟨c,?_,g2⟩;apply ya2;rw[q04 (by omega),cT,q06 (by simp[q07];omega)];omega
  grind
theorem yct(h1:2<=n)(h2:n<=10){l:LI}{i:Int}(h:q0n l i):∃c j,z9w (n:Int) l i=some (c,l,j)/\ConfOk n c/\(∀m∈c.Members,m.Declared=true)/\q0n l j:=by obtain⟨c0,j,a1,a2,a3⟩:=y40 (by omega) h2 h;obtain⟨c,g1,g2,g3⟩:=ycm h2 h1 l j [] 2 c0.Members (by omega) a2.le (a2.smallC h2).2;refine⟨c,j,?_,g2,g3,a3⟩;apply yh1;grind
end Go.Proofs.YtdmfjabikomgiaaGreat
namespace Go.Proofs.YtdmfjabikomgiaaGreat
open Go Go.Ab
theorem qnh(a b:Meeting)(hl:a.Voters.length<1000000)(hk:a.Voters.length=b.Voters.length)(hs:∀v∈a.Voters,SmallV v):∀(suf suk:LV)(i:Nat),a.Voters.drop i=suf->b.Voters.drop i=suk->∃r,z5p ((a.Voters.length:Nat):Int) (i:Int) a.Voters a.Stopped a.Ill b.Voters b.Stopped b.Ill=some r/\(r=true↔suf=suk)
 |[],suk,i,h,h'=>by
  have:suk=[]:=by rw[<-h',List.drop_eq_nil_iff,<-hk];simp_all
  subst this;refine⟨true,y5l _ _ _ _ _ _ _ _ _ ?_,by simp⟩;rw[q0c h];rfl|y::suf,[],i,h,h'=>by have:=q09 h;have:=List.drop_eq_nil_iff.1 h';omega|y::suf,z::suk,i,h,h'=>by have hlt:=q09 h;have hy:=hs y (List.mem_of_mem_drop (i:=i) (by simp_all));obtain⟨r,g1,g2⟩:=qnh a b hl hk hs suf suk (i+1) (q01 h) (q01 h');have hv:=qsx (a:=y) (b:=z);cases he:sameV y z with|true=>refine⟨r,y5l _ _ _ _ _ _ _ _ _ ?_,by rw[g2,hv.1 he];simp⟩;rw[q05 h,cT,q02 h,q02 h',qps hy,bS,he,nT,cF,q03 (by omega)];omega|false=>
   refine⟨false,y5l _ _ _ _ _ _ _ _ _ ?_,?_⟩;·rw[q05 h,cT,q02 h,q02 h',qps hy,bS,he];rfl
   simp_all
theorem qg3{a:Meeting}(h:SmallMt a)(b:Meeting):∃r,z1z a b=some r/\(r=true↔a=b):=by
 have key:∀r:Bool,a=b↔a.Voters=b.Voters/\a.Stopped=b.Stopped/\a.Ill=b.Ill:=fun _=>by cases a;cases b;simp
 by_cases h1:a.Stopped=b.Stopped;case neg=>exact⟨false,qxf _ _ _ (by rw[q1c h1];rfl),by simp;rintro rfl;exact h1 rfl⟩
 by_cases h2:a.Ill=b.Ill;case neg=>exact⟨false,qxf _ _ _ (by rw[h1,q0g,cF,q1c h2];rfl),by simp;rintro rfl;exact h2 rfl⟩
 by_cases h3:a.Voters.length=b.Voters.length;case neg=>exact⟨false,qxf _ _ _ (by rw[h1,q0g,cF,h2,q0g,cF,q1c (by omega)];rfl),by simp;rintro rfl;exact h3 rfl⟩
 obtain⟨r,g1,g2⟩:=qnh a b h.len h3 h.voters a.Voters b.Voters 0 rfl rfl;refine⟨r,qxf _ _ _ ?_,?_⟩;·rw[show neB a.Stopped b.Stopped=false by rw[h1];exact q0g _,cF,show neB a.Ill b.Ill=false by rw[h2];exact q0g _,cF,show neB ((a.Voters.length:Nat):Int) ((b.Voters.length:Nat):Int)=false by rw[h3];exact q0g _,cF];exact g1
 simp_all
def c3:Config:=⟨[⟨true,⟨2,[0,1,2],[]⟩⟩,⟨true,⟨2,[0,1,2],[]⟩⟩,⟨true,⟨2,[0,1,2],[]⟩⟩]⟩
def t3:Trust:=⟨2,[0,1,2],[]⟩
def x3:Claim:=⟨0,1⟩
def a0:Voter:=⟨0,1,t3,[],[],[],[]⟩
def b0:Voter:=⟨1,1,t3,[],[],[],[]⟩
def d0:Voter:=⟨2,1,t3,[],[],[],[]⟩
def a1:Voter:=⟨0,2,t3,[x3],[],[],[]⟩
def b1:Voter:=⟨1,2,t3,[x3],[],[],[]⟩
def b2:Voter:=⟨1,3,t3,[x3],[x3],[],[say a1]⟩
def a2:Voter:=⟨0,3,t3,[x3],[x3],[x3],[say b2]⟩
def b3:Voter:=⟨1,3,t3,[x3],[x3],[x3],[say a2]⟩
def p3:LP:=[⟨1,0,0,x3,noT,noM⟩,⟨1,1,0,x3,noT,noM⟩,⟨2,0,1,⟨0,0⟩,noT,noM⟩,⟨2,1,0,⟨0,0⟩,noT,noM⟩,⟨2,0,1,⟨0,0⟩,noT,noM⟩,⟨2,1,0,⟨0,0⟩,noT,noM⟩]
theorem q7x{b u:Voter}{A C:LC}{s:Int}(h1:(q0r u).Accepts=A)(h2:(q0r u).Confirms=C)(hs:(b.Trust=u.Trust/\b.Votes=u.Votes/\b.Accepts=A/\s=u.Seq)\/(¬(b.Trust=u.Trust/\b.Votes=u.Votes/\b.Accepts=A)/\s=u.Seq+1)):turnV b u=⟨u.Node,s,u.Trust,u.Votes,A,C,u.Heard⟩:=by
 obtain⟨g1,g2,g3,g4,g5⟩:=q2s u;have e:q0r u=⟨u.Node,u.Seq,u.Trust,u.Votes,A,C,u.Heard⟩:=by rw[<-g1,<-g2,<-g3,<-g4,<-g5,<-h1,<-h2]
 rw[turnV,e];grind
theorem qj7{m:Meeting}{p:Play}{k:Int}{w:Voter}(ha:mAsk m p=0)(hc:mChg m p=(k,w,0))(h4:p.Kind≠4):stepM m p=(⟨m.Voters.set k.toNat w,m.Stopped,m.Ill⟩,0):=by unfold stepM;grind
theorem y2l{v w:Voter}{x:Claim}(h1:q21 v=true)(h2:vcl x=true)(h3:(v.Votes++v.Accepts)=[])(hw:turnV v {v with Votes:=q0o (v.Votes++[x])}=w):voteV v x=(w,0):=by have h5:v.Votes=[]:=(List.append_eq_nil_iff.1 h3).1;unfold voteV;grind
theorem ex1:stepM ⟨[a0,b0,d0],0,4⟩ ⟨1,0,0,x3,noT,noM⟩=(⟨[a1,b0,d0],0,4⟩,0):=by have hv:voteV a0 x3=(a1,0):=y2l (by rfl) (by rfl) rfl (q7x (A:=[]) (C:=[]) (s:=2) (by rfl) (by rfl) (.inr ⟨fun h=>by have:=h.2.1;revert this;decide+kernel,rfl⟩));exact qj7 (k:=0) (w:=a1) (by rfl) (by show((0:Int),(voteV a0 x3).1,(voteV a0 x3).2)=_;rw[hv]) (by decide)
theorem ex2:stepM ⟨[a1,b0,d0],0,4⟩ ⟨1,1,0,x3,noT,noM⟩=(⟨[a1,b1,d0],0,4⟩,0):=by have hv:voteV b0 x3=(b1,0):=y2l (by rfl) (by rfl) rfl (q7x (A:=[]) (C:=[]) (s:=2) (by rfl) (by rfl) (.inr ⟨fun h=>by have:=h.2.1;revert this;decide+kernel,rfl⟩));exact qj7 (k:=1) (w:=b1) (by rfl) (by show((1:Int),(voteV b0 x3).1,(voteV b0 x3).2)=_;rw[hv]) (by decide)
theorem ex3:stepM ⟨[a1,b1,d0],0,4⟩ ⟨2,0,1,⟨0,0⟩,noT,noM⟩=(⟨[a1,b2,d0],0,4⟩,0):=by
 have hv:hearV b1 (say a1)=(b2,0):=by rw[qfp (by rfl) (by rfl) (by decide+kernel) (by rfl),q7x (A:=[x3]) (C:=[]) (s:=3) (by rfl) (by rfl) (.inr ⟨fun h=>by have:=h.2.2;revert this;decide+kernel,rfl⟩)];rfl
 exact qj7 (k:=1) (w:=b2) (by rfl) (by show((1:Int),(hearV b1 (say a1)).1,(hearV b1 (say a1)).2)=_;rw[hv]) (by decide)
theorem ex4:stepM ⟨[a1,b2,d0],0,4⟩ ⟨2,1,0,⟨0,0⟩,noT,noM⟩=(⟨[a2,b2,d0],0,4⟩,0):=by
 have hv:hearV a1 (say b2)=(a2,0):=by rw[qfp (by rfl) (by rfl) (by decide+kernel) (by rfl),q7x (A:=[x3]) (C:=[x3]) (s:=3) (by rfl) (by rfl) (.inr ⟨fun h=>by have:=h.2.2;revert this;decide+kernel,rfl⟩)];rfl
 exact qj7 (k:=0) (w:=a2) (by rfl) (by show((0:Int),(hearV a1 (say b2)).1,(hearV a1 (say b2)).2)=_;rw[hv]) (by decide)
theorem ex5:stepM ⟨[a2,b2,d0],0,4⟩ ⟨2,0,1,⟨0,0⟩,noT,noM⟩=(⟨[a2,b3,d0],0,4⟩,0):=by
 have hv:hearV b2 (say a2)=(b3,0):=by rw[qfp (by rfl) (by rfl) (by decide+kernel) (by rfl),q7x (b:=b2) (u:={b2 with Heard:=hearL (say a2) b2.Heard}) (A:=[x3]) (C:=[x3]) (s:=3) (by rfl) (by rfl) (.inl ⟨rfl,rfl,rfl,rfl⟩)];rfl
 exact qj7 (k:=1) (w:=b3) (by rfl) (by show((1:Int),(hearV b2 (say a2)).1,(hearV b2 (say a2)).2)=_;rw[hv]) (by decide)
theorem ex6:stepM ⟨[a2,b3,d0],0,4⟩ ⟨2,1,0,⟨0,0⟩,noT,noM⟩=(q1u,9):=by rfl
theorem ycr:playM p3 ⟨[a0,b0,d0],0,4⟩=(⟨[a2,b3,d0],0,4⟩,[0,0,0,0,0,9]):=by simp only[p3,playM,ex1,ex2,ex3,ex4,ex5,ex6,if_true];rfl
variable {v : Voter} {c1 c2 e f k m1 n o2 o3 s t t1 : Int} {m2 t2 : LI} {m3 t3 : LT} {m4 m5 : LC} {o1 : LV}
theorem qve{m:Meeting}(hl:m.Voters.length<1000000){k:Nat}(hk:v.Node=(k:Int))(hlt:k<m.Voters.length):z6i m v=some ⟨m.Voters.set k v,m.Stopped,m.Ill⟩:=by apply ydt;rw[q06 (by simp[q07];omega),List.nil_append,hk,q0m (y:=atV m.Voters k) (by omega) (by rw[tN];exact q2b hlt)];simp only[nthN,tN,q2b hlt];rw[<-hk,q0t]
section
variable {m : Meeting} (hl : m.Voters.length < 1000000)
def outR(m:Meeting)(e:Int)(v:Voter):Meeting×Int:=if e≠0 then(q1u,e)else(⟨m.Voters.set v.Node.toNat v,m.Stopped,m.Ill⟩,0)
include hl in
theorem rfin6(hv:e=0->0<=v.Node/\v.Node.toNat<m.Voters.length):z1i e m.Voters m.Stopped m.Ill k f t c1 c2 t1 t2 t3 n s m1 m2 m3 m4 m5 o1 o2 o3 v.Node v.Seq v.Trust.Threshold v.Trust.Nodes v.Trust.Inner v.Votes v.Accepts v.Confirms v.Heard=some (outR m e v):=by
 apply ygq;unfold outR;by_cases h0:e=0;·obtain⟨h1,h2⟩:=hv h0;rw[h0,q0g,cF,if_neg (by simp),q0t];have:=qve (m:=m) hl (v:=v) (k:=v.Node.toNat) (by omega) h2;have this':z6i ⟨m.Voters,m.Stopped,m.Ill⟩ v=_:=this;rw[this'];rfl
 .rw[q1c h0,cT,if_pos h0];rfl
include hl in
theorem rfin9(hv:e=0->0<=v.Node/\v.Node.toNat<m.Voters.length):z1v e m.Voters m.Stopped m.Ill k f t c1 c2 t1 t2 t3 n s m1 m2 m3 m4 m5 o1 o2 o3 v.Node v.Seq v.Trust.Threshold v.Trust.Nodes v.Trust.Inner v.Votes v.Accepts v.Confirms v.Heard=some (outR m e v):=by
 apply yfh;unfold outR;by_cases h0:e=0;·obtain⟨h1,h2⟩:=hv h0;rw[h0,q0g,cF,if_neg (by simp),q0t];have:=qve (m:=m) hl (v:=v) (k:=v.Node.toNat) (by omega) h2;have this':z6i ⟨m.Voters,m.Stopped,m.Ill⟩ v=_:=this;rw[this'];rfl
 .rw[q1c h0,cT,if_pos h0];rfl
include hl in
theorem ybr(hv:e=0->0<=v.Node/\v.Node.toNat<m.Voters.length){b:Bool}:z7m e b m.Voters m.Stopped m.Ill k f t c1 c2 t1 t2 t3 n s m1 m2 m3 m4 m5 o1 o2 o3 v.Node v.Seq v.Trust.Threshold v.Trust.Nodes v.Trust.Inner v.Votes v.Accepts v.Confirms v.Heard=some (outR m e v):=by
 apply ydn;unfold outR;by_cases h0:e=0;·obtain⟨h1,h2⟩:=hv h0;rw[h0,q0g,cF,if_neg (by simp),q0t];have:=qve (m:=m) hl (v:=v) (k:=v.Node.toNat) (by omega) h2;have this':z6i ⟨m.Voters,m.Stopped,m.Ill⟩ v=_:=this;rw[this'];rfl
 .rw[q1c h0,cT,if_pos h0];rfl
end
noncomputable def chgR(m:Meeting)(p:Play):Meeting×Int:=if(mChg m p).2.2≠0 then(q1u,(mChg m p).2.2)else(⟨m.Voters.set (mChg m p).1.toNat (mChg m p).2.1,if p.Kind=4 then((m.Stopped.toNat|||2^p.From.toNat:Nat):Int)else m.Stopped,m.Ill⟩,0)
theorem y46{t:Trust}(ht:Small t):z1a t=some (verr t):=q92 _ ht
theorem qre(hv:q21 v=true){x:Claim}(h:(voteV v x).2=0):(voteV v x).1.Node=v.Node:=(y2c hv h).1.node
theorem qt0(hv:q21 v=true){t:Trust}(h:(declV v t).2=0):(declV v t).1.Node=v.Node:=(y1b hv h).1.node
theorem qfl(hv:q21 v=true){m:Message}(h:(hearV v m).2=0):(hearV v m).1.Node=v.Node:=(y5o hv h).1.node
theorem y4x{t:Trust}{n:Nat}:leB ((2^n:Nat):Int) ((uses t:Nat):Int)=!insB t n:=by rw[q6s];unfold insB;grind
theorem rchgs{m:Meeting}(h:SmallMt m){p:Play}(hp:SmallP p)(ha:mAsk m p=0):∀F∈[z7y,z7z,z80],F ((m.Voters.length:Nat):Int) false m.Voters m.Stopped m.Ill p.Kind p.From p.To p.Claim.Topic p.Claim.Value p.Trust.Threshold p.Trust.Nodes p.Trust.Inner p.Message.Node p.Message.Seq p.Message.Trust.Threshold p.Message.Trust.Nodes p.Message.Trust.Inner p.Message.Votes p.Message.Accepts [] 0 0=some (chgR m p):=by
 intro F hF;obtain⟨hv,k1,k2,f1,f2,ht,_,_⟩:=q3p ha;obtain⟨⟨_,h2,_,⟨h5,h6⟩,_⟩,hvs⟩:=q10.1 hv;have hpw:=qb4 h2;have gf:m.Voters[p.From.toNat]?=some (atV m.Voters p.From.toNat):=q2b (by omega);have vf:=q1v.1 hvs p.From.toNat (by omega);have sf:=h.voters _ (List.mem_of_getElem? gf);have nf:(atV m.Voters p.From.toNat).Node=p.From:=by omega
 have ec:Claim.mk p.Claim.Topic p.Claim.Value=p.Claim:=rfl;simp only[List.mem_cons,List.not_mem_nil,or_false]at hF;rcases hF with rfl|rfl|rfl;apply yh0;rotate_left;apply yhn;rotate_left;apply ygs;all_goals
  unfold chgR mChg;by_cases e1:p.Kind=1
  .rw[if_pos e1,e1,q0e,cT,q0m f1 gf,ec,y24 sf,bS];rw[rfin6 h.len (fun e=>by rw[qre vf.2.1 e,nf];omega)];unfold outR;by_cases e0:(voteV (atV m.Voters p.From.toNat) p.Claim).2=0;·rw[if_neg (by omega),if_neg (by grind),qre vf.2.1 e0,nf];rfl
   grind
  rw[if_neg e1,q0d e1,cF];by_cases e2:p.Kind=2
  .have ht:=ht (by rw[e2];rfl);have gt:m.Voters[p.To.toNat]?=some (atV m.Voters p.To.toNat):=q2b (by omega);have vt:=q1v.1 hvs p.To.toNat (by omega);have st:=h.voters _ (List.mem_of_getElem? gt);have nt:(atV m.Voters p.To.toNat).Node=p.To:=by omega
   rw[if_pos e2,e2,q0e,cT,q0m ht.1 gt,q0m f1 gf,y20,bS,qrc st (q19 (q14.1 vf.2.1).1.say),bS];rw[rfin6 h.len (fun e=>by rw[qfl vt.2.1 e,nt];omega)];unfold outR;by_cases e0:(hearV (atV m.Voters p.To.toNat) (say (atV m.Voters p.From.toNat))).2=0;·rw[if_neg (by omega),if_neg (by grind),qfl vt.2.1 e0,nt];rfl
   grind
  rw[if_neg e2,q0d e2,cF];by_cases e3:p.Kind=3
  .rw[if_pos e3,e3,q0e,cT,Trust.etaM,y46 hp.tr,bS];by_cases z:verr p.Trust=0;·rw[z,q0e,cT,q0i (by omega),qio _ hp.tr,bS,shlN h2,y4x,if_neg (show¬((0:Int)≠0)by simp)];cases hi:insB p.Trust m.Voters.length with|false=>rw[Bool.not_false,cT,if_pos (show false=false from rfl)];apply yhh;rw[show eqB (5:Int) 0=false from rfl,cF];have:=ybr (m:=m) h.len (e:=5) (v:=q7h) (fun e=>by cases e) (k:=3) (f:=p.From) (t:=p.To) (c1:=p.Claim.Topic) (c2:=p.Claim.Value) (t1:=p.Trust.Threshold) (t2:=p.Trust.Nodes) (t3:=p.Trust.Inner) (n:=p.Message.Node) (s:=p.Message.Seq) (m1:=p.Message.Trust.Threshold) (m2:=p.Message.Trust.Nodes) (m3:=p.Message.Trust.Inner) (m4:=p.Message.Votes) (m5:=p.Message.Accepts) (o1:=[]) (o2:=0) (o3:=0) (b:=false);exact this|true=>
     rw[nT,cF,if_neg (show¬(true=false)by simp)];apply y92;rw[q0e,cT,q0m f1 gf,Trust.etaM,y45 sf hp.tr,bS];rw[rfin6 h.len (fun e=>by rw[qt0 vf.2.1 e,nf];omega)];unfold outR;by_cases e0:(declV (atV m.Voters p.From.toNat) p.Trust).2=0;·rw[if_neg (by omega),if_neg (by grind),qt0 vf.2.1 e0,nf];rfl
     grind
   .rw[q0d z,cF,if_pos z];apply y92;rw[q0d z,cF];have:=ybr (m:=m) h.len (e:=verr p.Trust) (v:=q7h) (fun e=>absurd e z) (k:=3) (f:=p.From) (t:=p.To) (c1:=p.Claim.Topic) (c2:=p.Claim.Value) (t1:=p.Trust.Threshold) (t2:=p.Trust.Nodes) (t3:=p.Trust.Inner) (n:=p.Message.Node) (s:=p.Message.Seq) (m1:=p.Message.Trust.Threshold) (m2:=p.Message.Trust.Nodes) (m3:=p.Message.Trust.Inner) (m4:=p.Message.Votes) (m5:=p.Message.Accepts) (o1:=[]) (o2:=0) (o3:=0) (b:=false);have this':=this;unfold outR at this';rw[if_pos z]at this';dsimp only;rw[if_pos z];exact this'
  rw[if_neg e3,q0d e3,cF];by_cases e5:p.Kind=5
  .have ht:=ht (by rw[e5];rfl);have gt:m.Voters[p.To.toNat]?=some (atV m.Voters p.To.toNat):=q2b (by omega);have vt:=q1v.1 hvs p.To.toNat (by omega);have st:=h.voters _ (List.mem_of_getElem? gt);have nt:(atV m.Voters p.To.toNat).Node=p.To:=by omega
   rw[if_pos e5,e5,show eqB (5:Int) 4=false from rfl,cF];have fin9:=fun(e:Int)(he:e≠0)=>rfin9 (m:=m) h.len (e:=e) (v:=q7h) (fun e0=>absurd e0 he) (k:=5) (f:=p.From) (t:=p.To) (c1:=p.Claim.Topic) (c2:=p.Claim.Value) (t1:=p.Trust.Threshold) (t2:=p.Trust.Nodes) (t3:=p.Trust.Inner) (n:=p.Message.Node) (s:=p.Message.Seq) (m1:=p.Message.Trust.Threshold) (m2:=p.Message.Trust.Nodes) (m3:=p.Message.Trust.Inner) (m4:=p.Message.Votes) (m5:=p.Message.Accepts) (o1:=[]) (o2:=0) (o3:=0);by_cases z:p.Message.Node=p.From;·rw[show neB p.Message.Node p.From=false by rw[z];exact q0g _,cF,qbc,qdg hp.msg,bS,if_neg (show¬(p.Message.Node≠p.From)by omega)];cases hm:msgB p.Message with|false=>rw[Bool.not_false,cT,if_pos (show false=false from rfl)];exact fin9 1 (by decide)|true=>rw[nT,cF,if_neg (show¬(true=false)by simp),q0i (by omega),Trust.etaM,qio _ hp.msg.tr,bS,shlN h2,y4x];cases hi:insB p.Message.Trust m.Voters.length with|false=>rw[Bool.not_false,cT,if_pos (show false=false from rfl)];exact fin9 5 (by decide)|true=>
      rw[nT,cF,if_neg (show¬(true=false)by simp),q0m ht.1 gt,qrc st hp.msg,bS];rw[rfin6 h.len (fun e=>by rw[qfl vt.2.1 e,nt];omega)];unfold outR;by_cases e0:(hearV (atV m.Voters p.To.toNat) p.Message).2=0;·rw[if_neg (by omega),if_neg (by grind),qfl vt.2.1 e0,nt];rfl
      grind
   .rw[q1c z,cT,if_pos z];exact fin9 8 (by decide)
  rw[if_neg e5];have e4:p.Kind=4:=by omega
  have hpf:2^p.From.toNat<=2^10:=Nat.pow_le_pow_right (by decide) (by omega);have ho:orI .i64 m.Stopped ((2^p.From.toNat:Nat):Int)=((m.Stopped.toNat|||2^p.From.toNat:Nat):Int):=by have:=q3a (a:=m.Stopped.toNat) (b:=2^p.From.toNat) (by omega) (by omega);grind
  rw[e4,q0e,cT,q0i f1,shl1 (by omega) (by omega),ho];dsimp only;rw[if_neg (by simp),if_pos rfl,y7i (by omega)]
theorem yer{m:Meeting}(h:SmallMt m){p:Play}(hp:SmallP p)(hv:q3i m=true)(k1:¬p.Kind<1)(k2:¬5<p.Kind)(f1:¬p.From<0)(f2:¬(m.Voters.length:Int)<=p.From)(ht:pairK p.Kind=true->0<=p.To/\p.To<(m.Voters.length:Int)/\p.To≠p.From){a7:Bool}(h7:pairK p.Kind=false->has m.Ill.toNat p.From=false->a7=!has m.Stopped.toNat p.From){a9:Bool}(h9:pairK p.Kind=true->a9=!has (m.Ill.toNat|||m.Stopped.toNat) p.To)(h7':pairK p.Kind=false->has m.Ill.toNat p.From=true->a7=false):z5s ((m.Voters.length:Nat):Int) (has m.Ill.toNat p.From) a7 a9 m.Voters m.Stopped m.Ill p.Kind p.From p.To p.Claim.Topic p.Claim.Value p.Trust.Threshold p.Trust.Nodes p.Trust.Inner p.Message.Node p.Message.Seq p.Message.Trust.Threshold p.Message.Trust.Nodes p.Message.Trust.Inner p.Message.Votes p.Message.Accepts [] 0 0=some (stepM m p):=by
 have fin:∀{N:Option (Meeting×Int)},(mAsk m p=0->N=some (chgR m p))->mAsk m p=0->N=some (stepM m p):=fun hN ha=>by rw[hN ha];unfold stepM chgR;grind
 have bad:mAsk m p=13->some ((⟨[],0,0⟩:Meeting),(13:Int))=some (stepM m p):=fun ha=>by unfold stepM;rw[if_pos (by omega),ha];rfl
 have base:∀e:Int,(has m.Ill.toNat p.From≠decide (p.Kind=5)->e=13)->(has m.Ill.toNat p.From=decide (p.Kind=5)->e=(if mGone m p=true then 13 else 0))->mAsk m p=e:=fun e g1 g2=>by unfold mAsk;grind
 apply yib;by_cases e2:p.Kind=2
 .have hk:pairK p.Kind=true:=by rw[e2];rfl
  have hd:decide (p.Kind=5)=false:=by grind
  have hg:mGone m p=has (m.Ill.toNat|||m.Stopped.toNat) p.To:=by unfold mGone;grind
  rw[show eqB p.Kind 2=true by rw[e2];rfl,cT,h9 hk];cases hi:has m.Ill.toNat p.From with|true=>simp_all|false=>rw[cF];cases hr:has (m.Ill.toNat|||m.Stopped.toNat) p.To with|true=>simp_all|false=>exact fin (fun ha=>rchgs h hp ha z7y (by simp)) (base 0 (fun g=>by grind) (fun _=>by grind))
 rw[q0d e2,cF];by_cases e5:p.Kind=5
 .have hk:pairK p.Kind=true:=by rw[e5];rfl
  have hd:decide (p.Kind=5)=true:=by grind
  have hg:mGone m p=has (m.Ill.toNat|||m.Stopped.toNat) p.To:=by unfold mGone;grind
  rw[show eqB p.Kind 5=true by rw[e5];rfl,cT,h9 hk];cases hi:has m.Ill.toNat p.From with|false=>simp_all|true=>rw[nT,cF];cases hr:has (m.Ill.toNat|||m.Stopped.toNat) p.To with|true=>simp_all|false=>exact fin (fun ha=>rchgs h hp ha z7z (by simp)) (base 0 (fun g=>by grind) (fun _=>by grind))
 rw[q0d e5,cF];have hk:pairK p.Kind=false:=by unfold pairK;grind
 have hd:decide (p.Kind=5)=false:=decide_eq_false e5;have hg:mGone m p=has m.Stopped.toNat p.From:=by unfold mGone;grind
 cases hi:has m.Ill.toNat p.From with|true=>simp_all|false=>rw[h7 hk hi];cases hr:has m.Stopped.toNat p.From with|true=>simp_all|false=>exact fin (fun ha=>rchgs h hp ha z80 (by simp)) (base 0 (fun g=>by grind) (fun _=>by grind))
theorem yee{m:Meeting}(h:SmallMt m){p:Play}(hp:SmallP p)(hv:q3i m=true)(k1:¬p.Kind<1)(k2:¬5<p.Kind)(f1:¬p.From<0)(f2:¬(m.Voters.length:Int)<=p.From)(ht:pairK p.Kind=true->0<=p.To/\p.To<(m.Voters.length:Int)/\p.To≠p.From):z6y ((m.Voters.length:Nat):Int) (pairK p.Kind) false m.Voters m.Stopped m.Ill p.Kind p.From p.To p.Claim.Topic p.Claim.Value p.Trust.Threshold p.Trust.Nodes p.Trust.Inner p.Message.Node p.Message.Seq p.Message.Trust.Threshold p.Message.Trust.Nodes p.Message.Trust.Inner p.Message.Votes p.Message.Accepts [] 0 0=some (stepM m p):=by
 obtain⟨⟨_,l10,⟨h3,h4⟩,⟨h5,h6⟩,_⟩,_⟩:=q10.1 hv;have hpw:=qb4 l10;have e1:z1u m.Ill p.From=some (has m.Ill.toNat p.From):=by have:=q1b (s:=m.Ill.toNat) (by omega) p.From;grind
 have e2:z1u m.Stopped p.From=some (has m.Stopped.toNat p.From):=by have:=q1b (s:=m.Stopped.toNat) (by omega) p.From;grind
 have e3:z1u (orI .i64 m.Ill m.Stopped) p.To=some (has (m.Ill.toNat|||m.Stopped.toNat) p.To):=by have ho:=q3a (a:=m.Ill.toNat) (b:=m.Stopped.toNat) (by omega) (by omega);rw[Int.toNat_of_nonneg h3,Int.toNat_of_nonneg h5]at ho;rw[ho];exact q1b (Nat.or_lt_two_pow (n:=10) (by omega) (by omega)) p.To
 apply ygz;rw[e1,bS,e2,e3];have go:=fun(a7 a9:Bool)g7 g9 g7'=>yer h hp hv k1 k2 f1 f2 ht (a7:=a7) g7 (a9:=a9) g9 g7';grind
theorem qo4{m:Meeting}(h:SmallMt m){p:Play}(hp:SmallP p):z87 m p=some (stepM m p):=by
 have bad:mAsk m p=1->some ((⟨[],0,0⟩:Meeting),(1:Int))=some (stepM m p):=fun ha=>by unfold stepM;rw[if_pos (by omega),ha];rfl
 have b1:(q3i m=false\/p.Kind<1\/5<p.Kind\/p.From<0\/(m.Voters.length:Int)<=p.From)->mAsk m p=1:=fun g=>by unfold mAsk;grind
 have b2:pairK p.Kind=true->(p.To<0\/(m.Voters.length:Int)<=p.To\/p.To=p.From)->mAsk m p=1:=fun g g'=>by unfold mAsk;grind
 apply yfk;rw[q6x h,bS];cases hv:q3i m with|false=>grind|true=>
  rw[nT];by_cases k1:p.Kind<1;·have:=bad (b1 (.inr (.inl k1)));rw[q04 k1];cases eqB p.Kind 2<;>exact this
  by_cases k2:5<p.Kind;·have:=bad (b1 (.inr (.inr (.inl k2))));rw[q00 (by omega),q04 k2];cases eqB p.Kind 2<;>exact this
  by_cases f1:p.From<0;·have:=bad (b1 (.inr (.inr (.inr (.inl f1)))));rw[q00 (by omega),q00 (by omega),q04 f1];cases eqB p.Kind 2<;>exact this
  by_cases f2:(m.Voters.length:Int)<=p.From;·have:=bad (b1 (.inr (.inr (.inr (.inr f2)))));rw[q00 (by omega),q00 (by omega),q00 (by omega),show leB ((m.Voters.length:Nat):Int) p.From=true by unfold leB;grind];cases eqB p.Kind 2<;>exact this
  rw[q00 (by omega),q00 (by omega),q00 (by omega),show leB ((m.Voters.length:Nat):Int) p.From=false by unfold leB;grind];simp only[cF];have go:=fun ht=>yee h hp hv k1 k2 f1 f2 ht
  cases hk:pairK p.Kind with|true=>
   rw[hk]at go;have h25:eqB p.Kind 2=true\/eqB p.Kind 2=false/\eqB p.Kind 5=true:=by
    unfold pairK at hk;rw[dT]at hk;rcases hk with e|e;·left;rw[e];rfl
    .right;rw[e];exact⟨rfl,rfl⟩
   by_cases t1:p.To<0
   .have:=bad (b2 hk (.inl t1));rcases h25 with e|⟨e,e'⟩;·rw[e,q04 t1];grind
    .rw[e,e',q04 t1];grind
   by_cases t2:(m.Voters.length:Int)<=p.To
   .have:=bad (b2 hk (.inr (.inl t2)));have l2:leB ((m.Voters.length:Nat):Int) p.To=true:=by unfold leB;simp_all
    grind
   have l2:leB ((m.Voters.length:Nat):Int) p.To=false:=by unfold leB;grind
   by_cases t3:p.To=p.From
   .have:=bad (b2 hk (.inr (.inr t3)));have l3:eqB p.To p.From=true:=by rw[t3];exact q0e _
    grind
   have:=go (fun _=>⟨by omega,by omega,t3⟩);rcases h25 with e|⟨e,e'⟩;·rw[e,q00 (by omega),l2,q0d t3];grind
   .rw[e,e',q00 (by omega),l2,q0d t3];grind|false=>
   rw[hk]at go;have h2:eqB p.Kind 2=false:=by unfold pairK at hk;rw[decide_eq_false_iff_not]at hk;exact q0d (fun e=>hk (.inl e))
   have h5:eqB p.Kind 5=false:=by unfold pairK at hk;rw[decide_eq_false_iff_not]at hk;exact q0d (fun e=>hk (.inr e))
   grind
theorem qvn{N:Nat}(hN:N<=10)(l:LP)(hl:l.length<=400)(hp:∀p∈l,SmallP p)(a10:LB)(a12:LV)(a14 a16:Int):∀(suf:LP)(i q:Nat)(acc:LI)(m:Meeting),l.drop i=suf->acc.length<=i->GoodMt N q m->q+suf.length<=1000->z6n acc l ((l.length:Nat):Int) (i:Int) a10 a12 a14 a16 m.Voters m.Stopped m.Ill=some ((playM suf m).1,acc++(playM suf m).2,0)
 |[],i,q,acc,m,h,ha,hm,hq=>by apply ya4;rw[q0c h,cF,playM,List.append_nil]|p::suf,i,q,acc,m,h,ha,hm,hq=>by
  have hlt:=q09 h;rw[List.length_cons]at hq;have hps:=hp p (List.mem_of_mem_drop (i:=i) (by grind));apply ya4;rw[q05 h,cT,q02 h,show Meeting.mk m.Voters m.Stopped m.Ill=m from rfl,qo4 (hm.small hN) hps,bS,q03 (by omega),playM];by_cases h0:(stepM m p).2=0;·have ih:=qvn hN l hl hp a10 a12 a14 a16 suf (i+1) (q+1) (acc++[(stepM m p).2]) (stepM m p).1 (q01 h) (by grind) (hm.step hN (by omega) h0) (by omega);simp only[if_pos h0];rw[show eqB (stepM m p).2 0=true by rw[h0];rfl,cT,q06 (by simp[q07];omega),ih];simp
  .have ih:=qvn hN l hl hp a10 a12 a14 a16 suf (i+1) (q+1) (acc++[(stepM m p).2]) m (q01 h) (by grind) hm.up (by omega);simp only[if_neg h0];rw[q0d h0,cF,q06 (by simp[q07];omega),ih];simp
def qms(v w:Voter):Bool:=decide (∃x∈v.Confirms,∃y∈w.Confirms,Contra x y)
theorem y5a(l:LC)(hl:l.length<1152921504606846976)(x:Claim):∀(suf:LC)(i:Nat),l.drop i=suf->∃r:Int,z05 l ((l.length:Nat):Int) (i:Int) x.Topic x.Value=some (r,x.Topic,x.Value)/\leB 0 r=decide (∃y∈suf,Contra x y)
 |[],i,h=>by refine⟨-1,y5n _ _ _ _ _ _ ?_,by simp[leB]⟩;rw[q0c h];rfl|y::suf,i,h=>by
  have hlt:=q09 h;obtain⟨r,h1,h2⟩:=y5a l hl x suf (i+1) (q01 h);have hf:z6o y x.Topic x.Value=some (decide (Contra x y),x.Topic,x.Value):=yeg _ _ _ _ (by rw[show Claim.mk x.Topic x.Value=x from rfl,qnn];rfl);by_cases hc:Contra x y;·refine⟨i,y5n _ _ _ _ _ _ ?_,by simp[leB,hc]⟩;rw[q05 h,cT,q02 h,hf];simp[hc]
  .refine⟨r,y5n _ _ _ _ _ _ ?_,by rw[h2];simp[hc]⟩;rw[q05 h,cT,q02 h,hf,bS,q03 (by omega)];simp only[hc,decide_false,cF];exact h1
theorem yci(l:LC)(hl:l.length<1152921504606846976)(x:Claim):z0n l x.Topic x.Value=some (decide (∃y∈l,Contra x y),x.Topic,x.Value):=by obtain⟨r,h1,h2⟩:=y5a l hl x l 0 rfl;apply yd9;have h3:z0s l x.Topic x.Value=_:=yh4 _ _ _ _ h1;rw[h3,bS,h2]
theorem y2p(l:LC)(hl:l.length<1152921504606846976)(w:Voter)(hw:w.Confirms.length<1000000):∀(suf:LC)(i:Nat),l.drop i=suf->∃r:Int,z08 l ((l.length:Nat):Int) (i:Int) w.Node w.Seq w.Trust.Threshold w.Trust.Nodes w.Trust.Inner w.Votes w.Accepts w.Confirms w.Heard=some (r,w.Node,w.Seq,w.Trust.Threshold,w.Trust.Nodes,w.Trust.Inner,w.Votes,w.Accepts,w.Confirms,w.Heard)/\leB 0 r=decide (∃x∈suf,∃y∈w.Confirms,Contra x y)
 |[],i,h=>by refine⟨-1,y0g _ _ _ _ _ _ _ _ _ _ _ _ _ ?_,by simp[leB]⟩;rw[q0c h];rfl|x::suf,i,h=>by
  have hlt:=q09 h;obtain⟨r,h1,h2⟩:=y2p l hl w hw suf (i+1) (q01 h);have hf:z7v x w.Node w.Seq w.Trust.Threshold w.Trust.Nodes w.Trust.Inner w.Votes w.Accepts w.Confirms w.Heard=some (decide (∃y∈w.Confirms,Contra x y),w.Node,w.Seq,w.Trust.Threshold,w.Trust.Nodes,w.Trust.Inner,w.Votes,w.Accepts,w.Confirms,w.Heard):=by apply yfa;rw[yci _ (by omega) x];rfl
  by_cases hc:∃y∈w.Confirms,Contra x y
  .refine⟨i,y0g _ _ _ _ _ _ _ _ _ _ _ _ _ ?_,?_⟩;·rw[q05 h,cT,q02 h,hf,bS,decide_eq_true hc];rfl
   .rw[decide_eq_true ⟨x,List.mem_cons_self,hc⟩];simp[leB]
  .refine⟨r,y0g _ _ _ _ _ _ _ _ _ _ _ _ _ ?_,?_⟩;·rw[q05 h,cT,q02 h,hf,bS,decide_eq_false hc,q03 (by omega)];exact h1
   .rw[h2,decide_eq_decide];constructor;·rintro⟨z,hz,g⟩;exact⟨z,List.mem_cons_of_mem _ hz,g⟩
    .rintro⟨z,hz,g⟩;rcases List.mem_cons.1 hz with e|hz;·rw[e]at g;exact absurd g hc
     .exact⟨z,hz,g⟩
theorem y5k{v w:Voter}(hv:v.Confirms.length<1000000)(hw:w.Confirms.length<1000000):z8p v w=some (qms v w):=by obtain⟨r,h1,h2⟩:=y2p v.Confirms (by omega) w hw v.Confirms 0 rfl;apply ydx;have h3:=yij _ _ _ _ _ _ _ _ _ _ _ h1;have h4:z0p v.Confirms w.Node w.Seq w.Trust.Threshold w.Trust.Nodes w.Trust.Inner w.Votes w.Accepts w.Confirms w.Heard=_:=yia _ _ _ _ _ _ _ _ _ _ _ (by rw[h3,bS]);rw[h4,bS];exact congrArg some h2
def conIn(S:LV)(a:Nat):List Nat->Option (Int×Int×Bool)|[]=>none|b::r=>if qms (atV S a) (atV S b)=true then some ((a:Int),(b:Int),true)else conIn S a r
def qqi(S:LV)(w:List Nat):List Nat->Int×Int×Bool|[]=>(0,0,false)|a::r=>(conIn S a w).getD (qqi S w r)
theorem y4t{S:LV}(hS:∀v∈S,v.Confirms.length<1000000)(w:List Nat)(hw:w.length<=10)(hin:∀a∈w,a<S.length){a:Nat}(ha:a<S.length){a5:LI}{a7 a9 s z:Int}{R:Int×Int×Bool}(hR:z19 (w.map Int.ofNat) a5 a7 (addI .i64 a9 1) S s z=some R):∀(suf:List Nat)(i:Nat),w.drop i=suf->z1k (w.map Int.ofNat) (a:Int) a5 a7 a9 (w.map Int.ofNat) ((w.length:Nat):Int) (i:Int) S s z=some ((conIn S a suf).getD R)
 |[],i,h=>by apply yan;rw[q0c h,cF,hR];rfl|b::suf,i,h=>by
  have hlt:=q09 h;have h':(w.map Int.ofNat).drop i=(b:Int)::suf.map Int.ofNat:=by rw[<-List.map_drop,h];rfl
  have hb:b<S.length:=hin b (List.mem_of_mem_drop (i:=i) (by rw[h];simp));apply yan;rw[q04 (by omega),cT,q02 h',q0m (y:=atV S a) (by omega) (by rw[tN];exact q2b ha),q0m (y:=atV S b) (by omega) (by rw[tN];exact q2b hb),y5k (hS _ (List.mem_of_getElem? (q2b ha))) (hS _ (List.mem_of_getElem? (q2b hb))),bS];unfold conIn;cases hc:qms (atV S a) (atV S b)with|true=>rfl|false=>rw[cF,q03 (by omega),y4t hS w hw hin ha hR suf (i+1) (q01 h)];rw[if_neg (by simp)]
theorem y36{S:LV}(hS:∀v∈S,v.Confirms.length<1000000)(w:List Nat)(hw:w.length<=10)(hin:∀a∈w,a<S.length){s z:Int}:∀(suf:List Nat)(i:Nat),w.drop i=suf->z19 (w.map Int.ofNat) (w.map Int.ofNat) ((w.length:Nat):Int) (i:Int) S s z=some (qqi S w suf)
 |[],i,h=>by apply y8d;rw[q0c h];rfl|a::suf,i,h=>by
  have hlt:=q09 h;have h':(w.map Int.ofNat).drop i=(a:Int)::suf.map Int.ofNat:=by rw[<-List.map_drop,h];rfl
  have ha:a<S.length:=hin a (List.mem_of_mem_drop (i:=i) (by rw[h];simp));apply y8d;rw[q04 (by omega),cT,q02 h',List.length_map];exact y4t hS w hw hin ha (by rw[q03 (by omega)];exact y36 hS w hw hin suf (i+1) (q01 h)) w 0 rfl
end Go.Proofs.YtdmfjabikomgiaaGreat
namespace Go.Proofs.YtdmfjabikomgiaaGreat
open Go Go.Ab
end Go.Proofs.YtdmfjabikomgiaaGreat
namespace Go.Proofs.YtdmfjabikomgiaaGreat
open Go Go.Ab
end Go.Proofs.YtdmfjabikomgiaaGreat
namespace Go.Proofs.YtdmfjabikomgiaaGreat
open Go Go.Ab
section
variable {v w : Voter} {a b n n2 ai bi st il lc : Int} {S1 S2 S3 : LV} {C : LC}
theorem y1z(hw:w.Confirms.length<1000000){i:Int}(x:Claim){R:Int×Int×Bool}(hR:z1n a b S1 n ai S2 n2 bi C lc (addI .i64 i 1) S3 st il v.Node v.Seq v.Trust.Threshold v.Trust.Nodes v.Trust.Inner v.Votes v.Accepts v.Confirms v.Heard w.Node w.Seq w.Trust.Threshold w.Trust.Nodes w.Trust.Inner w.Votes w.Accepts w.Confirms w.Heard=some R):∀(suf:LC)(j:Nat),w.Confirms.drop j=suf->z24 a b S1 n ai S2 n2 bi C lc i w.Confirms ((w.Confirms.length:Nat):Int) (j:Int) S3 st il v.Node v.Seq v.Trust.Threshold v.Trust.Nodes v.Trust.Inner v.Votes v.Accepts v.Confirms v.Heard w.Node w.Seq w.Trust.Threshold w.Trust.Nodes w.Trust.Inner w.Votes w.Accepts w.Confirms w.Heard x.Topic x.Value=some (if∃y∈suf,Contra x y then(a,b,true)else R)
 |[],j,h=>by apply y8x;rw[q0c h,cF,hR,if_neg (by simp)]|y::suf,j,h=>by
  have hlt:=q09 h;apply y8x;rw[q05 h,cT,q02 h,show Claim.mk x.Topic x.Value=x from rfl,qbz,bS];by_cases hc:Contra x y;·simp_all
  .rw[decide_eq_false hc,cF,q03 (by omega),y1z hw x hR suf (j+1) (q01 h)];simp_all
theorem y28(hv:v.Confirms.length<1000000)(hw:w.Confirms.length<1000000){R:Int×Int×Bool}(hR:z11 a S1 n ai S2 n2 (addI .i64 bi 1) S3 st il v.Node v.Seq v.Trust.Threshold v.Trust.Nodes v.Trust.Inner v.Votes v.Accepts v.Confirms v.Heard=some R):∀(suf:LC)(j:Nat),v.Confirms.drop j=suf->z1n a b S1 n ai S2 n2 bi v.Confirms ((v.Confirms.length:Nat):Int) (j:Int) S3 st il v.Node v.Seq v.Trust.Threshold v.Trust.Nodes v.Trust.Inner v.Votes v.Accepts v.Confirms v.Heard w.Node w.Seq w.Trust.Threshold w.Trust.Nodes w.Trust.Inner w.Votes w.Accepts w.Confirms w.Heard=some (if∃x∈suf,∃y∈w.Confirms,Contra x y then(a,b,true)else R)
 |[],j,h=>by apply y88;rw[q0c h,cF,hR,if_neg (by simp)]|x::suf,j,h=>by
  have hlt:=q09 h;apply y88;rw[q05 h,cT,q02 h];refine Eq.trans (y1z hw x (by rw[q03 (by omega)];exact y28 hv hw hR suf (j+1) (q01 h)) w.Confirms 0 rfl) ?_;congr 1;by_cases hc:∃y∈w.Confirms,Contra x y;·simp_all
  .rw[if_neg hc];by_cases h1:∃z∈suf,∃y∈w.Confirms,Contra z y;·simp_all
   grind
end
def rIn(S:LV)(z a:Nat):List Nat->Option (Int×Int×Bool)|[]=>none|b::r=>if(!z.testBit a&&(!z.testBit b&&qms (atV S a) (atV S b)))=true then some ((a:Int),(b:Int),true)else rIn S z a r
def rOut(S:LV)(z:Nat):List Nat->Int×Int×Bool|[]=>(0,0,false)|a::r=>(rIn S z a (List.range' 0 S.length)).getD (rOut S z r)
theorem y0f{S:LV}(hl:S.length<=10)(hS:∀v∈S,v.Confirms.length<1000000){z:Nat}(hz:z<1024){a:Nat}(ha:a<S.length){ai st:Int}{R:Int×Int×Bool}(hR:z1m S ((S.length:Nat):Int) (addI .i64 ai 1) S st (z:Int)=some R):∀(k i:Nat),i+k=S.length->z11 (a:Int) S ((S.length:Nat):Int) ai S ((S.length:Nat):Int) (i:Int) S st (z:Int) (atV S a).Node (atV S a).Seq (atV S a).Trust.Threshold (atV S a).Trust.Nodes (atV S a).Trust.Inner (atV S a).Votes (atV S a).Accepts (atV S a).Confirms (atV S a).Heard=some ((rIn S z a (List.range' i k)).getD R)|0,i,h=>by apply y9m;rw[q00 (by omega),cF,hR];rfl|k+1,i,h=>by have ih:=y0f hl hS hz ha hR k (i+1) (by omega);have hv:=hS _ (List.mem_of_getElem? (q2b ha));have hw:=hS _ (List.mem_of_getElem? (q2b (S:=S) (b:=i) (by omega)));apply y9m;rw[q04 (by omega),cT,q0m (y:=atV S i) (by omega) (by rw[tN];exact q2b (by omega)),q1b hz,q76 (by omega),bS,q1b hz,q76 (by omega),q03 (by omega),ih,List.range'_succ];show _=some ((if(!z.testBit a&&(!z.testBit i&&qms (atV S a) (atV S i)))=true then some ((a:Int),(i:Int),true)else rIn S z a (List.range' (i+1) k)).getD R);cases z.testBit a with|true=>rfl|false=>rw[cF,bS];cases z.testBit i with|true=>rfl|false=>rw[cF];refine Eq.trans (y28 (a:=(a:Int)) (b:=(i:Int)) hv hw (R:=(rIn S z a (List.range' (i+1) k)).getD R) (by rw[q03 (by omega)];omega) (atV S a).Confirms 0 rfl) ?_;cases hc:qms (atV S a) (atV S i)with|true=>rw[if_pos (of_decide_eq_true hc),if_pos (by simp)];rfl|false=>rw[if_neg (of_decide_eq_false hc),if_neg (by simp)]
theorem y0z{S:LV}(hl:S.length<=10)(hS:∀v∈S,v.Confirms.length<1000000){z:Nat}(hz:z<1024){st:Int}:∀(k i:Nat),i+k=S.length->z1m S ((S.length:Nat):Int) (i:Int) S st (z:Int)=some (rOut S z (List.range' i k))|0,i,h=>by apply y96;rw[q00 (by omega),cF];rfl|k+1,i,h=>by apply y96;rw[q04 (by omega),cT,q0m (y:=atV S i) (by omega) (by rw[tN];exact q2b (by omega))];exact y0f hl hS hz (by omega) (by rw[q03 (by omega)];exact y0z hl hS hz k (i+1) (by omega)) S.length 0 (by omega)
end Go.Proofs.YtdmfjabikomgiaaGreat
namespace Go.Proofs.YtdmfjabikomgiaaGreat
open Go Go.Ab
end Go.Proofs.YtdmfjabikomgiaaGreat
