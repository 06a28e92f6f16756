/- Laws of the printed functions. -/
import Derived.Test.YtglokalgdbegeaaGreatN22SegC
import Derived.Test.YtglokalgdbegeaaGreatN22SegB
import Derived.Test.YtglokalgdbegeaaGreatRows
import Derived.ProofKit
import Derived.LaidMore
import Derived.OpenShut
import Derived.Stop.Joined
namespace Go.Proofs.YtglokalgdbegeaaGreat
open Go Go.Ab
variable {n u : Nominator} {k : Nat} {t : Trust}
structure GoneR(n:Nominator)(k:Nat):Prop where
 ready:ReadyN n
 seq:n.Seq<=(k:Int)+1
theorem GoneR.step{w:Nominator}(h:GoneR n k)(hk:k<1000)(hs:StepN n w):GoneR w (k+1):=by have:=h.seq;have:=hs.seq;exact⟨hs.ready (by omega),by omega⟩
theorem GoneR.up(h:GoneR n k):GoneR n (k+1):=⟨h.ready,by have:=h.seq;omega⟩
theorem qcg(hu:ReadyN u)(h1:u.Node=n.Node)(h2:u.Slot=n.Slot)(h3:u.Seq=n.Seq)(h4:u.Votes=n.Votes)(h5:u.Accepts=n.Accepts)(h6:u.Candidates=n.Candidates):StepN n (turned n u):=(qyb hu (leadN u) h1 h2 h3 h4 h5 h6).1
theorem qyd{m:Nomination}(h:(hearN n m).2=0):StepN n (hearN n m).1:=by obtain⟨u,e1,hv,hm,hn,rfl⟩:=qyn (w:=(hearN n m).1) (Prod.ext rfl h);rw[e1];exact qcg ((q23.1 hv).withH hm hn) rfl rfl rfl rfl rfl rfl
theorem qxw(h:(tickN n).2=0):StepN n (tickN n).1:=by obtain⟨e1,hv,hr⟩:=qx4 (w:=(tickN n).1) (Prod.ext rfl h);have hn:=q23.1 hv;have:=hn.round;rw[e1];exact qcg (hn.withR (by omega) (by omega)) rfl rfl rfl rfl rfl rfl
theorem qx1(h:(declN n t).2=0):StepN n (declN n t).1:=by
 obtain⟨hv,ht,h1⟩:=qy4 (w:=(declN n t).1) (Prod.ext rfl h);have hn:=q23.1 hv;rcases h1 with⟨_,e⟩|e;·rw[e];exact qy7 hn
 .rw[e];exact qcg (hn.withT ht) rfl rfl rfl rfl rfl rfl
theorem qgd{l:LI}(d1 d2 d3 d4 d5:Int)(d6:LI)(d7:LT)(d8:Val)(d9 d10 d11:List Val)(d12:LN):∀(n k:Nat)(v:Nominator)(i:Int),n+k<=8->GoneR v k->q0w l i->∃w j,z0x 4 8 (n:Int) l i d1 d2 d3 d4 d5 d6 d7 d8 d9 d10 d11 d12 v.Node v.Slot v.Round v.Seq v.Trust.Threshold v.Trust.Nodes v.Trust.Inner v.Own v.Votes v.Accepts v.Candidates v.Heard=some (w,l,j)/\GoneR w (n+k)/\q0w l j
 |0,k,v,i,hk,hv,h=>⟨v,i,by apply quq;rw[q00 (by omega),cF,q1j],by rw[Nat.zero_add];exact hv,h⟩|n+1,k,v,i,hk,hv,h=>by
  have hs:=hv.ready.small;have fin:∀(w:Nominator)(j:Int),GoneR w (k+1)->q0w l j->(∀r,z0x 4 8 (n:Int) l j d1 d2 d3 d4 d5 d6 d7 d8 d9 d10 d11 d12 w.Node w.Slot w.Round w.Seq w.Trust.Threshold w.Trust.Nodes w.Trust.Inner w.Own w.Votes w.Accepts w.Candidates w.Heard=some r->z0x 4 8 ((n+1:Nat):Int) l i d1 d2 d3 d4 d5 d6 d7 d8 d9 d10 d11 d12 v.Node v.Slot v.Round v.Seq v.Trust.Threshold v.Trust.Nodes v.Trust.Inner v.Own v.Votes v.Accepts v.Candidates v.Heard=some r)->∃w j,z0x 4 8 ((n+1:Nat):Int) l i d1 d2 d3 d4 d5 d6 d7 d8 d9 d10 d11 d12 v.Node v.Slot v.Round v.Seq v.Trust.Threshold v.Trust.Nodes v.Trust.Inner v.Own v.Votes v.Accepts v.Candidates v.Heard=some (w,l,j)/\GoneR w (n+1+k)/\q0w l j:=by intro w j hw hj hr;obtain⟨w',j',g1,g2,g3⟩:=qgd d1 d2 d3 d4 d5 d6 d7 d8 d9 d10 d11 d12 n (k+1) w j (by omega) hw hj;exact⟨w',j',hr _ g1,by rw[show n+1+k=n+(k+1)by omega];exact g2,g3⟩
  have hsub:subI .i64 ((n+1:Nat):Int) 1=(n:Int):=by rw[q22 (by omega) (by omega)];omega
  obtain⟨x0,i0,g0,g0',g0'x,a0⟩:=N_ok (n:=6) (by omega) (by omega) h;by_cases e0:x0=0
  .have step:∀r,(bif eqB (tickN v).2 0 then z0x 4 8 (n:Int) l i0 d1 d2 d3 d4 d5 d6 d7 d8 d9 d10 d11 d12 (tickN v).1.Node (tickN v).1.Slot (tickN v).1.Round (tickN v).1.Seq (tickN v).1.Trust.Threshold (tickN v).1.Trust.Nodes (tickN v).1.Trust.Inner (tickN v).1.Own (tickN v).1.Votes (tickN v).1.Accepts (tickN v).1.Candidates (tickN v).1.Heard else z0x 4 8 (n:Int) l i0 d1 d2 d3 d4 d5 d6 d7 d8 d9 d10 d11 d12 v.Node v.Slot v.Round v.Seq v.Trust.Threshold v.Trust.Nodes v.Trust.Inner v.Own v.Votes v.Accepts v.Candidates v.Heard)=some r->z0x 4 8 ((n+1:Nat):Int) l i d1 d2 d3 d4 d5 d6 d7 d8 d9 d10 d11 d12 v.Node v.Slot v.Round v.Seq v.Trust.Threshold v.Trust.Nodes v.Trust.Inner v.Own v.Votes v.Accepts v.Candidates v.Heard=some r:=by intro r hr;apply quq;rw[q03 (by omega),cT,g0,bS];dsimp only;rw[e0,q0m,cT,q1j,qrv hs,bS,hsub];exact hr
   by_cases e:(tickN v).2=0;·refine fin (tickN v).1 i0 (hv.step (by omega) (qxw e)) a0 (fun r hr=>step r ?_);rw[e,q0m,cT];exact hr
   .refine fin v i0 hv.up a0 (fun r hr=>step r ?_);rw[q0h e,cF];exact hr
  .by_cases e1:x0=1
   .obtain⟨t,i1,g1,g1',a1⟩:=qap (n:=4) (by omega) (by omega) a0;have step:∀r,(bif eqB (declN v t).2 0 then z0x 4 8 (n:Int) l i1 d1 d2 d3 d4 d5 d6 d7 d8 d9 d10 d11 d12 (declN v t).1.Node (declN v t).1.Slot (declN v t).1.Round (declN v t).1.Seq (declN v t).1.Trust.Threshold (declN v t).1.Trust.Nodes (declN v t).1.Trust.Inner (declN v t).1.Own (declN v t).1.Votes (declN v t).1.Accepts (declN v t).1.Candidates (declN v t).1.Heard else z0x 4 8 (n:Int) l i1 d1 d2 d3 d4 d5 d6 d7 d8 d9 d10 d11 d12 v.Node v.Slot v.Round v.Seq v.Trust.Threshold v.Trust.Nodes v.Trust.Inner v.Own v.Votes v.Accepts v.Candidates v.Heard)=some r->z0x 4 8 ((n+1:Nat):Int) l i d1 d2 d3 d4 d5 d6 d7 d8 d9 d10 d11 d12 v.Node v.Slot v.Round v.Seq v.Trust.Threshold v.Trust.Nodes v.Trust.Inner v.Own v.Votes v.Accepts v.Candidates v.Heard=some r:=by intro r hr;apply quq;rw[q03 (by omega),cT,g0,bS];dsimp only;rw[q0h e0,cF,e1,q0m,cT,g1,bS];dsimp only;rw[q1j,qqq hs (q1c g1'),bS,hsub];exact hr
    by_cases e:(declN v t).2=0;·refine fin (declN v t).1 i1 (hv.step (by omega) (qx1 e)) a1 (fun r hr=>step r ?_);rw[e,q0m,cT];exact hr
    .refine fin v i1 hv.up a1 (fun r hr=>step r ?_);rw[q0h e,cF];exact hr
   .obtain⟨m,i1,g1,g1',a1⟩:=q7m (n:=4) (by omega) (by omega) a0;obtain⟨q1,q2⟩:=g1'.later (k:=8-((n+1:Nat):Int)) (by omega) (by omega);let u:Nomination:=⟨m.Node,m.Seq+(8-((n+1:Nat):Int)),m.Trust,m.Votes,m.Accepts⟩;have step:∀r,(bif eqB (hearN v u).2 0 then z0x 4 8 (n:Int) l i1 d1 d2 d3 d4 d5 d6 d7 d8 d9 d10 d11 d12 (hearN v u).1.Node (hearN v u).1.Slot (hearN v u).1.Round (hearN v u).1.Seq (hearN v u).1.Trust.Threshold (hearN v u).1.Trust.Nodes (hearN v u).1.Trust.Inner (hearN v u).1.Own (hearN v u).1.Votes (hearN v u).1.Accepts (hearN v u).1.Candidates (hearN v u).1.Heard else z0x 4 8 (n:Int) l i1 d1 d2 d3 d4 d5 d6 d7 d8 d9 d10 d11 d12 v.Node v.Slot v.Round v.Seq v.Trust.Threshold v.Trust.Nodes v.Trust.Inner v.Own v.Votes v.Accepts v.Candidates v.Heard)=some r->z0x 4 8 ((n+1:Nat):Int) l i d1 d2 d3 d4 d5 d6 d7 d8 d9 d10 d11 d12 v.Node v.Slot v.Round v.Seq v.Trust.Threshold v.Trust.Nodes v.Trust.Inner v.Own v.Votes v.Accepts v.Candidates v.Heard=some r:=by intro r hr;apply quq;rw[q03 (by omega),cT,g0,bS];dsimp only;rw[q0h e0,cF,q0h e1,cF,g1,bS];dsimp only;rw[q1j,q22 (a:=8) (by omega) (by omega),q1,Trust.etaM,hsub];have:=qqv hs (q3m q2);rw[this,bS];exact hr
    by_cases e:(hearN v u).2=0;·refine fin (hearN v u).1 i1 (hv.step (by omega) (qyd e)) a1 (fun r hr=>step r ?_);rw[e,q0m,cT];exact hr
    .refine fin v i1 hv.up a1 (fun r hr=>step r ?_);rw[q0h e,cF];exact hr
theorem qre{l:LI}{i:Int}(h:q0w l i):∃v j,z7p 4 8 l i=some (v,l,j)/\GoneR v 8/\q0w l j:=by
 obtain⟨x0,i0,g0,g0',g0'x,a0⟩:=N_ok (n:=4) (by omega) (by omega) h;obtain⟨x1,i1,g1,g1',g1'x,a1⟩:=N_ok (n:=100) (by omega) (by omega) a0;obtain⟨t,i2,g2,g2',a2⟩:=qap (n:=4) (by omega) (by omega) a1;obtain⟨x3,i3,g3,g3',g3'x,a3⟩:=N_ok (n:=4) (by omega) (by omega) a2;obtain⟨x4,i4,g4,g4',g4'x,a4⟩:=N_ok (n:=9) (by omega) (by omega) a3;obtain⟨own,ho,hol⟩:∃own,([[],[97],[111,119,110],[98]]:List Val)[x3.toNat]?=some own/\own.length<=200:=by
  have:x3=0\/x3=1\/x3=2\/x3=3:=by omega
  rcases this with e|e|e|e<;>subst e;·exact⟨[],rfl,by decide⟩
  .exact⟨[97],rfl,by decide⟩
  .exact⟨[111,119,110],rfl,by decide⟩
  .exact⟨[98],rfl,by decide⟩
 have hr:=qbr (k:=x0) (slot:=x1) (t:=t) (own:=own) (by simp[inR];omega) (by omega) g2' hol;have hw:=hr.settle (leadN (newN x0 x1 t own));have hst:q7d x0 x1 t own=(q11 (leadN (newN x0 x1 t own)) (newN x0 x1 t own),0):=by have h1:inR x0=true:=hr.node;rw[q7d,h1,if_neg (by simp),if_neg (by omega),if_neg (by simp[(q2d t).2 g2']),if_neg (by omega)]
 have hsq:=qgl (leadN (newN x0 x1 t own)) (newN x0 x1 t own);obtain⟨m,rfl⟩:∃m:Nat,x4=m:=⟨x4.toNat,by omega⟩;obtain⟨w,j,q1,q2,q3⟩:=qgd (l:=l) 0 0 0 0 0 [] [] [] [] [] [] [] m 0 _ i4 (by omega) ⟨hw,by rw[hsq];show(1:Int)<=_;omega⟩ a4;refine⟨w,j,yfe _ _ _ _ _ ?_,⟨q2.ready,by have:=q2.seq;omega⟩,q3⟩;rw[g0,bS];dsimp only;rw[g1,bS];dsimp only;rw[g2,bS];dsimp only;rw[g3,bS];dsimp only;rw[q0s g3' ho,qmw x0 x1 (q1c g2') own (by omega),hst,bS,show addI .i64 8 1=9 from rfl,g4,bS];exact q1
theorem qr8(h:valid t=true){l:LI}{i:Int}(ht:q0w l i):∃y j,z4b t l i=some (y,l,j)/\Fits y/\q0w l j:=by have:=qyp h;obtain⟨y,j,g1,g2,_,g4⟩:=y9a t (by omega) (q4s h).2 i ht;exact⟨y,j,g1,by unfold Fits;omega,g4⟩
theorem qpq(n:Nat):(List.map (sig.enc .u8) ((List.replicate n 0):List (Int))).all qh8=true:=by rw[List.all_eq_true];intro x hx;obtain⟨y,hy,rfl⟩:=List.mem_map.1 hx;obtain⟨_,rfl⟩:=List.mem_replicate.1 hy;rfl
theorem qyr(n:Nat):(qgi tn .u8 ((List.replicate n 0):List (Int))).length=n:=by have h:∀(k:LI),((k.map (sig.enc .u8)).map Go.Ab.byteOf).length=k.length:=fun k=>(List.length_map ..).trans (List.length_map ..);exact(h _).trans List.length_replicate
theorem qvk{m:Nomination}(hm:nomB m=true){l:LI}{i:Int}(h:q0w l i):∃y j,z2k m l i=some (y,l,j)/\SmallN y/\q0w l j:=by
 obtain⟨m1,m2,m3,m4,m5⟩:=q1s.1 hm;have hs:=q3m hm;have v1:=(q0l.1 m4).2.2;have v2:=(q0l.1 m5).2.2;obtain⟨x0,i0,g0,g0',g0'x,a0⟩:=N_ok (n:=5) (by omega) (by omega) h;by_cases e0:x0=0;·obtain⟨x1,i1,g1,_,a1⟩:=q6i (ps:=[-1,9,10]) (by decide) (by decide) a0;refine⟨⟨x1,m.Seq,m.Trust,m.Votes,m.Accepts⟩,i1,qou _ _ _ _ ?_,⟨hs.tr,hs.votes,hs.accs⟩,a1⟩;rw[g0,bS];dsimp only;rw[e0,q0m,cT,g1,bS,Trust.etaM]
 by_cases e1:x0=1;·obtain⟨x1,i1,g1,_,a1⟩:=q6i (ps:=[0,-1,addI .i64 m.Seq 1]) (by simp) (by simp) a0;refine⟨⟨m.Node,x1,m.Trust,m.Votes,m.Accepts⟩,i1,qou _ _ _ _ ?_,⟨hs.tr,hs.votes,hs.accs⟩,a1⟩;rw[g0,bS];dsimp only;rw[q0h e0,cF,e1,q0m,cT,g1,bS,Trust.etaM]
 by_cases e2:x0=2;·obtain⟨y,i1,g1,g1',a1⟩:=qr8 m3 a0;refine⟨⟨m.Node,m.Seq,y,m.Votes,m.Accepts⟩,i1,qou _ _ _ _ ?_,⟨g1'.small,hs.votes,hs.accs⟩,a1⟩;rw[g0,bS];dsimp only;rw[q0h e0,cF,q0h e1,cF,e2,q0m,cT,g1,bS,Trust.etaM]
 by_cases e3:x0=3;·obtain⟨x4,i1,g1,q1,q1',a1⟩:=N_ok (n:=4) (by omega) (by omega) a0;have hx:∀(a b c d:Val),∃y,[a,b,c,d][x4.toNat]?=some y:=fun a b c d=>⟨_,List.getElem?_eq_getElem (show x4.toNat<[a,b,c,d].length by simp;omega)⟩;obtain⟨y,hy⟩:=hx [] [97] (qgi tn .u8 ((List.replicate (Int.toNat 201) 0):List (Int))) [122,122,122,122,122];refine⟨⟨m.Node,m.Seq,m.Trust,[]++m.Votes++[y],m.Accepts⟩,i1,qou _ _ _ _ ?_,⟨hs.tr,by simp;omega,hs.accs⟩,a1⟩;rw[g0,bS];dsimp only;rw[q0h e0,cF,q0h e1,cF,q0h e2,cF,e3,q0m,cT,q07 (by simp[q0a];omega),g1,bS];dsimp only;rw[q12 (qpq _),q0s q1 hy,q07 (by simp[q0a];omega),Trust.etaM]
 .obtain⟨x4,i1,g1,q1,q1',a1⟩:=N_ok (n:=3) (by omega) (by omega) a0;have hx:∀(a b c:Val),∃y,[a,b,c][x4.toNat]?=some y:=fun a b c=>⟨_,List.getElem?_eq_getElem (show x4.toNat<[a,b,c].length by simp;omega)⟩;obtain⟨y,hy⟩:=hx [] [98] [122,122,122,122];refine⟨⟨m.Node,m.Seq,m.Trust,m.Votes,[y]++m.Accepts⟩,i1,qou _ _ _ _ ?_,⟨hs.tr,hs.votes,by simp;omega⟩,a1⟩;rw[g0,bS];dsimp only;rw[q0h e0,cF,q0h e1,cF,q0h e2,cF,q0h e3,cF,g1,bS];dsimp only;rw[q0s q1 hy,q07 (by simp[q0a];omega),Trust.etaM]
theorem y4i{v:Nominator}(hv:ReadyN v){l:LI}{i:Int}(h:q0w l i):∃y j,z1z v l i=some (y,l,j)/\(SmallR y/\Fits y.Trust)/\q0w l j:=by
 have hs:=hv.small;have hf:=(q4s hv.tr).1;have hh:=hv.hlen;have hl:=hv.vlen;obtain⟨x0,i0,g0,g0',g0'x,a0⟩:=N_ok (n:=9) (by omega) (by omega) h;by_cases e0:x0=0;·obtain⟨x1,i1,g1,_,a1⟩:=q6i (ps:=[-1,9,10]) (by decide) (by decide) a0;refine⟨⟨x1,v.Slot,v.Round,v.Seq,v.Trust,v.Own,v.Votes,v.Accepts,v.Candidates,v.Heard⟩,i1,qep _ _ _ _ ?_,⟨⟨hs.tr,hs.own,hs.votes,hs.accs,hs.cands,hs.heard,hs.msgs⟩,hf⟩,a1⟩;rw[g0,bS];dsimp only;rw[e0,q0m,cT,g1,bS,Trust.etaM]
 by_cases e1:x0=1;·obtain⟨x1,i1,g1,_,a1⟩:=q6i (ps:=[0,1000000,1000001]) (by decide) (by decide) a0;refine⟨⟨v.Node,v.Slot,v.Round,x1,v.Trust,v.Own,v.Votes,v.Accepts,v.Candidates,v.Heard⟩,i1,qep _ _ _ _ ?_,⟨⟨hs.tr,hs.own,hs.votes,hs.accs,hs.cands,hs.heard,hs.msgs⟩,hf⟩,a1⟩;rw[g0,bS];dsimp only;rw[q0h e0,cF,e1,q0m,cT,g1,bS,Trust.etaM]
 by_cases e2:x0=2;·obtain⟨x1,i1,g1,_,a1⟩:=q6i (ps:=[-1,1000000,1000001]) (by decide) (by decide) a0;refine⟨⟨v.Node,x1,v.Round,v.Seq,v.Trust,v.Own,v.Votes,v.Accepts,v.Candidates,v.Heard⟩,i1,qep _ _ _ _ ?_,⟨⟨hs.tr,hs.own,hs.votes,hs.accs,hs.cands,hs.heard,hs.msgs⟩,hf⟩,a1⟩;rw[g0,bS];dsimp only;rw[q0h e0,cF,q0h e1,cF,e2,q0m,cT,g1,bS,Trust.etaM]
 by_cases e3:x0=3;·obtain⟨x1,i1,g1,_,a1⟩:=q6i (ps:=[0,30,1001]) (by decide) (by decide) a0;refine⟨⟨v.Node,v.Slot,x1,v.Seq,v.Trust,v.Own,v.Votes,v.Accepts,v.Candidates,v.Heard⟩,i1,qep _ _ _ _ ?_,⟨⟨hs.tr,hs.own,hs.votes,hs.accs,hs.cands,hs.heard,hs.msgs⟩,hf⟩,a1⟩;rw[g0,bS];dsimp only;rw[q0h e0,cF,q0h e1,cF,q0h e2,cF,e3,q0m,cT,g1,bS,Trust.etaM]
 by_cases e4:x0=4;·obtain⟨y,i1,g1,g1',a1⟩:=qr8 hv.tr a0;refine⟨⟨v.Node,v.Slot,v.Round,v.Seq,y,v.Own,v.Votes,v.Accepts,v.Candidates,v.Heard⟩,i1,qep _ _ _ _ ?_,⟨⟨g1'.small,hs.own,hs.votes,hs.accs,hs.cands,hs.heard,hs.msgs⟩,g1'⟩,a1⟩;rw[g0,bS];dsimp only;rw[q0h e0,cF,q0h e1,cF,q0h e2,cF,q0h e3,cF,e4,q0m,cT,g1,bS,Trust.etaM]
 by_cases e5:x0=5
 .obtain⟨x1,i1,g1,q1,a1⟩:=q6i (ps:=[200,201]) (by decide) (by decide) a0;have hx:x1=200\/x1=201:=by simpa using q1
  refine⟨⟨v.Node,v.Slot,v.Round,v.Seq,v.Trust,qgi tn .u8 ((List.replicate x1.toNat 0):List (Int)),v.Votes,v.Accepts,v.Candidates,v.Heard⟩,i1,qep _ _ _ _ ?_,⟨⟨hs.tr,by show(qgi tn .u8 _).length<_;rw[qyr];omega,hs.votes,hs.accs,hs.cands,hs.heard,hs.msgs⟩,hf⟩,a1⟩;rw[g0,bS];dsimp only;rw[q0h e0,cF,q0h e1,cF,q0h e2,cF,q0h e3,cF,q0h e4,cF,e5,q0m,cT,g1,bS];dsimp only;rw[q12 (by omega),q12 (qpq _),Trust.etaM]
 by_cases e6:x0=6;·obtain⟨k,i1,g1,q1,a1⟩:=qg6 2 a0;refine⟨⟨v.Node,v.Slot,v.Round,v.Seq,v.Trust,v.Own,v.Votes,v.Accepts,k,v.Heard⟩,i1,qep _ _ _ _ ?_,⟨⟨hs.tr,hs.own,hs.votes,hs.accs,by have:=q1.length_le;have:someV.length=7:=rfl;show k.length<_;omega,hs.heard,hs.msgs⟩,hf⟩,a1⟩;rw[g0,bS];dsimp only;rw[q0h e0,cF,q0h e1,cF,q0h e2,cF,q0h e3,cF,q0h e4,cF,q0h e5,cF,e6,q0m,cT,g1,bS,Trust.etaM]
 by_cases e7:x0=7;·refine⟨⟨v.Node,v.Slot,v.Round,v.Seq,v.Trust,v.Own,[[122,122,122,122,122,122]]++v.Votes,v.Accepts,v.Candidates,v.Heard⟩,i0,qep _ _ _ _ ?_,⟨⟨hs.tr,hs.own,by simp;omega,hs.accs,hs.cands,hs.heard,hs.msgs⟩,hf⟩,a0⟩;rw[g0,bS];dsimp only;rw[q0h e0,cF,q0h e1,cF,q0h e2,cF,q0h e3,cF,q0h e4,cF,q0h e5,cF,q0h e6,cF,e7,q0m,cT,q07 (by simp[q0a];omega),Trust.etaM]
 .obtain⟨m,i1,g1,q1,a1⟩:=q7m (n:=10) (by omega) (by omega) a0;obtain⟨y,i2,g2,q2,a2⟩:=qvk q1.msg a1;refine⟨⟨v.Node,v.Slot,v.Round,v.Seq,v.Trust,v.Own,v.Votes,v.Accepts,v.Candidates,[]++v.Heard++[y]⟩,i2,qep _ _ _ _ ?_,⟨⟨hs.tr,hs.own,hs.votes,hs.accs,hs.cands,by simp;omega,fun x hx=>by
   simp at hx;rcases hx with hx|hx;·exact hs.msgs x hx
   .rw[hx];exact q2⟩,hf⟩,a2⟩;rw[g0,bS];dsimp only;rw[q0h e0,cF,q0h e1,cF,q0h e2,cF,q0h e3,cF,q0h e4,cF,q0h e5,cF,q0h e6,cF,q0h e7,cF,q07 (by simp[q0a];omega),g1,bS];dsimp only;rw[g2,bS];dsimp only;rw[q5n,q07 (by simp[q0a];omega),Trust.etaM]
theorem qf1(h:SmallR n):z4t n n=some true:=by rw[qg4 h,qqr.2 rfl]
theorem qa1(hu:ReadyN u):SmallR (turned n u):=by obtain⟨s,_,g2,_⟩:=qg5 n (q11 (leadN u) u);unfold turned;rw[g2];exact(hu.settle (leadN u)).smallS s
theorem qte(n:Nominator)(m:Nomination):SmallR (hearN n m).1:=by
 unfold hearN;split;·exact q3e
 .rename_i hc;simp only[not_or,Bool.not_eq_false]at hc;split;·exact q3e
  .exact qa1 ((q23.1 hc.1).withH hc.2.1 hc.2.2)
theorem qsx(n:Nominator):SmallR (tickN n).1:=by
 unfold tickN;split;·exact q3e
 .rename_i hc;split;·exact q3e
  .have h:=q23.1 (by simpa using hc);have:=h.round;exact qa1 (h.withR (by omega) (by omega))
theorem qsz(hn:SmallR n)(t:Trust):SmallR (declN n t).1:=by
 unfold declN;split;·exact q3e
 .rename_i hc;split;·exact q3e
  .rename_i hv;split;·exact hn
   .exact qa1 ((q23.1 (by simpa using hc)).withT ((q2d t).1 (by simpa using hv)))
theorem qk0(k slot:Int)(t:Trust)(own:Val):(q7d k slot t own).1=q4a/\(q7d k slot t own).2≠0\/(q7d k slot t own).2=0/\ReadyN (q7d k slot t own).1:=by
 unfold q7d;split;·exact .inl ⟨rfl,by decide⟩
 .split;·exact .inl ⟨rfl,by decide⟩
  .split;·rename_i hv;exact .inl ⟨rfl,hv⟩
   .rename_i hv;split;·exact .inl ⟨rfl,by decide⟩
    .exact .inr ⟨rfl,(qbr (by grind) (by omega) ((q2d t).1 (by simpa using hv)) (by omega)).settle _⟩
theorem qp2(k slot:Int)(t:Trust)(own:Val):SmallR (q7d k slot t own).1:=by
 rcases qk0 k slot t own with⟨h,_⟩|⟨_,h⟩;·rw[h];exact q3e
 .exact h.small
section
variable (k0 sl : Int) (a b : Val) (L : List Val) (ws : List Nominator) (c i : Int) (raw : Nominator) (m : Nomination) (y : Trust) (v : Nominator) (z : Nomination) {l : LI}
theorem qz6{w:Nominator}(p q:Nominator)(hw:SmallR w)(Q:LT)(hQ:Q.length<1000)(hk:∀t∈Q,Small t)(j:Int)(hnext:z1p k0 sl a b L ws c (addI .i64 i 1) raw.Node raw.Slot raw.Round raw.Seq raw.Trust.Threshold raw.Trust.Nodes raw.Trust.Inner raw.Own raw.Votes raw.Accepts raw.Candidates raw.Heard m.Node m.Seq m.Trust.Threshold m.Trust.Nodes m.Trust.Inner m.Votes m.Accepts y.Threshold y.Nodes y.Inner l j v.Node v.Slot v.Round v.Seq v.Trust.Threshold v.Trust.Nodes v.Trust.Inner v.Own v.Votes v.Accepts v.Candidates v.Heard z.Node z.Seq z.Trust.Threshold z.Trust.Nodes z.Trust.Inner z.Votes z.Accepts=some true):∀(suf:LT)(k:Nat),Q.drop k=suf->z28 k0 sl a b L ws c i Q ((Q.length:Nat):Int) (k:Int) raw.Node raw.Slot raw.Round raw.Seq raw.Trust.Threshold raw.Trust.Nodes raw.Trust.Inner raw.Own raw.Votes raw.Accepts raw.Candidates raw.Heard m.Node m.Seq m.Trust.Threshold m.Trust.Nodes m.Trust.Inner m.Votes m.Accepts y.Threshold y.Nodes y.Inner l j v.Node v.Slot v.Round v.Seq v.Trust.Threshold v.Trust.Nodes v.Trust.Inner v.Own v.Votes v.Accepts v.Candidates v.Heard z.Node z.Seq z.Trust.Threshold z.Trust.Nodes z.Trust.Inner z.Votes z.Accepts w.Node w.Slot w.Round w.Seq w.Trust.Threshold w.Trust.Nodes w.Trust.Inner w.Own w.Votes w.Accepts w.Candidates w.Heard p.Node p.Slot p.Round p.Seq p.Trust.Threshold p.Trust.Nodes p.Trust.Inner p.Own p.Votes p.Accepts p.Candidates p.Heard q.Node q.Slot q.Round q.Seq q.Trust.Threshold q.Trust.Nodes q.Trust.Inner q.Own q.Votes q.Accepts q.Candidates q.Heard=some true|[],k,h=>by apply y60;rw[q0c h,cF];exact hnext|t::suf,k,h=>by have hlt:=q09 h;have ht:=hk t (List.mem_of_mem_drop (i:=k) (by rw[h];simp));apply y60;rw[q05 h,cT,q04 h,q1j,y2b hw ht,bS,qqq hw ht,bS,q0u,cF,qf1 (qsz hw t),bS,nT,cF,q01 (by omega)];exact qz6 p q hw Q hQ hk j hnext suf (k+1) (q02 h)
theorem y0b{w:Nominator}(hw:SmallR w)(Q:LN)(hQ:Q.length<1000)(hk:∀t∈Q,SmallN t)(j:Int)(hy:Small y)(hj:q0w l j)(hnext:∀j',q0w l j'->z1p k0 sl a b L ws c (addI .i64 i 1) raw.Node raw.Slot raw.Round raw.Seq raw.Trust.Threshold raw.Trust.Nodes raw.Trust.Inner raw.Own raw.Votes raw.Accepts raw.Candidates raw.Heard m.Node m.Seq m.Trust.Threshold m.Trust.Nodes m.Trust.Inner m.Votes m.Accepts y.Threshold y.Nodes y.Inner l j' v.Node v.Slot v.Round v.Seq v.Trust.Threshold v.Trust.Nodes v.Trust.Inner v.Own v.Votes v.Accepts v.Candidates v.Heard z.Node z.Seq z.Trust.Threshold z.Trust.Nodes z.Trust.Inner z.Votes z.Accepts=some true):∀(suf:LN)(k:Nat),Q.drop k=suf->z25 k0 sl a b L ws c i Q ((Q.length:Nat):Int) (k:Int) raw.Node raw.Slot raw.Round raw.Seq raw.Trust.Threshold raw.Trust.Nodes raw.Trust.Inner raw.Own raw.Votes raw.Accepts raw.Candidates raw.Heard m.Node m.Seq m.Trust.Threshold m.Trust.Nodes m.Trust.Inner m.Votes m.Accepts y.Threshold y.Nodes y.Inner l j v.Node v.Slot v.Round v.Seq v.Trust.Threshold v.Trust.Nodes v.Trust.Inner v.Own v.Votes v.Accepts v.Candidates v.Heard z.Node z.Seq z.Trust.Threshold z.Trust.Nodes z.Trust.Inner z.Votes z.Accepts w.Node w.Slot w.Round w.Seq w.Trust.Threshold w.Trust.Nodes w.Trust.Inner w.Own w.Votes w.Accepts w.Candidates w.Heard=some true
 |[],k,h=>by obtain⟨t,j',g1,g2,a1⟩:=qap (n:=4) (by omega) (by omega) hj;apply y85;rw[q0c h,cF,q1j,y31 hw,bS,qrv hw,bS,q0u,cF,qf1 (qsx w),bS,nT,cF,g1,bS];dsimp only;rw[Trust.etaM,Trust.etaM];exact qz6 k0 sl a b L ws c i raw m y v z _ _ hw [y,t] (by simp) (fun u hu=>by
   simp at hu;rcases hu with rfl|rfl;·exact hy
   .exact q1c g2) j' (hnext j' a1) [y,t] 0 rfl|t::suf,k,h=>by have hlt:=q09 h;have ht:=hk t (List.mem_of_mem_drop (i:=k) (by rw[h];simp));apply y85;rw[q05 h,cT,q04 h,q1j,qzj hw ht,bS,qqv hw ht,bS,q0u,cF,qf1 (qte w t),bS,nT,cF,qna ht,bS,qny ht,bS,beq_self_eq_true,nT,cF,q01 (by omega)];exact y0b hw Q hQ hk j hy hj hnext suf (k+1) (q02 h)
theorem y3b(hy:Small y)(ha:a.length<1000000)(hb:b.length<1000000)(hL:L.length<1000000)(Q:List Arr2_i64)(hQ:Q.length<1000):∀(suf:List Arr2_i64)(k:Nat)(j:Int),Q.drop k=suf->q0w l j->z1u a b L Q ((Q.length:Nat):Int) (k:Int) raw.Node raw.Slot raw.Round raw.Seq raw.Trust.Threshold raw.Trust.Nodes raw.Trust.Inner raw.Own raw.Votes raw.Accepts raw.Candidates raw.Heard m.Node m.Seq m.Trust.Threshold m.Trust.Nodes m.Trust.Inner m.Votes m.Accepts y.Threshold y.Nodes y.Inner l j v.Node v.Slot v.Round v.Seq v.Trust.Threshold v.Trust.Nodes v.Trust.Inner v.Own v.Votes v.Accepts v.Candidates v.Heard z.Node z.Seq z.Trust.Threshold z.Trust.Nodes z.Trust.Inner z.Votes z.Accepts=some true
 |[],k,j,h,hj=>by apply y73;rw[q0c h,cF,qrw L (by omega),bS,y2v L (by omega),bS];dsimp only;rw[show eqS (compV [] L) (compV [] L)=true by simp[eqS],cT,beq_self_eq_true,cT,qbe,bS,qb6,bS,q0m,cT,qcw];rfl|x::suf,k,j,h,hj=>by
  have hlt:=q09 h;obtain⟨t,j',g1,g2,a1⟩:=qap (n:=4) (by omega) (by omega) hj;have ih:=y3b hy ha hb hL Q hQ suf (k+1) j' (q02 h) a1;apply y73;rw[q05 h,cT,q04 h,Trust.etaM,qg9 _ _ hy a ha,bS,qmw _ _ hy a ha,bS,g1,bS];dsimp only;rw[qg9 _ _ (q1c g2) b hb,bS,q0u,cF,qf1 (qp2 _ _ _ _),bS,nT,cF,q01 (by omega)];rcases qk0 x.e0 x.e1 t b with⟨_,e⟩|⟨e,hr⟩;·rw[q0h e,cF];exact ih
  .rw[e,q0m,cT,q86 hr.small,bS,q23.2 hr,nT,cF];exact ih
end
theorem y0w(k0 sl:Int)(a b:Val)(L:List Val)(raw:Nominator)(m:Nomination)(y:Trust)(v:Nominator)(z:Nomination){l:LI}(ws:List Nominator)(hws:ws.length<1000)(hw:∀w∈ws,SmallR w/\Fits w.Trust)(hy:Small y)(hm:SmallN m)(hz:nomB z=true)(ha:a.length<1000000)(hb:b.length<1000000)(hL:L.length<1000000):∀(suf:List Nominator)(k:Nat)(j:Int),ws.drop k=suf->q0w l j->z1p k0 sl a b L ws ((ws.length:Nat):Int) (k:Int) raw.Node raw.Slot raw.Round raw.Seq raw.Trust.Threshold raw.Trust.Nodes raw.Trust.Inner raw.Own raw.Votes raw.Accepts raw.Candidates raw.Heard m.Node m.Seq m.Trust.Threshold m.Trust.Nodes m.Trust.Inner m.Votes m.Accepts y.Threshold y.Nodes y.Inner l j v.Node v.Slot v.Round v.Seq v.Trust.Threshold v.Trust.Nodes v.Trust.Inner v.Own v.Votes v.Accepts v.Candidates v.Heard z.Node z.Seq z.Trust.Threshold z.Trust.Nodes z.Trust.Inner z.Votes z.Accepts=some true
 |[],k,j,h,hj=>by obtain⟨x0,i0,g0,_,_,a0⟩:=N_ok (n:=10) (by omega) (by omega) hj;obtain⟨x1,i1,g1,_,_,a1⟩:=N_ok (n:=1000) (by omega) (by omega) a0;apply y7q;rw[q0c h,cF,g0,bS];dsimp only;rw[g1,bS];exact y3b a b L raw m y v z hy ha hb hL [⟨k0,sl⟩,⟨x0,x1⟩] (by simp) _ 0 i1 rfl a1|w::suf,k,j,h,hj=>by
  have hlt:=q09 h;obtain⟨h1,h2⟩:=hw w (List.mem_of_mem_drop (i:=k) (by rw[h];simp));obtain⟨x,j',g1,g2,a1⟩:=qvk hz hj;apply y7q;rw[q05 h,cT,q04 h,qbc h1,bS,q86 h1,bS,beq_self_eq_true,nT,cF,q1j,qq8 h1,bS,qg4 h1,bS,beq_self_eq_true,nT,cF,q1j,qq8 h1,bS,qg4 h1,bS,beq_self_eq_true,nT,cF,y0y h2 h1.votes h1.accs,bS,qvf,bS,qma (a:=sayN w) ⟨h1.tr,h1.votes,h1.accs⟩,bS,qkv.2 rfl,nT,cF,q5n,g1,bS];dsimp only;rw[q5n,q5n];exact y0b k0 sl a b L ws _ _ raw m y v z h1 [z,x,m] (by simp) (fun u hu=>by
   simp at hu;rcases hu with rfl|rfl|rfl;·exact q3m hz
   .exact g2
   .exact hm) j' hy a1 (fun j'' a2=>by rw[q01 (by omega)];exact y0w k0 sl a b L raw m y v z ws hws hw hy hm hz ha hb hL suf (k+1) j'' (q02 h) a2) [z,x,m] 0 rfl
structure RawN(m:Nomination):Prop where
 tr:raw m.Trust=true
 votes:m.Votes.length<1152921504606846976
 accs:m.Accepts.length<1152921504606846976
structure RawR(n:Nominator):Prop where
 tr:raw n.Trust=true
 votes:n.Votes.length<1152921504606846976
 accs:n.Accepts.length<1152921504606846976
 cands:n.Candidates.length<1152921504606846976
 heard:n.Heard.length<1152921504606846976
 msgs:∀m∈n.Heard,RawN m
theorem y6e(l:List Val)(hl:l.length<1000):∀(suf:List Val)(i:Nat),l.drop i=suf->∃b,z79 l ((l.length:Nat):Int) (i:Int)=some b
 |[],i,h=>⟨true,y1t _ _ _ _ (by rw[q0c h];rfl)⟩|y::suf,i,h=>by
  have hlt:=q09 h;obtain⟨c,hc⟩:=y6e l hl suf (i+1) (q02 h);by_cases e:(300:Int)<((y.length:Nat):Int);·exact⟨false,y1t _ _ _ _ (by rw[q05 h,cT,q04 h,q03 e];rfl)⟩
  .exact⟨c,y1t _ _ _ _ (by rw[q05 h,cT,q04 h,q00 (by omega),cF,q01 (by omega),hc])⟩
theorem qro(l:List Val):∃b,z7z l=some b/\(b=true->l.length<=60):=by
 by_cases e:l.length<=60;·obtain⟨b,hb⟩:=y6e l (by omega) l 0 rfl;exact⟨b,y7a _ _ (by rw[q00 (by omega),cF];exact hb),fun _=>e⟩
 .exact⟨false,y7a _ _ (by rw[q03 (by omega)];rfl),fun h=>by cases h⟩
theorem ql4{m:Nomination}(h:RawN m):∃b,z4k m=some b/\(b=true->SmallN m):=by obtain⟨b1,g1,q1⟩:=ql0 h.tr;obtain⟨b2,g2,q2⟩:=qro m.Votes;obtain⟨b3,g3,q3⟩:=qro m.Accepts;refine⟨b1&&(b2&&b3),ycz _ _ (by rw[g1,g2,g3];cases b1<;>cases b2<;>rfl),fun e=>?_⟩;simp only[aT]at e;have:=q1 e.1;have:=q2 e.2.1;have:=q3 e.2.2;exact⟨by unfold Small;omega,by omega,by omega⟩
theorem qhl(l:LN)(hl:l.length<1000)(hr:∀m∈l,RawN m)(d1 d2 d3 d4 d5:Int)(d6:LI)(d7:LT)(d8:Val)(d9 d10 d11:List Val)(d12:LN):∀(suf:LN)(i:Nat),l.drop i=suf->∃b,z1q l ((l.length:Nat):Int) (i:Int) d1 d2 d3 d4 d5 d6 d7 d8 d9 d10 d11 d12=some b/\(b=true->∀m∈suf,SmallN m)|[],i,h=>⟨true,by apply y01;rw[q0c h];rfl,fun _ m hm=>by cases hm⟩|m::suf,i,h=>by have hlt:=q09 h;obtain⟨b,g1,g2⟩:=ql4 (hr m (List.mem_of_mem_drop (i:=i) (by rw[h];simp)));cases b with|false=>exact⟨false,by apply y01;rw[q05 h,cT,q04 h,g1];rfl,fun e=>by cases e⟩|true=>
   obtain⟨c,q1,q2⟩:=qhl l hl hr d1 d2 d3 d4 d5 d6 d7 d8 d9 d10 d11 d12 suf (i+1) (q02 h);refine⟨c,by apply y01;rw[q05 h,cT,q04 h,g1,bS,q01 (by omega),q1];rfl,fun e x hx=>?_⟩;rcases List.mem_cons.1 hx with hx|hx;·rw[hx];exact g2 rfl
   .exact q2 e x hx
theorem y1d(h:RawR n):∃b,z20 n=some b/\(b=true->SmallR n/\Fits n.Trust):=by obtain⟨b1,g1,q1⟩:=ql0 h.tr;obtain⟨b2,g2,q2⟩:=qro n.Votes;obtain⟨b3,g3,q3⟩:=qro n.Accepts;obtain⟨b4,g4,q4⟩:=qro n.Candidates;have no:(z20 n=some false)->∃b,z20 n=some b/\(b=true->SmallR n/\Fits n.Trust):=fun e=>⟨false,e,fun h=>by cases h⟩;cases b1 with|false=>exact no (qq0 _ _ (by rw[g1];rfl))|true=>cases b2 with|false=>exact no (qq0 _ _ (by rw[g1,bS,nT,cF,g2];rfl))|true=>cases b3 with|false=>exact no (qq0 _ _ (by rw[g1,bS,nT,cF,g2,bS,nT,cF,g3];rfl))|true=>cases b4 with|false=>exact no (qq0 _ _ (by rw[g1,bS,nT,cF,g2,bS,nT,cF,g3,bS,nT,cF,g4];rfl))|true=>
 have pre:∀r,(bif ltB 300 ((n.Own.length:Nat):Int)then some false else bif ltB 12 ((n.Heard.length:Nat):Int)then some false else bif ltB 60 n.Round then bif leB n.Round 1000 then some false else z1q n.Heard ((n.Heard.length:Nat):Int) 0 n.Node n.Slot n.Round n.Seq n.Trust.Threshold n.Trust.Nodes n.Trust.Inner n.Own n.Votes n.Accepts n.Candidates n.Heard else z1q n.Heard ((n.Heard.length:Nat):Int) 0 n.Node n.Slot n.Round n.Seq n.Trust.Threshold n.Trust.Nodes n.Trust.Inner n.Own n.Votes n.Accepts n.Candidates n.Heard)=some r->z20 n=some r:=fun r hr=>qq0 _ _ (by rw[g1,bS,nT,cF,g2,bS,nT,cF,g3,bS,nT,cF,g4,bS,nT,cF];exact hr);by_cases e1:n.Own.length<=300
 .by_cases e2:n.Heard.length<=12
  .obtain⟨c,q5,q6⟩:=qhl n.Heard (by omega) h.msgs n.Node n.Slot n.Round n.Seq n.Trust.Threshold n.Trust.Nodes n.Trust.Inner n.Own n.Votes n.Accepts n.Candidates n.Heard n.Heard 0 rfl;have q5:z1q n.Heard ((n.Heard.length:Nat):Int) 0 n.Node n.Slot n.Round n.Seq n.Trust.Threshold n.Trust.Nodes n.Trust.Inner n.Own n.Votes n.Accepts n.Candidates n.Heard=some c:=q5;have s1:=q1 rfl;have s2:=q2 rfl;have s3:=q3 rfl;have s4:=q4 rfl;rw[q00 (show((n.Own.length:Nat):Int)<=300 by omega),cF,q00 (show((n.Heard.length:Nat):Int)<=12 by omega),cF,q5]at pre;by_cases e3:(60:Int)<n.Round
   .rw[q03 e3,cT]at pre;by_cases e4:n.Round<=1000;·rw[q0j e4]at pre;exact no (pre _ rfl)
    .rw[q0e (by omega)]at pre;exact⟨c,pre _ rfl,fun e=>⟨⟨by unfold Small;omega,by omega,by omega,by omega,by omega,by omega,q6 e⟩,by unfold Fits;omega⟩⟩
   .rw[q00 (show n.Round<=60 by omega)]at pre;exact⟨c,pre _ rfl,fun e=>⟨⟨by unfold Small;omega,by omega,by omega,by omega,by omega,by omega,q6 e⟩,by unfold Fits;omega⟩⟩
  .exact no (pre _ (by rw[q00 (by omega),cF,q03 (by omega)];rfl))
 .exact no (pre _ (by rw[q03 (by omega)];rfl))
theorem y0e(t:LI)(rw':Nominator)(m:Nomination)(y:Trust)(node slot:Int)(a b:Val)(L:List Val)(hv:RawR rw')(hm:RawN m)(hy:raw y=true):law22_NominationAnswers t rw' m y node slot a b L=some true:=by obtain⟨b1,g1,q1⟩:=y1d hv;obtain⟨b2,g2,q2⟩:=ql4 hm;obtain⟨b3,g3,q3⟩:=ql0 hy;apply law22_NominationAnswers_le;rw[g1,bS];cases b1 with|false=>simp only[Bool.not_false,cT,qcw];rfl|true=>rw[nT,cF,g2,bS];cases b2 with|false=>simp only[Bool.not_false,cT,qcw];rfl|true=>rw[nT,cF,g3,bS];cases b3 with|false=>simp only[Bool.not_false,cT,qcw];rfl|true=>
 rw[nT,cF];by_cases e1:(400:Int)<((a.length:Nat):Int);·rw[q03 e1,cT,qcw];rfl
 rw[q00 (by omega),cF];by_cases e2:(400:Int)<((b.length:Nat):Int);·rw[q03 e2,cT,qcw];rfl
 rw[q00 (by omega),cF];by_cases e3:(60:Int)<((L.length:Nat):Int);·rw[q03 e3,cT,qcw];rfl
 rw[q00 (by omega),cF];obtain⟨l,p0,a0⟩:=yet t;obtain⟨v,i1,p1,v1,a1⟩:=qre a0;obtain⟨z,i2,p2,z1,a2⟩:=q7m (n:=4) (by omega) (by omega) a1;obtain⟨x,i3,p3,x1,a3⟩:=y4i v1.ready a2;obtain⟨z2,z3⟩:=z1.later (k:=12) (by omega) (by omega);have h3:Small y:=by have:=q3 rfl;unfold Small;omega
 rw[p0,bS];dsimp only;rw[p1,bS];dsimp only;rw[p2,bS];dsimp only;rw[p3,bS];dsimp only;rw[q1j,q1j,q1j,z2];exact y0w node slot a b L rw' m y v ⟨z.Node,z.Seq+12,z.Trust,z.Votes,z.Accepts⟩ [v,x,rw'] (by simp) (fun w hw=>by
  simp at hw;rcases hw with rfl|rfl|rfl;·exact⟨v1.ready.small,(q4s v1.ready.tr).1⟩
  .exact x1
  .exact q1 rfl) h3 (q2 rfl) z3 (by omega) (by omega) (by omega) [v,x,rw'] 0 i3 rfl a3
end Go.Proofs.YtglokalgdbegeaaGreat
namespace Go.Ab
open Go Go.ChangeShapes Go.WideShapes Go.RowKit
def Shows(w:World)(ds:List D)(cs:List Value):Prop:=cs.length=ds.length/\∀(j:Nat)c,ds[j]?=some c->Rep w q40 c (cs.getD j undef)
section
variable {H : Type} {enc : TypeId × Value -> H} {P : Program} {w : World} {spare : Nat -> Bool} {held : Bool}
def Opens(enc:TypeId×Value->H)(P:Program)(w:World)(spare:Nat->Bool)(held:Bool)(n:Nat)(t:TypeId){Y:Type}(f:Y->D)(good:Y->Prop):Prop:=∀cs d p,DataW.trod enc P w 0 spare held n t cs=some (d,p)->(d.weights P t).all (·<=reachBytes)=true->∃y,good y/\Shows w (f y).cells cs
theorem qdx{v:Value}{d:D}(h:Rep w q40 d v):Shows w [d] [v]:=⟨rfl,fun j c hj=>by cases j with|zero=>simp at hj;subst hj;exact h|succ j=>simp at hj⟩
theorem q5b{n:Nat}{t:TypeId}{k:IntKind}(ht:P.underlying t=some (.int k)):Opens enc P w spare held n t (fun z:Int=>D.v (.int k z)) (fun z=>(Lit.int k z).wf=true):=by intro cs d p h _;obtain⟨z,rfl,hx,hw⟩:=DataW.trod_int ht h;exact⟨z,hw,qdx (.v _ rfl)⟩
theorem q6o{n:Nat}{t:TypeId}(ht:P.underlying t=some .string):Opens enc P w spare held n t (fun x:List UInt8=>D.v (.string ⟨⟨x⟩⟩)) (fun _=>True):=by intro cs d p h _;obtain⟨s,rfl,_,_⟩:=DataW.trod_string ht h;obtain⟨⟨x⟩⟩:=s;exact⟨x,trivial,qdx (.v _ rfl)⟩
theorem qc2{e:TypeId}:∀{l:List (DataW H)},(DataW.weightsAll P e l).all (·<=reachBytes)=true->∀d∈l,(d.weights P e).all (·<=reachBytes)=true
 |[],_,d,hd=>by cases hd|x::r,h,d,hd=>by
  simp only[DataW.weightsAll,List.all_append,aT]at h;rcases List.mem_cons.1 hd with rfl|hd;·exact h.1
  .exact qc2 h.2 d hd
theorem q2u:∀{ts:List TypeId}{l:List (DataW H)},(DataW.weightsEach P ts l).all (·<=reachBytes)=true->∀(i:Nat)t d,ts[i]?=some t->l[i]?=some d->(d.weights P t).all (·<=reachBytes)=true|[],_,_,i,t,d,h1,_=>by simp at h1|_::_,[],_,i,t,d,_,h2=>by simp at h2|t0::ts,d0::l,h,i,t,d,h1,h2=>by simp only[DataW.weightsEach,List.all_append,aT]at h;cases i with|zero=>simp at h1 h2;subst h1;subst h2;exact h.1|succ i=>exact q2u h.2 i t d (by simpa using h1) (by simpa using h2)
theorem y7o{Y:Type}{Q:Nat->Y->Prop}:∀(n:Nat),(∀i,i<n->∃y,Q i y)->∃ys:List Y,ys.length=n/\∀(i:Nat)y,ys[i]?=some y->Q i y
 |0,_=>⟨[],rfl,fun i y h=>by simp at h⟩|n+1,h=>by
  obtain⟨ys,h1,h2⟩:=y7o n (fun i hi=>h i (by omega));obtain⟨y,hy⟩:=h n (by omega);refine⟨ys++[y],by simp[h1],fun i z hz=>?_⟩;rw[List.getElem?_append]at hz;split at hz;·exact h2 i z hz
  .rename_i hi;have:i=n:=by have:=(List.getElem?_eq_some_iff.1 hz).1;simp at this;omega
   subst this;simp[h1]at hz;subst hz;exact hy
theorem qkf{a:Addr}{n:Nat}{cs:List Value}(h:w.cells? 0 a n=some cs):cs.length=n/\∀i,i<n->w.cell? (a.add i)=cs[i]?:=by unfold World.cells? at h;rw[if_pos (Nat.zero_le _)]at h;exact⟨by simpa using mapM_some_length h,fun i hi=>mapM_some_get h i i (by simp[hi])⟩
theorem y0o{a:Addr}{u:Value}(h:w.cell? (a.add 0)=some u):a.spot=none:=by
 simp only[Addr.add,if_true,World.cell?]at h;split at h
 .split at h;·cases h
  .rename_i hs;simpa using hs
 .cases h
theorem q32{n sz:Nat}{t e:TypeId}{Y:Type}{f:Y->D}{good:Y->Prop}(ht:P.underlying t=some (.slice e))(hsz:P.cellsOf e=sz)(hpos:0<sz)(hb:8<=P.bytesOf e)(hf:∀y,(f y).cells.length=sz)(he:∀m,m<n->Opens enc P w spare held m e f good):Opens enc P w spare held n t (fun ys:List Y=>D.list (ys.map f)) (fun ys=>ys.length<1152921504606846976/\∀y∈ys,good y):=by
 intro cs d p h hw;rcases DataW.trod_slice ht h with⟨rfl,hx⟩|⟨a,len,cap,elems,rest,n',rfl,rfl,hx,_,hlc,_,hlen,hel,_,_⟩;·exact⟨[],⟨by simp,by simp⟩,qdx (.empty _ _)⟩
 .simp only[pI]at hx;obtain⟨rfl,_⟩:=hx;simp only[DataW.weights,ht,List.all_cons,List.all_append,aT,dT,List.length_map]at hw;obtain⟨hw1,hw2,_⟩:=hw;have each:∀i,i<len->∃y,good y/\∃cs',w.cells? 0 (a.add (i*sz)) sz=some cs'/\Shows w (f y).cells cs':=by
   intro i hi;have h1:=hel i hi;have hie:i<elems.length:=by omega
   rw[List.getElem?_eq_getElem hie,Option.bind_eq_some_iff,hsz]at h1;obtain⟨cs',h2,h3⟩:=h1;obtain⟨y,g1,g2⟩:=he n' (by omega) cs' elems[i].1 elems[i].2 h3 (qc2 hw2 _ (List.mem_map.2 ⟨_,List.getElem_mem hie,rfl⟩));exact⟨y,g1,cs',h2,g2⟩
  obtain⟨ys,y1,y2⟩:=y7o len each;have hlenb:ys.length<1152921504606846976:=by have h8:len*8<=(elems.length+rest.length)*P.bytesOf e:=Nat.mul_le_mul (by omega) hb;have:reachBytes=140737488351232:=rfl;omega
  refine⟨ys,⟨hlenb,fun y hy=>?_⟩,qdx ?_⟩;·obtain⟨i,hi⟩:=List.getElem?_of_mem hy;exact(y2 i y hi).1
  .by_cases h0:len=0;·have:ys=[]:=List.length_eq_zero_iff.1 (by omega);subst this;subst h0;exact .empty _ _
   .have hsp:a.spot=none:=by
     obtain⟨y,_,cs',h2,_⟩:=each 0 (by omega);obtain⟨h3,h4⟩:=qkf h2;have h5:=h4 0 hpos;have hlt:0<cs'.length:=by omega
     rw[List.getElem?_eq_getElem hlt,Nat.zero_mul]at h5;have:=y0o h5;simpa[Addr.add]using this
    obtain⟨b,off,sp⟩:=a;simp only at hsp;subst hsp;have hml:(ys.map f).length=len:=by simp[y1]
    have key:=Rep.list (w:=w) (I:=q40) (ys.map f) b off cap sz (fun i j=>(w.cell? ⟨b,off+i*sz+j,none⟩).getD undef) (fun x hx=>by obtain⟨y,_,rfl⟩:=List.mem_map.1 hx;exact hf y) (by rw[hml];exact hlc) (fun i x hx j c hj=>by rw[List.getElem?_map]at hx;cases hy:ys[i]? with|none=>rw[hy]at hx;cases hx|some y=>
       rw[hy]at hx;simp only[mS,sI]at hx;subst hx;obtain⟨_,cs',h2,h3,h4⟩:=y2 i y hy;obtain⟨h5,h6⟩:=qkf h2;have hj':j<sz:=by rw[<-hf y];exact(List.getElem?_eq_some_iff.1 hj).1
       have h7:=h6 j hj';have hlt:j<cs'.length:=by omega
       rw[add_plain,add_plain,List.getElem?_eq_getElem hlt]at h7;exact⟨by rw[h7];rfl,trivial⟩) (fun i x hx j c hj=>by rw[List.getElem?_map]at hx;cases hy:ys[i]? with|none=>rw[hy]at hx;cases hx|some y=>
       rw[hy]at hx;simp only[mS,sI]at hx;subst hx;obtain⟨_,cs',h2,h3,h4⟩:=y2 i y hy;obtain⟨h5,h6⟩:=qkf h2;have hj':j<sz:=by rw[<-hf y];exact(List.getElem?_eq_some_iff.1 hj).1
       have h7:=h6 j hj';have hlt:j<cs'.length:=by omega
       rw[add_plain,add_plain,List.getElem?_eq_getElem hlt]at h7;have h8:=h4 j c hj;rw[List.getD_eq_getElem?_getD,List.getElem?_eq_getElem hlt]at h8;rw[h7];exact h8);rw[hml]at key;exact key
theorem qct{n:Nat}{t:TypeId}{fs:Array Field}{cs:List Value}{d:DataW H}{p:List MemPlace}(ht:P.underlying t=some (.struct fs))(h:DataW.trod enc P w 0 spare held n t cs=some (d,p))(hw:(d.weights P t).all (·<=reachBytes)=true):∃m,n=m+1/\cs.length=P.cellsOf t/\∀(i:Nat)(f:Field),fs[i]?=some f->∃d' p',DataW.trod enc P w 0 spare held m f.type ((cs.drop f.offset).take (P.cellsOf f.type))=some (d',p')/\(d'.weights P f.type).all (·<=reachBytes)=true:=by
 obtain⟨xs,m,rfl,hx,hl,hn,hf⟩:=DataW.trod_struct ht h;simp only[pI]at hx;obtain⟨rfl,_⟩:=hx;simp only[DataW.weights,ht]at hw;refine⟨m,rfl,hl,fun i f hi=>?_⟩;have hlt:i<xs.length:=by rw[hn];exact(Array.getElem?_eq_some_iff.1 hi).1
 have h1:=hf i f hi;rw[List.getElem?_eq_getElem hlt]at h1;exact⟨_,_,h1,q2u hw i f.type _ (by rw[List.getElem?_map];simp[hi]) (by rw[List.getElem?_map,List.getElem?_eq_getElem hlt];rfl)⟩
theorem q24{a b:List D}{cs:List Value}{k m:Nat}(hm:a.length=m)(h1:Shows w a ((cs.drop k).take m))(h2:Shows w b (cs.drop (k+m))):Shows w (a++b) (cs.drop k):=by
 have hle:m<=cs.length-k:=by have:=h1.1;simp at this;omega
 refine⟨by have:=h2.1;simp at this⊢;omega,fun j c hj=>?_⟩;rw[List.getElem?_append]at hj;split at hj;·rename_i hlt;have:=h1.2 j c hj;rw[List.getD_eq_getElem?_getD,List.getElem?_take,if_pos (by omega)]at this;rw[List.getD_eq_getElem?_getD];exact this
 .rename_i hge;have:=h2.2 _ c hj;rw[List.getD_eq_getElem?_getD,List.getElem?_drop]at this⊢;rw[show k+m+(j-a.length)=k+j by omega]at this;exact this
theorem qk2{a:List D}{cs:List Value}{k m:Nat}(h:Shows w a ((cs.drop k).take m))(hm:cs.length=k+m):Shows w a (cs.drop k):=by rw[List.take_of_length_le (by simp;omega)]at h;exact h
theorem qka{ds:List D}{cs:Array Value}(h:Shows w ds cs.toList):Rep w q40 (.agg ds) (.agg cs):=.agg ds cs (by simpa using h.1) (fun j c hj=>by have:=h.2 j c hj;rw[List.getD_eq_getElem?_getD]at this;rw[Array.getD_eq_getD_getElem?];simpa using this)
end
end Go.Ab
namespace Go.Proofs.YtglokalgdbegeaaGreat
open Go Go.Ab Go.ChangeShapes Go.WideShapes Go.RowKit
section
variable {H : Type} {enc : TypeId × Value -> H} {w : World} {spare : Nat -> Bool} {held : Bool}
theorem qsq(t:Trust):(q0y t).cells.length=3:=by cases t;rfl
theorem ya3{l:LT}(h:∀x∈l,raw x=true):raws l=true:=by induction l with|nil=>rfl|cons y r ih=>simp only[raws,h y (by simp),ih (fun x hx=>h x (by simp[hx])),Bool.and_self]
theorem qdb:∀n,Opens enc Tryz.prog w spare held n 28 q0y (fun t=>raw t=true):=by intro n;induction n using Nat.strongRecOn with|_ n ih=>
  intro cs d p h hw;obtain⟨m,rfl,hl,hf⟩:=qct Tryz.underlying28 h hw;have c28:Tryz.prog.cellsOf 28=3:=by kernel_rfl
  have c3:Tryz.prog.cellsOf 3=1:=by kernel_rfl
  have c22:Tryz.prog.cellsOf 22=1:=by kernel_rfl
  have c26:Tryz.prog.cellsOf 26=1:=by kernel_rfl
  have b3:Tryz.prog.bytesOf 3=8:=by kernel_rfl
  have b28:8<=Tryz.prog.bytesOf 28:=of_decide_eq_true (by kernel_rfl);obtain⟨d0,p0,t0,w0⟩:=hf 0 _ rfl;obtain⟨d1,p1,t1,w1⟩:=hf 1 _ rfl;obtain⟨d2,p2,t2,w2⟩:=hf 2 _ rfl;replace t0:DataW.trod enc Tryz.prog w 0 spare held m 3 ((cs.drop 0).take (Tryz.prog.cellsOf 3))=some (d0,p0):=t0;replace t1:DataW.trod enc Tryz.prog w 0 spare held m 22 ((cs.drop 1).take (Tryz.prog.cellsOf 22))=some (d1,p1):=t1;replace t2:DataW.trod enc Tryz.prog w 0 spare held m 26 ((cs.drop 2).take (Tryz.prog.cellsOf 26))=some (d2,p2):=t2;rw[c3]at t0;rw[c22]at t1;rw[c26]at t2;obtain⟨z,z1,z2⟩:=q5b Tryz.underlying3 _ _ _ t0 w0;obtain⟨ns,n1,n2⟩:=q32 (f:=q4c) (good:=fun z=>(Lit.int .i64 z).wf=true) Tryz.underlying22 c3 (by decide) (by rw[b3];decide) (fun _=>rfl) (fun k _=>q5b Tryz.underlying3) _ _ _ t1 w1;obtain⟨is,i1,i2⟩:=q32 (f:=q0y) (good:=fun t=>raw t=true) Tryz.underlying26 c28 (by decide) b28 qsq (fun k hk=>ih k (by omega)) _ _ _ t2 w2;refine⟨⟨z,ns,is⟩,?_,?_⟩;·have:=bounds_i64 z1;show raw ⟨z,ns,is⟩=true;rw[y8a];simp only[aT,dT];exact⟨by omega,n1.1,i1.1,ya3 i1.2⟩
  .show Shows w ([D.v (.int .i64 z)]++([D.list (ns.map q4c)]++[D.list (q38 is)])) (cs.drop 0);rw[q4h];exact q24 (m:=1) rfl z2 (q24 (m:=1) rfl n2 (qk2 i2 (by rw[hl,c28])))
theorem q9n(n:Nat):Opens enc Tryz.prog w spare held n 55 q0i (fun x=>RawN x):=by
 intro cs d p h hw;obtain⟨m,rfl,hl,hf⟩:=qct Tryz.underlying55 h hw;have c34:Tryz.prog.cellsOf 34=1:=by kernel_rfl
 have c55:Tryz.prog.cellsOf 55=7:=by kernel_rfl
 have c28:Tryz.prog.cellsOf 28=3:=by kernel_rfl
 have c3:Tryz.prog.cellsOf 3=1:=by kernel_rfl
 have c9:Tryz.prog.cellsOf 9=1:=by kernel_rfl
 have b9:8<=Tryz.prog.bytesOf 9:=of_decide_eq_true (by kernel_rfl);obtain⟨d0,p0,t0,w0⟩:=hf 0 _ rfl;replace t0:DataW.trod enc Tryz.prog w 0 spare held m 3 ((cs.drop 0).take (Tryz.prog.cellsOf 3))=some (d0,p0):=t0;rw[c3]at t0;obtain⟨z0,_,s0⟩:=q5b Tryz.underlying3 _ _ _ t0 w0;obtain⟨d1,p1,t1,w1⟩:=hf 1 _ rfl;replace t1:DataW.trod enc Tryz.prog w 0 spare held m 3 ((cs.drop 1).take (Tryz.prog.cellsOf 3))=some (d1,p1):=t1;rw[c3]at t1;obtain⟨z1,_,s1⟩:=q5b Tryz.underlying3 _ _ _ t1 w1;obtain⟨d2,p2,t2,w2⟩:=hf 2 _ rfl;replace t2:DataW.trod enc Tryz.prog w 0 spare held m 28 ((cs.drop 2).take (Tryz.prog.cellsOf 28))=some (d2,p2):=t2;rw[c28]at t2;obtain⟨z2,g2,s2⟩:=qdb _ _ _ _ t2 w2;obtain⟨d3,p3,t3,w3⟩:=hf 3 _ rfl;replace t3:DataW.trod enc Tryz.prog w 0 spare held m 34 ((cs.drop 5).take (Tryz.prog.cellsOf 34))=some (d3,p3):=t3;rw[c34]at t3;obtain⟨z3,g3,s3⟩:=q32 (f:=enc_s) (good:=fun _=>True) Tryz.underlying34 c9 (by decide) b9 (fun _=>rfl) (fun k _=>q6o Tryz.underlying9) _ _ _ t3 w3;obtain⟨d4,p4,t4,w4⟩:=hf 4 _ rfl;replace t4:DataW.trod enc Tryz.prog w 0 spare held m 34 ((cs.drop 6).take (Tryz.prog.cellsOf 34))=some (d4,p4):=t4;rw[c34]at t4;obtain⟨z4,g4,s4⟩:=q32 (f:=enc_s) (good:=fun _=>True) Tryz.underlying34 c9 (by decide) b9 (fun _=>rfl) (fun k _=>q6o Tryz.underlying9) _ _ _ t4 w4;refine⟨⟨z0,z1,z2,z3,z4⟩,⟨g2,g3.1,g4.1⟩,?_⟩;obtain⟨thr,ns,is⟩:=z2;show Shows w ([D.v (.int .i64 z0)]++([D.v (.int .i64 z1)]++([D.v (.int .i64 thr),.list (ns.map q4c),.list (is.map q0y)]++([D.list (z3.map enc_s)]++([D.list (z4.map enc_s)]))))) (cs.drop 0);rw[<-q4h];exact q24 (m:=1) rfl s0 (q24 (m:=1) rfl s1 (q24 (m:=3) rfl s2 (q24 (m:=1) rfl s3 (qk2 s4 (by rw[hl,c55])))))
theorem qis(n:Nat):Opens enc Tryz.prog w spare held n 37 q1l (fun x=>RawR x):=by
 intro cs d p h hw;obtain⟨m,rfl,hl,hf⟩:=qct Tryz.underlying37 h hw;have c35:Tryz.prog.cellsOf 35=1:=by kernel_rfl
 have c34:Tryz.prog.cellsOf 34=1:=by kernel_rfl
 have c55:Tryz.prog.cellsOf 55=7:=by kernel_rfl
 have c37:Tryz.prog.cellsOf 37=12:=by kernel_rfl
 have c28:Tryz.prog.cellsOf 28=3:=by kernel_rfl
 have c3:Tryz.prog.cellsOf 3=1:=by kernel_rfl
 have c9:Tryz.prog.cellsOf 9=1:=by kernel_rfl
 have b55:8<=Tryz.prog.bytesOf 55:=of_decide_eq_true (by kernel_rfl);have b9:8<=Tryz.prog.bytesOf 9:=of_decide_eq_true (by kernel_rfl);obtain⟨d0,p0,t0,w0⟩:=hf 0 _ rfl;replace t0:DataW.trod enc Tryz.prog w 0 spare held m 3 ((cs.drop 0).take (Tryz.prog.cellsOf 3))=some (d0,p0):=t0;rw[c3]at t0;obtain⟨z0,_,s0⟩:=q5b Tryz.underlying3 _ _ _ t0 w0;obtain⟨d1,p1,t1,w1⟩:=hf 1 _ rfl;replace t1:DataW.trod enc Tryz.prog w 0 spare held m 3 ((cs.drop 1).take (Tryz.prog.cellsOf 3))=some (d1,p1):=t1;rw[c3]at t1;obtain⟨z1,_,s1⟩:=q5b Tryz.underlying3 _ _ _ t1 w1;obtain⟨d2,p2,t2,w2⟩:=hf 2 _ rfl;replace t2:DataW.trod enc Tryz.prog w 0 spare held m 3 ((cs.drop 2).take (Tryz.prog.cellsOf 3))=some (d2,p2):=t2;rw[c3]at t2;obtain⟨z2,_,s2⟩:=q5b Tryz.underlying3 _ _ _ t2 w2;obtain⟨d3,p3,t3,w3⟩:=hf 3 _ rfl;replace t3:DataW.trod enc Tryz.prog w 0 spare held m 3 ((cs.drop 3).take (Tryz.prog.cellsOf 3))=some (d3,p3):=t3;rw[c3]at t3;obtain⟨z3,_,s3⟩:=q5b Tryz.underlying3 _ _ _ t3 w3;obtain⟨d4,p4,t4,w4⟩:=hf 4 _ rfl;replace t4:DataW.trod enc Tryz.prog w 0 spare held m 28 ((cs.drop 4).take (Tryz.prog.cellsOf 28))=some (d4,p4):=t4;rw[c28]at t4;obtain⟨z4,g4,s4⟩:=qdb _ _ _ _ t4 w4;obtain⟨d5,p5,t5,w5⟩:=hf 5 _ rfl;replace t5:DataW.trod enc Tryz.prog w 0 spare held m 9 ((cs.drop 7).take (Tryz.prog.cellsOf 9))=some (d5,p5):=t5;rw[c9]at t5;obtain⟨z5,_,s5⟩:=q6o Tryz.underlying9 _ _ _ t5 w5;obtain⟨d6,p6,t6,w6⟩:=hf 6 _ rfl;replace t6:DataW.trod enc Tryz.prog w 0 spare held m 34 ((cs.drop 8).take (Tryz.prog.cellsOf 34))=some (d6,p6):=t6;rw[c34]at t6;obtain⟨z6,g6,s6⟩:=q32 (f:=enc_s) (good:=fun _=>True) Tryz.underlying34 c9 (by decide) b9 (fun _=>rfl) (fun k _=>q6o Tryz.underlying9) _ _ _ t6 w6;obtain⟨d7,p7,t7,w7⟩:=hf 7 _ rfl;replace t7:DataW.trod enc Tryz.prog w 0 spare held m 34 ((cs.drop 9).take (Tryz.prog.cellsOf 34))=some (d7,p7):=t7;rw[c34]at t7;obtain⟨z7,g7,s7⟩:=q32 (f:=enc_s) (good:=fun _=>True) Tryz.underlying34 c9 (by decide) b9 (fun _=>rfl) (fun k _=>q6o Tryz.underlying9) _ _ _ t7 w7;obtain⟨d8,p8,t8,w8⟩:=hf 8 _ rfl;replace t8:DataW.trod enc Tryz.prog w 0 spare held m 34 ((cs.drop 10).take (Tryz.prog.cellsOf 34))=some (d8,p8):=t8;rw[c34]at t8;obtain⟨z8,g8,s8⟩:=q32 (f:=enc_s) (good:=fun _=>True) Tryz.underlying34 c9 (by decide) b9 (fun _=>rfl) (fun k _=>q6o Tryz.underlying9) _ _ _ t8 w8;obtain⟨d9,p9,t9,w9⟩:=hf 9 _ rfl;replace t9:DataW.trod enc Tryz.prog w 0 spare held m 35 ((cs.drop 11).take (Tryz.prog.cellsOf 35))=some (d9,p9):=t9;rw[c35]at t9;obtain⟨z9,g9,s9⟩:=q32 (f:=q0i) (good:=fun x=>RawN x) Tryz.underlying35 c55 (by decide) b55 (fun _=>rfl) (fun k _=>q9n k) _ _ _ t9 w9;refine⟨⟨z0,z1,z2,z3,z4,z5,z6,z7,z8,z9⟩,⟨g4,g6.1,g7.1,g8.1,g9.1,g9.2⟩,?_⟩;obtain⟨thr,ns,is⟩:=z4;show Shows w ([D.v (.int .i64 z0)]++([D.v (.int .i64 z1)]++([D.v (.int .i64 z2)]++([D.v (.int .i64 z3)]++([D.v (.int .i64 thr),.list (ns.map q4c),.list (is.map q0y)]++([D.v (.string ⟨⟨z5⟩⟩)]++([D.list (z6.map enc_s)]++([D.list (z7.map enc_s)]++([D.list (z8.map enc_s)]++([D.list (z9.map q0i)])))))))))) (cs.drop 0);rw[<-q4h];exact q24 (m:=1) rfl s0 (q24 (m:=1) rfl s1 (q24 (m:=1) rfl s2 (q24 (m:=1) rfl s3 (q24 (m:=3) rfl s4 (q24 (m:=1) rfl s5 (q24 (m:=1) rfl s6 (q24 (m:=1) rfl s7 (q24 (m:=1) rfl s8 (qk2 s9 (by rw[hl,c37]))))))))))
end
end Go.Proofs.YtglokalgdbegeaaGreat
namespace Go.Proofs.YtglokalgdbegeaaGreat
open Go Go.Ab Go.ChangeShapes Go.WideShapes Go.ChangeAt Go.WideMaps Go.WideElems Go.RowKit
theorem Tryz.own:ownKnob Tryz.prog.godebug=none:=by kernel_rfl
theorem Tryz.laidOut:laidOutB Tryz.prog=true:=by kernel_rfl
end Go.Proofs.YtglokalgdbegeaaGreat
