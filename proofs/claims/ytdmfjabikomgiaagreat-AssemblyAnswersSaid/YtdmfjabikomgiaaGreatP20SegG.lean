/- Laws of the printed functions. -/
import Derived.Test.YtdmfjabikomgiaaGreatP20SegD
import Derived.Test.YtdmfjabikomgiaaGreatP20SegF
import Derived.Test.YtdmfjabikomgiaaGreatP20SegC
import Derived.Test.YtdmfjabikomgiaaGreatP20Fchk
namespace Go.Proofs.YtdmfjabikomgiaaGreat
open Go Go.Ab
variable {c : Config} {ill : Int}
def dP(p:Play):Int×Int×Trust:=(p.Kind,p.From,p.Trust)
def qis(m:Member):LT:=if m.Declared then [m.Trust]else []
def declL(c:Config)(l:LP)(cs:LI):Option (List (LT)):=q1e (l.map dP) cs (c.Members.map qis)
theorem qmi{α β:Type}(f:α->β)(g:α->α)(h:β->β)(k:∀a,f (g a)=h (f a)):∀(l:List α)(n:Nat),(l.modify n g).map f=(l.map f).modify n h|[],n=>by cases n<;>rfl|a::l,0=>by grind|a::l,n+1=>by show f a::(l.modify n g).map f=f a::(l.map f).modify n h;rw[qmi f g h k l n]
theorem qkb{α β:Type}(f:α->β):∀(ps:List (Int×Int×α))(cs:LI)(ds:List (List α)),q1e (ps.map fun p=>(p.1,p.2.1,f p.2.2)) cs (ds.map (List.map f))=(q1e ps cs ds).map (List.map (List.map f))
 |[],cs,ds=>by rfl|(k,a,t)::r,[],ds=>by rfl|(k,a,t)::r,c::cs,ds=>by
  simp only[List.map_cons,q1e,List.length_map];by_cases h:k=3/\c=0
  .rw[if_pos h,if_pos h];by_cases h2:0<=a/\a<ds.length;·rw[if_pos h2,if_pos h2,<-qmi (List.map f) (·++[t]) (·++[f t]) (fun l=>by simp)];exact qkb f r cs _
   grind
  .rw[if_neg h,if_neg h];exact qkb f r cs ds
def encU(t:Trust):List D:=[.v (.int .i64 t.Threshold),.list (t.Nodes.map q23),.list (t.Inner.map q0z)]
theorem y6e(t:Trust):D.agg (encU t)=q0z t:=by cases t;simp[encU,q0z,q2w]
theorem qv6:∀l:LB,allOf memD (l.map q1o)=some (l.map fun m=>(m.Declared,encU m.Trust))|[]=>rfl|m::l=>by have h:memD (q1o m)=some (m.Declared,encU m.Trust):=rfl;rw[List.map_cons,allOf,h,qv6 l];rfl
theorem qo2:∀l:LP,allOf playD (l.map q1l)=some (l.map fun p=>(p.Kind,p.From,encU p.Trust))|[]=>rfl|p::l=>by have h:playD (q1l p)=some (p.Kind,p.From,encU p.Trust):=rfl;rw[List.map_cons,allOf,h,qo2 l];rfl
theorem qvu:∀l:LI,allOf codeD (l.map q23)=some l|[]=>rfl|c::l=>by have h:codeD (q23 c)=some c:=rfl;rw[List.map_cons,allOf,h,qvu l]
theorem yi4{l:LP}{m:Meeting}{cs:LI}{e:Int}{L:List (LT)}(hn:c.Members.length<=1000)(hl:l.length<=1000)(hL:e=0->declL c l cs=some L)(he:e≠0->L=[]):qar (.tup [.d (.agg [.list (m.Voters.map q39),.v (.int .i64 m.Stopped),.v (.int .i64 m.Ill)]),.d (.list (cs.map q23)),.d (.v (.int .i64 e))]) [.d (.agg [.list (c.Members.map q1o)]),.d (.v (.int .i64 ill)),.d (.list (l.map q1l))] []=some (.tup [.d (.list (L.map q41)),.d (.v (.int .i64 e))],[]):=by
 unfold qar;dsimp only;rw[qv6,qo2,qvu];dsimp only;rw[if_pos ⟨by simp_all,by simp_all⟩];by_cases h0:e=0;case neg=>rw[if_neg h0,he h0];rfl
 have hp:=qkb encU (l.map dP) cs (c.Members.map qis);have hL':q1e (l.map dP) cs (c.Members.map qis)=some L:=hL h0;rw[hL']at hp;have e1:(l.map dP).map (fun p=>(p.1,p.2.1,encU p.2.2))=l.map fun p=>(p.Kind,p.From,encU p.Trust):=by rw[List.map_map];rfl
 have e2:(c.Members.map qis).map (List.map encU)=(c.Members.map fun m=>(m.Declared,encU m.Trust)).map fun m:Bool×List D=>if m.1 then [m.2]else []:=by rw[List.map_map,List.map_map];refine List.map_congr_left fun m _=>?_;show(qis m).map encU=if m.Declared then [encU m.Trust]else [];unfold qis;split<;>rfl
 rw[e1,e2]at hp;have e3:(L.map (List.map encU)).map (fun l=>D.list (l.map .agg))=L.map q41:=by rw[List.map_map];refine List.map_congr_left fun d _=>?_;show D.list ((d.map encU).map .agg)=.list (d.map q0z);rw[List.map_map];congr 1;exact List.map_congr_left fun t _=>y6e t
 simp_all
theorem qim{N:Nat}(hN:N<=10):∀(l:LP)(q:Nat)(m:Meeting)(ds:List (LT)),GoodMt N q m->q+l.length<=1000->ds.length=N->∃out,q1e (l.map dP) (playM l m).2 ds=some out
 |[],q,m,ds,_,_,_=>⟨ds,rfl⟩|p::r,q,m,ds,hm,hq,hd=>by
  rw[List.length_cons]at hq;rw[playM];simp only[List.map_cons,q1e];have hm':GoodMt N (q+1) (if(stepM m p).2=0 then(stepM m p).1 else m):=by
   split;·rename_i h0;exact hm.step hN (by omega) h0
   .exact hm.up
  by_cases h:(dP p).1=3/\(stepM m p).2=0;·obtain⟨ha,_⟩:=q85 h.2;obtain⟨_,_,_,f1,f2,_⟩:=q3p ha;have hl:=hm.len;show∃out,(if(dP p).1=3/\(stepM m p).2=0 then _ else _)=some out;rw[if_pos h];have hx:0<=(dP p).2.1/\(dP p).2.1<(ds.length:Int):=⟨f1,by rw[hd,<-hl];exact f2⟩;show∃out,(if 0<=(dP p).2.1/\(dP p).2.1<(ds.length:Int)then _ else _)=some out;rw[if_pos hx];exact qim hN r (q+1) _ _ hm' (by omega) (by simp_all)
  .show∃out,(if(dP p).1=3/\(stepM m p).2=0 then _ else _)=some out;rw[if_neg h];exact qim hN r (q+1) _ _ hm' (by omega) hd
noncomputable def q78(c:Config)(ill:Int)(l:LP):List (LT)×Int:=if(runG c ill l).2.2=0 then((declL c l (runG c ill l).2.1).getD [],0)else([],(runG c ill l).2.2)
theorem qiv{l:LP}(hl:l.length<=400)(h:(runG c ill l).2.2=0):∃L,declL c l (runG c ill l).2.1=some L:=by
 unfold runG at h⊢;split at h;·simp_all
 rename_i h0;obtain⟨h1,h2,h3⟩:=q6v (Decidable.not_not.1 h0);rw[if_neg h0,if_neg (by omega)];exact qim h2 l 1 _ _ h3 (by omega) (by simp)
theorem ktrG{l:LP}(hc:c.Members.length<=1000)(hl:l.length<=400):qar (.tup [.d (.agg [.list ((runG c ill l).1.Voters.map q39),.v (.int .i64 (runG c ill l).1.Stopped),.v (.int .i64 (runG c ill l).1.Ill)]),.d (.list ((runG c ill l).2.1.map q23)),.d (.v (.int .i64 (runG c ill l).2.2))]) [.d (.agg [.list (c.Members.map q1o)]),.d (.v (.int .i64 ill)),.d (.list (l.map q1l))] []=some (.tup [.d (.list ((q78 c ill l).1.map q41)),.d (.v (.int .i64 (q78 c ill l).2))],[]):=by
 have he:(q78 c ill l).2=(runG c ill l).2.2:=by unfold q78;split<;>simp_all
 rw[he];refine yi4 hc (by omega) (fun h0=>?_) fun h0=>by unfold q78;rw[if_neg h0]
 obtain⟨L,hL⟩:=qiv hl h0;unfold q78;simp_all
theorem qzd(h:q31 c)(hc:c.Members.length<=1000)(ill:Int){l:LP}(hl:l.length<=400)(hp:∀p∈l,SmallP p):za2 c ill l=some (q78 c ill l):=by obtain⟨n,hn⟩:=qbf (T:=tn) (qo5 h ill hp);refine qrj (T:=tn) (m:=qnp) (p:=qbe 43) sigOk (by rfl) rfl rfl ⟨n,?_⟩;have hn':call env n 43 [.d (.agg [.list (c.Members.map q1o)]),.d (.v (.int .i64 ill)),.d (.list (l.map q1l))] []=some (.tup [.d (.agg [.list ((runG c ill l).1.Voters.map q39),.v (.int .i64 (runG c ill l).1.Stopped),.v (.int .i64 (runG c ill l).1.Ill)]),.d (.list ((runG c ill l).2.1.map q23)),.d (.v (.int .i64 (runG c ill l).2.2))],[]):=hn;show libA (fun vs hp=>(qbe 43).k (call env n) vs hp) [.d (.agg [.list (c.Members.map q1o)]),.d (.v (.int .i64 ill)),.d (.list (l.map q1l))] []=some (.tup [.d (.list ((q78 c ill l).1.map q41)),.d (.v (.int .i64 (q78 c ill l).2))],[]);unfold libA qbe;dsimp only;rw[hn'];dsimp only;rw[ktrG hc hl];rfl
theorem qsa{f:Nat}:∀(ls:List (List D)),(∀x∈ls,∃n,call env n f [.d (.agg x)] []=some (.d (.agg x),[]))->∃n,∀m,n<=m->∀x∈ls,call env m f [.d (.agg x)] []=some (.d (.agg x),[])
 |[],_=>⟨0,fun _ _ _ h=>by cases h⟩|y::r,h=>by
  obtain⟨n,hn⟩:=h y (by simp);obtain⟨k,hk⟩:=qsa r fun x hx=>h x (by simp[hx]);refine⟨max n k,fun m hm x hx=>?_⟩;rcases List.mem_cons.1 hx with rfl|hx;·exact qor hn (by omega)
  grind
theorem qyy(h:q31 c)(hc:c.Members.length<=1000)(ill:Int){l:LP}(hl:l.length<=400)(hp:∀p∈l,SmallP p)(hf:∀m∈c.Members,Fits m.Trust)(hg:∀p∈l,Fits p.Trust):z9y c ill l=some (q78 c ill l):=by
 obtain⟨n,hn⟩:=qbf (T:=tn) (qpd h ill hp);have hn':call env n 13 [.d (.agg [.list (c.Members.map q1o)]),.d (.v (.int .i64 ill)),.d (.list (l.map q1l))] []=some (.tup [.d (.agg [.list ((runG c ill l).1.Voters.map q39),.v (.int .i64 (runG c ill l).1.Stopped),.v (.int .i64 (runG c ill l).1.Ill)]),.d (.list ((runG c ill l).2.1.map q23)),.d (.v (.int .i64 (runG c ill l).2.2))],[]):=hn;have hcopy:∀t,Fits t->∃n,call env n 96 [.d (.agg (encU t))] []=some (.d (.agg (encU t)),[]):=fun t ht=>by obtain⟨k,hk⟩:=qbf (T:=tn) (qku t ht);exact⟨k,hk⟩
 obtain⟨k,hk⟩:=qsa (f:=96) (qia [.d (.agg [.list (c.Members.map q1o)]),.d (.v (.int .i64 ill)),.d (.list (l.map q1l))]) fun x hx=>by unfold qia at hx;dsimp only at hx;rw[qv6,qo2]at hx;grind
 refine qrj (T:=tn) (m:=qnp) (p:=qda 13 96) sigOk (by rfl) rfl rfl ⟨max n k,?_⟩;show libA (fun vs hp=>(qda 13 96).k (call env (max n k)) vs hp) [.d (.agg [.list (c.Members.map q1o)]),.d (.v (.int .i64 ill)),.d (.list (l.map q1l))] []=some (.tup [.d (.list ((q78 c ill l).1.map q41)),.d (.v (.int .i64 (q78 c ill l).2))],[]);have hk2:=hk (max n k) (Nat.le_max_right _ _);unfold libA qda;dsimp only;rw[if_pos hk2];unfold qbe;dsimp only;rw[qor hn' (Nat.le_max_left _ _)];dsimp only;rw[ktrG hc hl];rfl
variable {N q : Nat}
theorem q9n(s:Nat):∀n i,q1z s n i=(List.range' i n).filter fun k=>s.testBit k|0,_=>rfl|n+1,i=>by rw[q1z,List.range'_succ,List.filter_cons,q9n s n (i+1)]
def wellL(N z:Nat):List Nat:=(List.range' 0 N).filter fun k=>!z.testBit k
theorem qg4{z:Nat}(hN:N<=10)(hz:z<2^N):nodes (2^N-1-z)=wellL N z:=by
 unfold nodes wellL;rw[q9n,show(10:Nat)=N+(10-N)by omega,<-List.range'_append_1,List.filter_append,Nat.zero_add];have hb:∀k,(2^N-1-z).testBit k=(decide (k<N)&&!z.testBit k):=fun k=>by rw[show 2^N-1-z=2^N-(z+1)by omega,Nat.testBit_two_pow_sub_succ hz]
 have h2:(List.range' N (10-N)).filter (fun k=>(2^N-1-z).testBit k)=[]:=by rw[List.filter_eq_nil_iff];intro k hk;have:=(List.mem_range'_1.1 hk).1;rw[hb,decide_eq_false (by omega)];simp
 rw[h2,List.append_nil];refine List.filter_congr fun k hk=>?_;simp_all
theorem qm4{S:LV}{z a:Nat}:∀l:List Nat,rIn S z a l=if z.testBit a=true then none else conIn S a (l.filter fun k=>!z.testBit k)|[]=>by simp[rIn,conIn]|b::r=>by rw[rIn,qm4 r,List.filter_cons];cases ha:z.testBit a<;>cases hb:z.testBit b<;>simp[conIn]
theorem qkk{S:LV}{z:Nat}:∀l:List Nat,rOut S z l=qqi S (wellL S.length z) (l.filter fun k=>!z.testBit k)
 |[]=>rfl|a::r=>by
  rw[rOut,qm4,qkk r,List.filter_cons];cases ha:z.testBit a;·simp[qqi,wellL]
  rfl
def qy5(m:Meeting):Int×Int×Bool:=if q3i m=true then qqi m.Voters (wellL m.Voters.length m.Ill.toNat) (wellL m.Voters.length m.Ill.toNat)else(0,0,false)
theorem qz8{m:Meeting}(h:SmallMt m):z4e m=some (qy5 m):=by apply yie;rw[q6y h,bS];unfold qy5;cases hv:q3i m with|false=>rfl|true=>
  obtain⟨⟨h1,h2,⟨h3,h4⟩,_⟩,_⟩:=q10.1 hv;have hp:=qb4 h2;have hpos:=Nat.two_pow_pos m.Voters.length;have hw:z4k (subI .i64 (subI .i64 (shlI .i64 1 ((m.Voters.length:Nat):Int)) 1) m.Ill)=some ((wellL m.Voters.length m.Ill.toNat).map Int.ofNat):=by rw[shlN h2,show subI .i64 ((2^m.Voters.length:Nat):Int) 1=((2^m.Voters.length:Nat):Int)-1 from q46 (by omega) (by omega),q46 (by omega) (by omega),show((2^m.Voters.length:Nat):Int)-1-m.Ill=((2^m.Voters.length-1-m.Ill.toNat:Nat):Int)by omega,qit (by omega),qg4 h2 (by omega)]
  rw[nT,cF,q0i (by omega),hw,bS,List.length_map,if_pos rfl];refine y36 (fun v hv=>(h.voters v hv).confs) _ ?_ (fun a ha=>?_) _ 0 rfl;·rw[<-qg4 h2 (by omega)];exact qep _
  .have:=(List.mem_filter.1 ha).1;simp_all
theorem y04{m:Meeting}(h:SmallMt m):z5z m=some (qy5 m):=by apply yfw;rw[q6x h,bS];unfold qy5;cases hv:q3i m with|false=>rfl|true=>obtain⟨⟨h1,h2,⟨h3,h4⟩,_⟩,_⟩:=q10.1 hv;have hp:=qb4 h2;rw[nT,cF,if_pos rfl];have:=y0z (S:=m.Voters) h2 (fun v hv=>(h.voters v hv).confs) (z:=m.Ill.toNat) (by omega) (st:=m.Stopped) m.Voters.length 0 (by omega);rw[Int.toNat_of_nonneg h3]at this;rw[qkk]at this;exact this
theorem qno{N q:Nat}(hN:N<=10)(hq:q<=100000)(a:Nat){a6 a8:Int}{a20:LV}{a22 a24:Int}{R:Option (Meeting×Int)}:∀(r k:Nat)(m:Meeting)(any:Bool),k+r=N->GoodMt N q m->(∀m' any',m'=sends m ((List.range' k r).map fun b=>(a,b))->any'=(any||decide (pot m<pot m'))->z3p any' a6 (addI .i64 a8 1) m'.Voters m'.Stopped m'.Ill a20 a22 a24=R)->(∃r,R=some r)->z3r any (a:Int) a6 a8 (N:Int) (k:Int) m.Voters m.Stopped m.Ill a20 a22 a24=R
 |0,k,m,any,h,hm,hR,⟨r,hr⟩=>by rw[hr];apply y9o;rw[q00 (by omega),cF,hR m any rfl (by simp),hr]|r+1,k,m,any,h,hm,hR,⟨x,hx⟩=>by
  have hs:z87 (Meeting.mk m.Voters m.Stopped m.Ill) (Play.mk 2 (a:Int) (k:Int) (Claim.mk 0 0) (Trust.mk 0 [] []) (Message.mk 0 0 (Trust.mk 0 [] []) [] []))=some (stepM m (sendP a k)):=qo4 (hm.small hN) (qjx a k);rw[hx];apply y9o;rw[q04 (by omega),cT,hs,bS,q03 (by omega),<-hx];rw[List.range'_succ]at hR;by_cases h0:(stepM m (sendP a k)).2=0
  .have hp:=qo1 hm h0;have hg:=hm.send hN hq h0;have hp2:=(q2z hN hq ((List.range' (k+1) r).map fun b=>(a,b)) _ hg).2.le;have hne:z1z (Meeting.mk m.Voters m.Stopped m.Ill) (stepM m (sendP a k)).1=some false:=by obtain⟨s,h3,h4⟩:=qg3 (hm.small hN) (stepM m (sendP a k)).1;cases s with|false=>exact h3|true=>rw[<-h4.1 rfl]at hp;omega
   have key:z3r true (a:Int) a6 a8 (N:Int) ((k+1:Nat):Int) (stepM m (sendP a k)).1.Voters (stepM m (sendP a k)).1.Stopped (stepM m (sendP a k)).1.Ill a20 a22 a24=R:=by
    refine qno hN hq a r (k+1) _ true (by omega) hg (fun m' any' e1 e2=>hR m' any' ?_ ?_) ⟨x,hx⟩;·rw[e1];show _=sends (sendM m a k) _;unfold sendM;rw[if_pos h0]
    .rw[e1]at e2⊢;rw[e2];have:pot m<pot (sends (stepM m (sendP a k)).1 ((List.range' (k+1) r).map fun b=>(a,b))):=by omega
     simp[this]
   rw[show eqB (stepM m (sendP a k)).2 0=true by rw[h0];rfl,cT];simp_all
  .rw[q0d h0,cF];refine qno hN hq a r (k+1) m any (by omega) hm (fun m' any' e1 e2=>hR m' any' ?_ e2) ⟨x,hx⟩;rw[e1];show _=sends (sendM m a k) _;unfold sendM;simp_all
def allP(N i r:Nat):List (Nat×Nat):=(List.range' i r).flatMap fun a=>(List.range' 0 N).map fun b=>(a,b)
theorem qx6{N q:Nat}(hN:N<=10)(hq:q<=100000){a20:LV}{a22 a24:Int}{R:Option (Meeting×Int)}:∀(r i:Nat)(m:Meeting)(any:Bool),i+r=N->GoodMt N q m->(∀m' any',m'=sends m (allP N i r)->any'=(any||decide (pot m<pot m'))->z81 any' (N:Int) (N:Int) false m'.Voters m'.Stopped m'.Ill a20 a22 a24=R)->(∃r,R=some r)->z3p any (N:Int) (i:Int) m.Voters m.Stopped m.Ill a20 a22 a24=R
 |0,i,m,any,h,hm,hR,⟨x,hx⟩=>by rw[hx];apply yb1;rw[q00 (by omega),cF,show i=N by omega,hR m any rfl (by simp),hx]|r+1,i,m,any,h,hm,hR,⟨x,hx⟩=>by
  have hl:=hm.len;rw[hx];apply yb1;rw[q04 (by omega),cT,hl,<-hx];refine qno hN hq i N 0 m any (by omega) hm (fun m' any' e1 e2=>?_) ⟨x,hx⟩;obtain⟨g1,g2⟩:=q2z hN hq ((List.range' 0 N).map fun b=>(i,b)) m hm;rw[<-e1]at g1 g2;rw[q03 (by omega)];refine qx6 hN hq r (i+1) m' any' (by omega) g1 (fun m2 any2 q1 q2=>hR m2 any2 ?_ ?_) ⟨x,hx⟩;·rw[q1,e1,<-qgx];rfl
  .have hp1:=g2.le;have hp2:=(q2z hN hq (allP N (i+1) r) m' g1).2.le;rw[<-q1]at hp2;rw[q2,e2];grind
theorem y74{m:Meeting}{a b:Nat}(h:(stepM m (sendP a b)).2=0):a∈wellL m.Voters.length m.Ill.toNat/\b∈wellL m.Voters.length m.Ill.toNat:=by obtain⟨ha,_⟩:=q85 h;obtain⟨hv,_,_,f1,f2,ht,hi,_⟩:=q3p ha;obtain⟨⟨_,h2,_⟩,_⟩:=q10.1 hv;obtain⟨t1,t2,_,t4⟩:=ht rfl;have e1:has m.Ill.toNat (a:Int)=false:=hi;have e2:has (m.Ill.toNat|||m.Stopped.toNat) (b:Int)=false:=t4;have f2':(a:Int)<(m.Voters.length:Int):=f2;have t2':(b:Int)<(m.Voters.length:Int):=t2;rw[q76 (by omega)]at e1 e2;rw[Nat.testBit_or]at e2;refine⟨List.mem_filter.2 ⟨List.mem_range'_1.2 ⟨by omega,by omega⟩,by rw[e1];rfl⟩,List.mem_filter.2 ⟨List.mem_range'_1.2 ⟨by omega,by omega⟩,?_⟩⟩;simp_all
theorem qhr{N z:Nat}:∀(l:List (Nat×Nat))(m:Meeting),m.Voters.length=N->m.Ill.toNat=z->sends m (l.filter fun p=>!z.testBit p.1&&!z.testBit p.2)=sends m l
 |[],m,_,_=>rfl|p::r,m,hl,hz=>by
  have hstep:(sendM m p.1 p.2).Voters.length=N/\(sendM m p.1 p.2).Ill.toNat=z:=by
   unfold sendM;split;·rename_i h0;rw[(qf4 h0).2.2.1];exact⟨by simpa using hl,hz⟩
   omega
  have ih:=qhr r (sendM m p.1 p.2) hstep.1 hstep.2;rw[List.filter_cons];split;·exact ih
  .rename_i hn;have:sendM m p.1 p.2=m:=by
    unfold sendM;split;·rename_i h0;obtain⟨h1,h2⟩:=y74 h0;rw[hl,hz]at h1 h2;have h1:=(List.mem_filter.1 h1).2;have h2:=(List.mem_filter.1 h2).2;rw[h1,h2]at hn;exact absurd rfl hn
    .rfl
   rw[this]at ih;show _=sends (sendM m p.1 p.2) r;simp_all
theorem qta(f:Nat->Bool)(l k:List Nat):(l.flatMap fun a=>k.map fun b=>(a,b)).filter (fun p=>f p.1&&f p.2)=(l.filter f).flatMap fun a=>(k.filter f).map fun b=>(a,b):=by induction l with|nil=>rfl|cons a l ih=>
  rw[List.flatMap_cons,List.filter_append,ih,List.filter_cons];have h:(k.map fun b=>(a,b)).filter (fun p=>f p.1&&f p.2)=if f a=true then(k.filter f).map fun b=>(a,b)else []:=by
   rw[List.filter_map];by_cases h:f a=true;·rw[if_pos h];congr 1;refine List.filter_congr fun b _=>?_;simp[h]
   .rw[if_neg h,List.map_eq_nil_iff,List.filter_eq_nil_iff];intro b _;simp[h]
  grind
theorem y2n(hN:N<=10){m:Meeting}(hm:GoodMt N q m):sends m (allP N 0 N)=q4w (q2c N m) m:=by obtain⟨⟨s1,s2⟩,_⟩:=hm.sets;have hw:q2c N m=wellL N m.Ill.toNat:=qg4 hN (by omega);rw[<-qhr (N:=N) (allP N 0 N) m hm.len rfl,hw];unfold allP q4w q61;rw[qta (fun k=>!m.Ill.toNat.testBit k)];rfl
theorem qvy{N q B:Nat}(hN:N<=10)(hq:q<=100000)(hB0:1000000<=B){a20:LV}{a22 a24:Int}:∀(n:Nat)(m:Meeting),GoodMt N q m->BdM B m->10*(10*B)-pot m<n->z3p false (N:Int) 0 m.Voters m.Stopped m.Ill a20 a22 a24=some (iterM (q2c N m) n m,0)
 |0,m,hm,hB,hn=>by omega|n+1,m,hm,hB,hn=>by
  obtain⟨g1,g2⟩:=qn8 hN hq hB0 hm hB (q2c N m);have hR:=(q2z hN hq (q61 (q2c N m)) m hm).2;have hp:pot m<=pot (q4w (q2c N m) m):=hR.le;refine qx6 hN hq N 0 m false (by omega) hm (fun m' any' e1 e2=>?_) ⟨_,rfl⟩;rw[y2n hN hm]at e1;subst e1;rw[Bool.false_or]at e2;by_cases h:pot m<pot (q4w (q2c N m) m);·have hb:=y82 hN g1 g2;rw[decide_eq_true h]at e2;subst e2;have ih:=qvy hN hq hB0 (a20:=a20) (a22:=a22) (a24:=a24) n (q4w (q2c N m) m) g1 g2 (by omega);rw[qlz]at ih;apply y9j;rw[cT,g1.len];exact ih
  .rw[decide_eq_false h]at e2;subst e2;have e:q4w (q2c N m) m=m:=(hR.stay (by show pot (q4w (q2c N m) m)=pot m;omega)).1;rw[qkp e,e];apply y9j;rfl
theorem y2u(hN:N<=10)(_h1:1<=N)(hq:q<=100000){m:Meeting}(hm:GoodMt N q m):∃m',z4j m=some (m',0)/\z7a m=some (m',0)/\GoodMt N q m':=by
 obtain⟨B,hB0,hB⟩:=ybz m;obtain⟨g1,_⟩:=qxu hN hq hB0 (a10:=[]) (a12:=0) (a14:=0) (10*(10*B)-pot m+1) m hm hB (by omega);have g2:=qvy hN hq hB0 (a20:=[]) (a22:=0) (a24:=0) (10*(10*B)-pot m+1) m hm hB (by omega);refine⟨iterM (q2c N m) (10*(10*B)-pot m+1) m,y8y _ _ ?_,y9a _ _ ?_,qr9 (K:=GoodMt N q) (fun m a b h h0=>h.send hN hq h0) _ _ m hm⟩;·rw[q6y (hm.small hN),hm.val,bS];grind
 .rw[q6x (hm.small hN),hm.val,bS,nT,cF];apply yed;rw[cT,hm.len];omega
theorem qmv:z4j q1u=some (q1u,1)/\z7a q1u=some (q1u,1):=by
 have hv:q3i q1u=false:=by rfl
 constructor;·apply y8y;rw[q6y q49,hv];rfl
 .apply y9a;rw[q6x q49,hv];rfl
theorem qs6{c:Config}{n:Nat}(hn:n<=10)(h1:1<=n)(hm:c.Members.length=n){l:LI}:∀(k s:Nat)(i:Int),k<=100->s<2^n->q0n l i->∃(v:Nat)(j:Int),z8r (n:Int) (s:Int) (k:Int) l i c.Members=some ((v:Int),l,j)/\v<2^n/\q0n l j
 |0,s,i,hk,hs,h=>by
  have hp:=pow10 hn;have hp1:=Nat.two_pow_pos n;obtain⟨v,j,g1,g2,g3,g4⟩:=N_ok (n:=2) (by decide) (by decide) h;have hd:=qam c;have hr:=q96 c (by omega);have hlt:ndiff (2^n-1) (decl c)<2^n:=qux.2 fun i hi=>by rw[q53]at hi;cases hx:(2^n-1).testBit i with|true=>rfl|false=>simp[hx]at hi
  have hv:v=0\/v=1:=by omega
  have key:∀w:Nat,mulI .i64 ((ndiff (2^n-1) (decl c):Nat):Int) v=((w:Nat):Int)->w<2^n->∃(v:Nat)(j:Int),z8r (n:Int) (s:Int) ((0:Nat):Int) l i c.Members=some ((v:Int),l,j)/\v<2^n/\q0n l j:=by intro w hw hwl;refine⟨s|||w,j,?_,Nat.or_lt_two_pow hs hwl,g4⟩;apply yal;rw[q00 (by omega),q0i (by omega),show Config.mk c.Members=c from rfl,hr];simp only[cF,bS];rw[g1];simp only[bS];rw[qvb hn,qcs (by omega) (by omega),hw,q3a (by omega) (by omega)]
  rcases hv with rfl|rfl;·refine key 0 ?_ hp1;show mulI .i64 _ 0=_;unfold mulI;rw[Int.mul_zero];exact wrap64 (by omega) (by omega)
  .refine key (ndiff (2^n-1) (decl c)) ?_ hlt;show mulI .i64 _ 1=_;unfold mulI;rw[Int.mul_one];exact wrap64 (by omega) (by omega)|k+1,s,i,hk,hs,h=>by have hp:=pow10 hn;obtain⟨v,j,g1,g2,g3,g4⟩:=N_ok (n:=(n:Int)) (by omega) (by omega) h;obtain⟨w,rfl⟩:=Int.eq_ofNat_of_zero_le g2;have hw:2^w<2^n:=Nat.pow_lt_pow_right (by decide) (by omega);obtain⟨v',j',k1,k2,k3⟩:=qs6 hn h1 hm k (s|||2^w) j (by omega) (Nat.or_lt_two_pow hs hw) g4;refine⟨v',j',?_,k2,k3⟩;apply yal;rw[q04 (by omega),g1];simp only[cT,bS];rw[q0i (by omega),shl1 (by omega) (by omega),tN,q3a (by omega) (by omega),q46 (by omega) (by omega)];rw[show((k+1:Nat):Int)-1=((k:Nat):Int)by omega];exact k1
theorem y7b{m:Nat}{c:Config}(hc:ConfOk m c)(hm:m<=10){l:LI}{i:Int}(h:q0n l i):∃(v:Nat)(j:Int),za1 c l i=some ((v:Int),l,j)/\v<2^c.Members.length/\q0n l j:=by
 have hle:=hc.le;have hpos:=hc.pos;obtain⟨p,j,g1,g2,g3⟩:=q4l (ps:=[0,1,1,2,3]) (by decide) (by decide) h;have hpn:∃k:Nat,k<=100/\p=(k:Int):=by
  simp at g2;rcases g2 with rfl|rfl|rfl|rfl;·exact⟨0,by decide,rfl⟩
  .exact⟨1,by decide,rfl⟩
  .exact⟨2,by decide,rfl⟩
  .exact⟨3,by decide,rfl⟩
 obtain⟨k,hk,rfl⟩:=hpn;have hp1:=Nat.two_pow_pos c.Members.length;obtain⟨v,j',k1,k2,k3⟩:=qs6 (c:=c) (n:=c.Members.length) (by omega) (by omega) rfl (l:=l) k 0 j hk hp1 g3;refine⟨v,j',?_,k2,k3⟩;apply yh7;rw[g1];simp only[bS];exact k1
variable {m : Message} {l : LI} {i : Int}
structure RawM(m:Message):Prop where
 tr:raw m.Trust=true
 votes:m.Votes.length<1152921504606846976
 accs:m.Accepts.length<1152921504606846976
theorem qpk(h:RawM m):∃b,z48 m=some b/\(b=true->SmallM m/\Fits m.Trust):=by obtain⟨b,g1,g2⟩:=qj6 h.tr;cases b with|false=>exact⟨false,y2v _ _ (by simp_all),fun e=>by cases e⟩|true=>
  have hs:=g2 rfl;by_cases e1:m.Votes.length<=40
  .refine⟨leB ((m.Accepts.length:Nat):Int) 40,y2v _ _ (by rw[g1,bS,cT,q0s (by omega)];rfl),fun e=>?_⟩;have:m.Accepts.length<=40:=by simp[leB]at e;omega
   exact⟨⟨by unfold Small;omega,by omega,by omega⟩,by unfold Fits;omega⟩
  .exact⟨false,y2v _ _ (by rw[g1,bS,cT,q0v (by omega)];rfl),fun e=>by cases e⟩
theorem qn2(l:LM)(hl:l.length<1000)(hr:∀m∈l,RawM m):∀(suf:LM)(i:Nat),l.drop i=suf->∃b,z26 l ((l.length:Nat):Int) (i:Int)=some b/\(b=true->∀m∈suf,SmallM m)|[],i,h=>⟨true,y4p _ _ _ _ (by rw[q0c h];rfl),fun _ m hm=>by grind⟩|m::suf,i,h=>by have hlt:=q09 h;obtain⟨b,g1,g2⟩:=qpk (hr m (List.mem_of_mem_drop (i:=i) (by simp_all)));cases b with|false=>exact⟨false,y4p _ _ _ _ (by rw[q05 h,cT,q02 h,g1];rfl),fun e=>by cases e⟩|true=>obtain⟨c,q1,q2⟩:=qn2 l hl hr suf (i+1) (q01 h);refine⟨c,y4p _ _ _ _ (by rw[q05 h,cT,q02 h,g1,bS,q03 (by omega),q1];rfl),fun e x hx=>?_⟩;grind
structure RawV(v:Voter):Prop where
 tr:raw v.Trust=true
 votes:v.Votes.length<1152921504606846976
 accs:v.Accepts.length<1152921504606846976
 confs:v.Confirms.length<1152921504606846976
 heard:v.Heard.length<1152921504606846976
 msgs:∀m∈v.Heard,RawM m
theorem y4e{v:Voter}(h:RawV v):∃b,z3m v=some b/\(b=true->SmallV v/\Fits v.Trust):=by obtain⟨b,g1,g2⟩:=qj6 h.tr;cases b with|false=>exact⟨false,qni _ _ (by simp_all),fun e=>by cases e⟩|true=>
  have hs:=g2 rfl;by_cases e1:v.Votes.length<=40
  .by_cases e2:v.Accepts.length<=40
   .by_cases e3:v.Confirms.length<=40
    .by_cases e4:v.Heard.length<=20;·obtain⟨c,q1,q2⟩:=qn2 v.Heard (by omega) h.msgs v.Heard 0 rfl;have q3:z4m v.Heard=some c:=yas _ _ (by rw[q00 (by omega),cF];omega);refine⟨c,qni _ _ (by rw[g1,bS,cT,q0s (by omega),cT,q0s (by omega),cT,q0s (by omega),cT,q3];rfl),fun e=>?_⟩;exact⟨⟨by unfold Small;omega,by omega,by omega,by omega,by omega,q2 e⟩,by unfold Fits;omega⟩
     .have q3:z4m v.Heard=some false:=yas _ _ (by rw[q04 (by omega),cT]);exact⟨false,qni _ _ (by simp_all),fun e=>by cases e⟩
    .exact⟨false,qni _ _ (by rw[g1,bS,cT,q0s (by omega),cT,q0s (by omega),cT,q0v (by omega)];rfl),fun e=>by cases e⟩
   .exact⟨false,qni _ _ (by rw[g1,bS,cT,q0s (by omega),cT,q0v (by omega)];rfl),fun e=>by cases e⟩
  .exact⟨false,qni _ _ (by rw[g1,bS,cT,q0v (by omega)];rfl),fun e=>by cases e⟩
structure RawP(p:Play):Prop where
 tr:raw p.Trust=true
 msg:RawM p.Message
theorem qmp(l:LP)(hl:l.length<1000)(hr:∀p∈l,RawP p):∀(suf:LP)(i:Nat),l.drop i=suf->∃b,z2k l ((l.length:Nat):Int) (i:Int)=some b/\(b=true->∀p∈suf,SmallP p/\Fits p.Trust)|[],i,h=>⟨true,qwr _ _ _ _ (by rw[q0c h];rfl),fun _ m hm=>by grind⟩|p::suf,i,h=>by have hlt:=q09 h;have hp:=hr p (List.mem_of_mem_drop (i:=i) (by simp_all));obtain⟨b,g1,g2⟩:=qj6 hp.tr;cases b with|false=>exact⟨false,qwr _ _ _ _ (by rw[q05 h,cT,q02 h,g1];rfl),fun e=>by cases e⟩|true=>obtain⟨d,u1,u2⟩:=qpk hp.msg;cases d with|false=>exact⟨false,qwr _ _ _ _ (by rw[q05 h,cT,q02 h,g1,bS,nT,cF,u1];rfl),fun e=>by cases e⟩|true=>
    obtain⟨c,q1,q2⟩:=qmp l hl hr suf (i+1) (q01 h);refine⟨c,qwr _ _ _ _ (by rw[q05 h,cT,q02 h,g1,bS,nT,cF,u1,bS,nT,cF,q03 (by omega),q1]),fun e x hx=>?_⟩;rcases List.mem_cons.1 hx with hx|hx;·rw[hx];have:=g2 rfl;exact⟨⟨by unfold Small;omega,(u2 rfl).1⟩,by unfold Fits;omega⟩
    simp_all
theorem qm8(l:LP)(n:Nat)(hn:n<1000)(hr:∀p∈l,RawP p):∃b,z4g l (n:Int)=some b/\(b=true->l.length<=n/\∀p∈l,SmallP p/\Fits p.Trust):=by
 by_cases h:l.length<=n;·obtain⟨b,g1,g2⟩:=qmp l (by omega) hr l 0 rfl;exact⟨b,ybb _ _ _ (by rw[q00 (by omega),cF];omega),fun e=>⟨h,g2 e⟩⟩
 .exact⟨false,ybb _ _ _ (by rw[q04 (by omega)];rfl),fun e=>by cases e⟩
theorem qmz(m:Meeting)(hl:m.Voters.length<1000)(hr:∀v∈m.Voters,RawV v):∀(suf:LV)(i:Nat),m.Voters.drop i=suf->∃b,z2h m.Voters ((m.Voters.length:Nat):Int) (i:Int) m.Voters m.Stopped m.Ill=some b/\(b=true->∀v∈suf,SmallV v)|[],i,h=>⟨true,y3v _ _ _ _ _ _ _ (by rw[q0c h];rfl),fun _ m hm=>by grind⟩|v::suf,i,h=>by have hlt:=q09 h;obtain⟨b,g1,g2⟩:=y4e (hr v (List.mem_of_mem_drop (i:=i) (by simp_all)));cases b with|false=>exact⟨false,y3v _ _ _ _ _ _ _ (by rw[q05 h,cT,q02 h,g1];rfl),fun e=>by cases e⟩|true=>obtain⟨c,q1,q2⟩:=qmz m hl hr suf (i+1) (q01 h);refine⟨c,y3v _ _ _ _ _ _ _ (by rw[q05 h,cT,q02 h,g1,bS,nT,cF,q03 (by omega),q1]),fun e x hx=>?_⟩;grind
theorem qyn(m:Meeting)(hr:∀v∈m.Voters,RawV v):∃b,z6q m=some b/\(b=true->SmallMt m):=by
 by_cases h:m.Voters.length<=12;·obtain⟨b,g1,g2⟩:=qmz m (by omega) hr m.Voters 0 rfl;exact⟨b,y83 _ _ (by rw[q00 (by omega),cF];omega),fun e=>⟨by omega,g2 e⟩⟩
 .exact⟨false,y83 _ _ (by rw[q04 (by omega)];rfl),fun e=>by cases e⟩
theorem y1l(hb:TB m.Trust)(hs:SmallM m)(h:q0n l i):∃y j,z3u m l i=some (y,l,j)/\SmallM y/\q0n l j:=by
 obtain⟨x0,i0,g0,g0',g0'x,a0⟩:=N_ok (n:=5) (by omega) (by omega) h;by_cases e0:x0=0;·obtain⟨x1,i1,g1,_,a1⟩:=q4l (ps:=[-1,9,10]) (by decide) (by decide) a0;refine⟨⟨x1,m.Seq,m.Trust,m.Votes,m.Accepts⟩,i1,qqo _ _ _ _ ?_,⟨hs.tr,hs.votes,hs.accs⟩,a1⟩;rw[g0,bS];dsimp only;rw[e0,q0e,cT,g1,bS,Trust.etaM]
 by_cases e1:x0=1;·obtain⟨x1,i1,g1,_,a1⟩:=q4l (ps:=[0,-1,addI .i64 m.Seq 1]) (by simp) (by simp) a0;refine⟨⟨m.Node,x1,m.Trust,m.Votes,m.Accepts⟩,i1,qqo _ _ _ _ ?_,⟨hs.tr,hs.votes,hs.accs⟩,a1⟩;rw[g0,bS];dsimp only;rw[q0d e0,cF,e1,q0e,cT,g1,bS,Trust.etaM]
 by_cases e2:x0=2;·obtain⟨y,i1,g1,g1',_,a1⟩:=qv7 m.Trust hb.1 hb.2 i0 a0;refine⟨⟨m.Node,m.Seq,y,m.Votes,m.Accepts⟩,i1,qqo _ _ _ _ ?_,⟨by have:=hb.1;unfold Small;grind,hs.votes,hs.accs⟩,a1⟩;rw[g0,bS];dsimp only;rw[q0d e0,cF,q0d e1,cF,e2,q0e,cT,g1,bS,Trust.etaM]
 obtain⟨k,i1,g1,g1',a1⟩:=y5d (n:=4) (by omega) a0;have g1:z7b 4 l i0=some (k,l,i1):=g1;by_cases e3:x0=3;·refine⟨⟨m.Node,m.Seq,m.Trust,k,m.Accepts⟩,i1,qqo _ _ _ _ ?_,⟨hs.tr,by grind,hs.accs⟩,a1⟩;rw[g0,bS];dsimp only;rw[q0d e0,cF,q0d e1,cF,q0d e2,cF,e3,q0e,cT,g1,bS,Trust.etaM]
 .refine⟨⟨m.Node,m.Seq,m.Trust,m.Votes,k⟩,i1,qqo _ _ _ _ ?_,⟨hs.tr,hs.votes,by grind⟩,a1⟩;rw[g0,bS];dsimp only;rw[q0d e0,cF,q0d e1,cF,q0d e2,cF,q0d e3,cF,g1,bS,Trust.etaM]
theorem y2e(p:Play):Play.mk p.Kind p.From p.To p.Claim (Trust.mk p.Trust.Threshold p.Trust.Nodes p.Trust.Inner) (Message.mk p.Message.Node p.Message.Seq (Trust.mk p.Message.Trust.Threshold p.Message.Trust.Nodes p.Message.Trust.Inner) p.Message.Votes p.Message.Accepts)=p:=by simp
theorem y79{p:Play}(hp:SmallP p/\TB p.Trust/\TB p.Message.Trust)(h:q0n l i):∃y j,z56 p l i=some (y,l,j)/\(SmallP y/\Fits y.Trust)/\q0n l j:=by
 obtain⟨⟨hs,hm⟩,hb,hbm⟩:=hp;have hf:Fits p.Trust:=by have:=hb.1;unfold Fits;omega
 obtain⟨x0,i0,g0,g0',g0'x,a0⟩:=N_ok (n:=6) (by omega) (by omega) h;by_cases e0:x0=0;·obtain⟨x1,i1,g1,_,_,a1⟩:=q68 (a:=0) (b:=6) (by omega) (by omega) (by omega) a0;refine⟨⟨x1,p.From,p.To,p.Claim,p.Trust,p.Message⟩,i1,qn4 _ _ _ _ ?_,⟨⟨hs,hm⟩,hf⟩,a1⟩;rw[g0,bS];dsimp only;rw[e0,q0e,cT,g1,bS,Trust.etaM,Trust.etaM]
 by_cases e1:x0=1;·obtain⟨x1,i1,g1,_,a1⟩:=q4l (ps:=[-1,0,9,10,p.To]) (by simp) (by simp) a0;refine⟨⟨p.Kind,x1,p.To,p.Claim,p.Trust,p.Message⟩,i1,qn4 _ _ _ _ ?_,⟨⟨hs,hm⟩,hf⟩,a1⟩;rw[g0,bS];dsimp only;rw[q0d e0,cF,e1,q0e,cT,g1,bS,Trust.etaM,Trust.etaM]
 by_cases e2:x0=2;·obtain⟨x1,i1,g1,_,a1⟩:=q4l (ps:=[-1,0,9,10,p.From]) (by simp) (by simp) a0;refine⟨⟨p.Kind,p.From,x1,p.Claim,p.Trust,p.Message⟩,i1,qn4 _ _ _ _ ?_,⟨⟨hs,hm⟩,hf⟩,a1⟩;rw[g0,bS];dsimp only;rw[q0d e0,cF,q0d e1,cF,e2,q0e,cT,g1,bS,Trust.etaM,Trust.etaM]
 by_cases e3:x0=3;·obtain⟨x1,i1,g1,a1⟩:=qxs a0;refine⟨⟨p.Kind,p.From,p.To,x1,p.Trust,p.Message⟩,i1,qn4 _ _ _ _ ?_,⟨⟨hs,hm⟩,hf⟩,a1⟩;rw[g0,bS];dsimp only;rw[q0d e0,cF,q0d e1,cF,q0d e2,cF,e3,q0e,cT,g1,bS,Trust.etaM,Trust.etaM]
 by_cases e4:x0=4;·obtain⟨y,i1,g1,g1',_,a1⟩:=qv7 p.Trust hb.1 hb.2 i0 a0;have hb1:=hb.1;refine⟨⟨p.Kind,p.From,p.To,p.Claim,y,p.Message⟩,i1,qn4 _ _ _ _ ?_,⟨⟨by unfold Small;grind,hm⟩,by unfold Fits;grind⟩,a1⟩;rw[g0,bS];dsimp only;rw[q0d e0,cF,q0d e1,cF,q0d e2,cF,q0d e3,cF,e4,q0e,cT,g1,bS,Trust.etaM,Trust.etaM]
 .obtain⟨y,i1,g1,g1',a1⟩:=y1l hbm hm a0;refine⟨⟨p.Kind,p.From,p.To,p.Claim,p.Trust,y⟩,i1,qn4 _ _ _ _ ?_,⟨⟨hs,g1'⟩,hf⟩,a1⟩;rw[g0,bS];dsimp only;rw[q0d e0,cF,q0d e1,cF,q0d e2,cF,q0d e3,cF,q0d e4,cF,g1,bS,Trust.etaM,Trust.etaM]
variable {c : Config} {i0 ill : Int}
theorem qzm(a:LI)(hl:a.length<1000000):law20_codes a a=some true:=by
 have key:∀(suf:LI)(i:Nat),a.drop i=suf->z68 a a ((a.length:Nat):Int) (i:Int)=some true:=by intro suf;induction suf with|nil=>intro i h;exact ya6 _ _ _ _ _ (by rw[q0c h];rfl)|cons y suf ih=>intro i h;have hlt:=q09 h;exact ya6 _ _ _ _ _ (by rw[q05 h,cT,q02 h,q02 h,q0g,cF,q03 (by omega)];exact ih (i+1) (q01 h))
 exact law20_codes_le _ _ _ (by rw[q0g,cF];grind)
theorem qv8(L:List (LT))(hl:L.length<1000000)(hd:∀d∈L,d.length<1000000/\∀t∈d,Small t):law20_trusts L L=some true:=by
 have inner:∀(k:Nat)(d:LT),L[k]?=some d->∀(R:z4c L L ((L.length:Nat):Int) (addI .i64 (k:Int) 1)=some true)(suf:LT)(i:Nat),d.drop i=suf->z5g L L (k:Int) ((L.length:Nat):Int) (k:Int) ((d.length:Nat):Int) (i:Int)=some true:=by intro k d hk R suf;obtain⟨h1,h2⟩:=hd d (List.mem_of_getElem? hk);induction suf with|nil=>intro i h;exact yba _ _ _ _ _ _ _ _ (by rw[q0c h];exact R)|cons y suf ih=>
   intro i h;have hlt:=q09 h;have hk':L[((k:Nat):Int).toNat]?=some d:=by simp_all
   exact yba _ _ _ _ _ _ _ _ (by rw[q05 h,cT,q0m (by omega) hk',q0m (by omega) hk',q02 h,q02 h,qfb y (h2 y (List.mem_of_mem_drop (i:=i) (by simp_all))),bS,decide_eq_true rfl,nT,cF,q03 (by omega)];exact ih (i+1) (q01 h))
 have outer:∀(suf:List (LT))(k:Nat),L.drop k=suf->z4c L L ((L.length:Nat):Int) (k:Int)=some true:=by intro suf;induction suf with|nil=>intro k h;exact y87 _ _ _ _ _ (by rw[q0c h];rfl)|cons d suf ih=>
   intro k h;have hlt:=q09 h;have hk:L[k]?=some d:=by
    have:(L.drop k)[0]?=some d:=by rw[h];rfl
    grind
   exact y87 _ _ _ _ _ (by rw[q05 h,cT,q02 h,q02 h,q0g,cF,q02 h];exact inner k d hk (by rw[q03 (by omega)];exact ih (k+1) (q01 h)) d 0 rfl)
 exact law20_trusts_le _ _ _ (by rw[q0g,cF];grind)
theorem qgk{α:Type}{P:α->Prop}:∀{ps:List (Int×Int×α)}{cs:LI}{ds out:List (List α)}{k:Nat},q1e ps cs ds=some out->(∀d∈ds,d.length<=k/\∀t∈d,P t)->(∀p∈ps,P p.2.2)->∀d∈out,d.length<=k+ps.length/\∀t∈d,P t
 |[],cs,ds,out,k,h,hd,_=>by simp only[q1e,sI]at h;grind|(kd,a,u)::r,[],ds,out,k,h,_,_=>by simp[q1e]at h|(kd,a,u)::r,c::cs,ds,out,k,h,hd,hp=>by
  have hu:P u:=hp (kd,a,u) (by simp);have hr:∀p∈r,P p.2.2:=fun p h=>hp p (by simp[h]);have key:∀d∈out,d.length<=(k+1)+r.length/\∀t∈d,P t:=by
   simp only[q1e]at h;split at h
   .split at h;·refine qgk h (fun d hx=>?_) hr;obtain⟨i,hi⟩:=List.mem_iff_getElem?.1 hx;rw[List.getElem?_modify]at hi;cases hg:ds[i]? with|none=>rw[hg]at hi;cases hi|some x=>
      obtain⟨h1,h2⟩:=hd x (List.mem_of_getElem? hg);rw[hg]at hi;by_cases e:a.toNat=i;·simp[e]at hi;subst hi;exact⟨by simp;omega,fun t ht=>by
        rcases List.mem_append.1 ht with ht|ht;·exact h2 t ht
        .simp at ht;rw[ht];exact hu⟩
      .simp[e]at hi;subst hi;exact⟨by omega,h2⟩
    .cases h
   .exact qgk h (fun d hx=>⟨by have:=(hd d hx).1;omega,(hd d hx).2⟩) hr
  grind
theorem qsh:∀(l:LP)(m:Meeting),(playM l m).2.length=l.length|[],_=>rfl|p::r,m=>by rw[playM,List.length_cons,List.length_cons,qsh r]
theorem qz2{l:LP}(hl:l.length<=400):(runG c ill l).2.1.length<1000000:=by
 unfold runG;split;·simp
 .split;·simp
  .dsimp only;rw[qsh];omega
structure ConfS(z:Config):Prop where
 small:q31 z
 len:z.Members.length<=1000
 fits:∀m∈z.Members,Fits m.Trust
structure PlaysS(y:LP):Prop where
 len:y.length<=400
 all:∀p∈y,SmallP p/\Fits p.Trust
theorem qv0(hc:ConfS c){l:LP}(hl:PlaysS l):(q78 c ill l).1.length<1000000/\∀d∈(q78 c ill l).1,d.length<1000000/\∀t∈d,Small t:=by
 unfold q78;split
 .rename_i h;obtain⟨L,hL⟩:=qiv hl.len h;rw[hL];have hlen:L.length=c.Members.length:=by have:=qa8 hL;rw[this];simp
  have:=hc.len;refine⟨by show L.length<_;omega,fun d hd=>?_⟩;have hl4:=hl.len;obtain⟨h1,h2⟩:=qgk (k:=1) (P:=Small) hL (fun d hd=>by
   obtain⟨m,hm,rfl⟩:=List.mem_map.1 hd;unfold qis;split;·exact⟨by simp,fun t ht=>by simp at ht;rw[ht];exact(hc.fits m hm).small⟩
   .exact⟨by simp,fun t ht=>by cases ht⟩) (fun p hp=>by obtain⟨q,hq,rfl⟩:=List.mem_map.1 hp;exact(hl.all q hq).1.tr) d hd;rw[List.length_map]at h1;exact⟨by omega,h2⟩
 simp
theorem y7m(p:Play):Play.mk p.Kind p.From p.To (Claim.mk p.Claim.Topic p.Claim.Value) (Trust.mk p.Trust.Threshold p.Trust.Nodes p.Trust.Inner) (Message.mk p.Message.Node p.Message.Seq (Trust.mk p.Message.Trust.Threshold p.Message.Trust.Nodes p.Message.Trust.Inner) p.Message.Votes p.Message.Accepts)=p:=by simp
theorem y2o{a0:Int}{a2:LP}{a7:Int}{a9:LP}{a12:List Config}{a14:Int}{a16:Int}{a24:LB}{a26:LV}{a28:Int}{a30:Int}{a32:Int}{a34:Int}{a36:Int}{a38:Int}{a40:Int}{a42:Int}{a44:LI}{a46:LT}{a48:Int}{a50:Int}{a52:Int}{a54:LI}{a56:LT}{a58:LC}{a60:LC}{a62:LI}{a64:Int}{a66:LB}{z:Config}(hz:ConfS z)(ys:List (LP))(hyl:ys.length<1000)(hys:∀y∈ys,PlaysS y)(hnext:z1r a0 a2 a7 a9 a12 a14 (addI .i64 a16 1) a24 a26 a28 a30 a32 a34 a36 a38 a40 a42 a44 a46 a48 a50 a52 a54 a56 a58 a60 a62 a64 a66=some true):∀(suf:List (LP))(k:Nat),ys.drop k=suf->z0v a0 a2 a7 a9 a12 a14 a16 ys ((ys.length:Nat):Int) (k:Int) a24 a26 a28 a30 a32 a34 a36 a38 a40 a42 a44 a46 a48 a50 a52 a54 a56 a58 a60 a62 a64 a66 z.Members=some true|[],k,h=>by apply y9d;rw[q0c h];simp_all|y::suf,k,h=>by have hlt:=q09 h;have hy:=hys y (List.mem_of_mem_drop (i:=k) (by simp_all));have hp:∀p∈y,SmallP p:=fun p hp=>(hy.all p hp).1;obtain⟨t1,t2⟩:=qv0 hz (ill:=a7) hy;apply y9d;rw[q05 h,cT,q02 h,show Config.mk z.Members=z from rfl,qpd hz.small a7 hp,bS,qo5 hz.small a7 hp,bS,qyy hz.small hz.len a7 hy.len hp hz.fits (fun p hp=>(hy.all p hp).2),bS,qzd hz.small hz.len a7 hy.len hp,bS,q0g,cF,q0g,cF,qzm _ (qz2 hy.len),bS,nT,cF,qaa qlv,bS,nT,cF,qv8 _ t1 t2,bS,nT,cF,q03 (by omega)];exact y2o hz ys hyl hys hnext suf (k+1) (q01 h)
theorem yb2{a0:Int}{a2:LP}{a7:Int}{a9:LP}{a12:List Config}{a14:Int}{a16:Int}{a24:LB}{a26:LV}{a28:Int}{a30:Int}{a32:Int}{a34:Int}{a36:Int}{a38:Int}{a40:Int}{a42:Int}{a44:LI}{a46:LT}{a48:Int}{a50:Int}{a52:Int}{a54:LI}{a56:LT}{a58:LC}{a60:LC}{a62:LI}{a64:Int}{a66:LB}{z:Config}(hz:ConfS z)(xs:LI)(hxl:xs.length<1000)(hnext:z0v a0 a2 a7 a9 a12 a14 a16 ([a9,a2]:List (List (Play))) ((List.length ([a9,a2]:List (List (Play))):Nat):Int) 0 a24 a26 a28 a30 a32 a34 a36 a38 a40 a42 a44 a46 a48 a50 a52 a54 a56 a58 a60 a62 a64 a66 z.Members=some true):∀(suf:LI)(k:Nat),xs.drop k=suf->z1s a0 a2 a7 a9 a12 a14 a16 xs ((xs.length:Nat):Int) (k:Int) a24 a26 a28 a30 a32 a34 a36 a38 a40 a42 a44 a46 a48 a50 a52 a54 a56 a58 a60 a62 a64 a66 z.Members=some true|[],k,h=>by apply ya3;rw[q0c h];simp_all|y::suf,k,h=>by have hlt:=q09 h;apply ya3;rw[q05 h,cT,q02 h,show Config.mk z.Members=z from rfl,qft hz.small,bS,qgn hz.small,bS,q0g,cF,qaa qht,bS,nT,cF,q03 (by omega)];exact yb2 hz xs hxl hnext suf (k+1) (q01 h)
theorem y89{a0:Int}{a2:LP}{a7:Int}{a9:LP}{a12:List Config}{a14:Int}{a16:Int}{a24:LB}{a26:LV}{a28:Int}{a30:Int}{a32:Int}{a34:Int}{a36:Int}{a38:Int}{a40:Int}{a42:Int}{a44:LI}{a46:LT}{a48:Int}{a50:Int}{a52:Int}{a54:LI}{a56:LT}{a58:LC}{a60:LC}{a62:LI}{a64:Int}{a66:LB}{z:Config}(hz:ConfS z)(xs:LI)(hxl:xs.length<1000)(hnext:z0v a0 a2 a7 a9 a12 a14 a16 ([a9,a2]:List (List (Play))) ((List.length ([a9,a2]:List (List (Play))):Nat):Int) 0 a24 a26 a28 a30 a32 a34 a36 a38 a40 a42 a44 a46 a48 a50 a52 a54 a56 a58 a60 a62 a64 a66 z.Members=some true):∀(suf:LI)(k:Nat),xs.drop k=suf->z1q a0 a2 a7 a9 a12 a14 a16 xs ((xs.length:Nat):Int) (k:Int) a24 a26 a28 a30 a32 a34 a36 a38 a40 a42 a44 a46 a48 a50 a52 a54 a56 a58 a60 a62 a64 a66 z.Members=some true|[],k,h=>by apply y94;rw[q0c h];simp_all|y::suf,k,h=>by have hlt:=q09 h;apply y94;rw[q05 h,cT,q02 h,show Config.mk z.Members=z from rfl,qft hz.small,bS,qgn hz.small,bS,q0g,cF,qaa qht,bS,nT,cF,q03 (by omega)];exact y89 hz xs hxl hnext suf (k+1) (q01 h)
theorem yaw{a9:LB}{a47:LI}{a49:Int}{a51:LB}{p:Play}(hp:SmallP p){n m r:Meeting}{e:Int}(hr:SmallMt r)(hc1:z4j n=some (r,e))(hc2:z7a n=some (r,e))(ms:List Meeting)(hml:ms.length<1000)(hms:∀x∈ms,SmallMt x):∀(suf:List Meeting)(k:Nat),ms.drop k=suf->z1f ms ((ms.length:Nat):Int) (k:Int) a9 m.Voters m.Stopped m.Ill p.Kind p.From p.To p.Claim.Topic p.Claim.Value p.Trust.Threshold p.Trust.Nodes p.Trust.Inner p.Message.Node p.Message.Seq p.Message.Trust.Threshold p.Message.Trust.Nodes p.Message.Trust.Inner p.Message.Votes p.Message.Accepts a47 a49 a51 n.Voters n.Stopped n.Ill=some true|[],k,h=>by apply y8t;rw[q0c h,cF,show Meeting.mk n.Voters n.Stopped n.Ill=n from rfl,hc1,bS,hc2,bS,q0e,cT,qaa hr,bS,cT,qju];rfl|x::suf,k,h=>by have hlt:=q09 h;have hx:=hms x (List.mem_of_mem_drop (i:=k) (by simp_all));obtain⟨s,q1,q2⟩:=y0q hx m;apply y8t;rw[q05 h,cT,q02 h,y7m,y7y hx hp,bS,qo4 hx hp,bS,qz8 hx,bS,y04 hx,bS,q0g,cF,qaa (qzj x p),bS,nT,cF,q0g,cF,q0g,cF,beq_self_eq_true,nT,cF,q6y hx,bS,q6x hx,bS,beq_self_eq_true,nT,cF,show Meeting.mk m.Voters m.Stopped m.Ill=m from rfl,q1,bS,q2,bS,beq_self_eq_true,nT,cF,q03 (by omega)];exact yaw hp hr hc1 hc2 ms hml hms suf (k+1) (q01 h)
theorem y5z{made:LP}(hl:made.length<=400):∃r e,z4j (runG c i0 made).1=some (r,e)/\z7a (runG c i0 made).1=some (r,e)/\SmallMt r:=by
 by_cases h:(runG c i0 made).2.2=0;·obtain⟨h1,h2,h3⟩:=qrx hl h;obtain⟨m',g1,g2,g3⟩:=y2u h2 h1 (by omega) h3;exact⟨m',0,g1,g2,g3.small h2⟩
 .have he:(runG c i0 made).1=q1u:=by unfold runG at h⊢;grind
  rw[he];exact⟨q1u,1,qmv.1,qmv.2,q49⟩
theorem ybd{ill i0:Int}{l made:LP}{m:Meeting}{p:Play}{c:Config}{a17:LB}{a55:LI}{a57:Int}(hp:SmallP p)(hm:SmallMt m)(hmade:PlaysS made)(hl:PlaysS l)(hcs:ConfS c)(zs:List Config)(hzl:zs.length<1000)(hzs:∀z∈zs,ConfS z):∀(suf:List Config)(k:Nat),zs.drop k=suf->z1r ill l i0 made zs ((zs.length:Nat):Int) (k:Int) a17 m.Voters m.Stopped m.Ill p.Kind p.From p.To p.Claim.Topic p.Claim.Value p.Trust.Threshold p.Trust.Nodes p.Trust.Inner p.Message.Node p.Message.Seq p.Message.Trust.Threshold p.Message.Trust.Nodes p.Message.Trust.Inner p.Message.Votes p.Message.Accepts a55 a57 c.Members=some true
 |[],k,h=>by
  obtain⟨r,e,g1,g2,g3⟩:=y5z (c:=c) (i0:=i0) hmade.len;have hr:=qo5 hcs.small i0 (fun p hp=>(hmade.all p hp).1);apply ybe;rw[q0c h,cF,show Config.mk c.Members=c from rfl,hr,bS];exact yaw hp g3 g1 g2 [(runG c i0 made).1,m] (by simp) (fun x hx=>by
   simp at hx;rcases hx with rfl|rfl;·exact qlv
   omega) _ 0 rfl|z::suf,k,h=>by have hlt:=q09 h;have hz:=hzs z (List.mem_of_mem_drop (i:=k) (by simp_all));apply ybe;rw[q05 h,cT,q02 h];exact yb2 hz [i0,ill] (by simp) (y2o hz [made,l] (by simp) (fun y hy=>by grind) (by rw[q03 (by omega)];exact ybd hp hm hmade hl hcs zs hzl hzs suf (k+1) (q01 h)) _ 0 rfl) _ 0 rfl
theorem yi0{l made:LP}{m:Meeting}{p:Play}{a17:LB}{a55:LI}{a57:Int}(hp:SmallP p)(hm:SmallMt m)(hmade:PlaysS made)(hl:PlaysS l)(hcs:ConfS c)(z:Config)(zs:List Config)(hzl:(z::zs).length<1000)(hzs:∀x∈z::zs,ConfS x):z3d ill l i0 made (z::zs) (((z::zs).length:Nat):Int) 0 a17 m.Voters m.Stopped m.Ill p.Kind p.From p.To p.Claim.Topic p.Claim.Value p.Trust.Threshold p.Trust.Nodes p.Trust.Inner p.Message.Node p.Message.Seq p.Message.Trust.Threshold p.Message.Trust.Nodes p.Message.Trust.Inner p.Message.Votes p.Message.Accepts a55 a57 c.Members=some true:=by have hz:=hzs z (by simp);apply ydc;rw[q04 (by simp),cT,q0m (y:=z) (by omega) rfl];exact y89 hz [i0,ill] (by simp) (y2o hz [made,l] (by simp) (fun y hy=>by grind) (ybd hp hm hmade hl hcs (z::zs) hzl hzs zs 1 rfl) _ 0 rfl) _ 0 rfl
theorem y4a{ill i0:Int}{l:LP}{m:Meeting}{p:Play}{c rc:Config}{tl:LI}(hp:SmallP p)(hm:SmallMt m)(hl:PlaysS l){n:Nat}(hn:n<=10)(hc:ConfOk n c)(hcs:ConfS c)(hrc:ConfS rc):∀(rest dn:LP)(j:Int),(dn++rest).length<=400->(∀p∈dn,SmallP p/\Fits p.Trust)->(∀p∈rest,SmallP p/\TB p.Trust/\TB p.Message.Trust)->q0n tl j->z1c ill l i0 (dn++rest) (((dn++rest).length:Nat):Int) ((dn.length:Nat):Int) rc.Members m.Voters m.Stopped m.Ill p.Kind p.From p.To p.Claim.Topic p.Claim.Value p.Trust.Threshold p.Trust.Nodes p.Trust.Inner p.Message.Node p.Message.Seq p.Message.Trust.Threshold p.Message.Trust.Nodes p.Message.Trust.Inner p.Message.Votes p.Message.Accepts tl j c.Members=some true
 |[],dn,j,hlen,hd,_,ht=>by obtain⟨h1,h2⟩:=hc.CB' hn;obtain⟨bc,j1,g1,g2,g3⟩:=y6c h1 h2 ht;have hdn:PlaysS (dn++[]):=⟨hlen,fun p hp=>hd p (by simp_all)⟩;apply y8g;rw[q00 (by simp),cF,show Config.mk c.Members=c from rfl,g1,bS];exact yi0 hp hm hdn hl hcs c [bc,rc] (by simp) (fun x hx=>by
   simp at hx;rcases hx with rfl|rfl|rfl;·exact hcs
   .exact⟨g2.small,Nat.le_of_lt g2.1,fun m hm=>by have:=(g2.2 m hm).1;unfold Fits;omega⟩
   omega)|q::rest,dn,j,hlen,hd,hr,ht=>by
  have hq:=hr q (by simp);have hll:(dn++q::rest).length=dn.length+(rest.length+1):=by simp
  have hget:(dn++q::rest)[((dn.length:Nat):Int).toNat]?=some q:=by simp
  obtain⟨x0,j0,g0,_,_,a0⟩:=N_ok (n:=8) (by omega) (by omega) ht;have hqs:SmallP q/\Fits q.Trust:=⟨hq.1,by have:=hq.2.1.1;unfold Fits;omega⟩;have e1:∀y:Play,dn++y::rest=(dn++[y])++rest:=fun y=>by simp
  apply y8g;rw[q04 (by omega),cT,g0,bS]
  dsimp only;by_cases e7:x0=7;·obtain⟨y,j1,g1,g2,a1⟩:=y79 hq a0;rw[e7,q0e,cT,q0m (by omega) hget,q2p hget,g1,bS];dsimp only;rw[q0m (by omega) hget,q2p hget,y2e,tN,show(dn++q::rest).set dn.length y=(dn++[y])++rest by rw[List.set_append_right _ _ (Nat.le_refl _),Nat.sub_self,List.set_cons_zero];simp,q03 (by omega),show((dn++q::rest).length:Nat)=((dn++[y])++rest).length by simp];have:=y4a (ill:=ill) (i0:=i0) hp hm hl hn hc hcs hrc rest (dn++[y]) j1 (by simp at hlen⊢;omega) (fun z hz=>by
    rcases List.mem_append.1 hz with hz|hz;·exact hd z hz
    .simp at hz;rw[hz];exact g2) (fun z hz=>hr z (by simp[hz])) a1;rw[show((dn++[y]).length:Nat)=dn.length+1 by simp]at this;omega
  .rw[q0d e7,cF,q03 (by omega),e1 q];have:=y4a (ill:=ill) (i0:=i0) hp hm hl hn hc hcs hrc rest (dn++[q]) j0 (by simp at hlen⊢;omega) (fun z hz=>by
    rcases List.mem_append.1 hz with hz|hz;·exact hd z hz
    .simp at hz;rw[hz];exact hqs) (fun z hz=>hr z (by simp[hz])) a0;grind
theorem y5p(t:LI)(rc:Config)(ill:Int)(l:LP)(m:Meeting)(p:Play)(hrc:∀x∈rc.Members,raw x.Trust=true)(hl:∀x∈l,RawP x)(hm:∀v∈m.Voters,RawV v)(hp:RawP p):law20_AssemblyAnswers t rc ill l m p=some true:=by obtain⟨b1,g1,u1⟩:=y5g hrc;obtain⟨b2,g2,u2⟩:=qm8 l 12 (by omega) hl;obtain⟨b3,g3,u3⟩:=qyn m hm;obtain⟨b4,g4,u4⟩:=qm8 [p] 1 (by omega) (fun x hx=>by simp_all);have g2:z4g l 12=some b2:=g2;have g4:z4g [p] 1=some b4:=g4;apply law20_AssemblyAnswers_le;rw[g1,bS];cases b1 with|false=>simp only[Bool.not_false,cT,qju];rfl|true=>rw[nT,cF,g2,bS];cases b2 with|false=>simp only[Bool.not_false,cT,qju];rfl|true=>rw[nT,cF,g3,bS];cases b3 with|false=>simp only[Bool.not_false,cT,qju];rfl|true=>rw[nT,cF,y2e,g4,bS];cases b4 with|false=>simp only[Bool.not_false,cT,qju];rfl|true=>obtain⟨c1,c2⟩:=u1 rfl;obtain⟨l1,l2⟩:=u2 rfl;have hms:=u3 rfl;obtain⟨_,p2⟩:=u4 rfl;have hps:=(p2 p (by simp)).1;have hcr:ConfS rc:=⟨⟨by omega,fun m hm=>by have:=c2 m hm;unfold Small;omega⟩,by omega,fun m hm=>by have:=c2 m hm;unfold Fits;omega⟩;obtain⟨tl,q0,a0⟩:=yfn t;obtain⟨c,j1,q1,hc,hd,a1⟩:=yct (n:=4) (by omega) (by omega) a0;obtain⟨i0,j2,q2,hi,a2⟩:=y7b hc (by omega) a1;obtain⟨made,j3,q3,hmd,hml,a3⟩:=y5w (N:=c.Members.length) hc.pos (by have:=hc.le;omega) (d:=true) rfl (ill:=((i0:Nat):Int)) (n:=14) (by omega) a2;have q1:z9w 4 tl 0=some (c,tl,j1):=q1;have q3:z9t c (i0:Int) 14 true tl j2=some ((),tl,j3,made):=q3;have hcs:ConfS c:=⟨hc.smallC (by omega),by have:=hc.le;omega,fun m hm=>by have:=((hc.CB' (by omega)).2 m hm).1;unfold Fits;omega⟩;rw[nT,cF,q0,bS];dsimp only;rw[q1,bS];dsimp only;rw[q2,bS];dsimp only;rw[q3,bS];exact y4a (dn:=[]) hps hms ⟨by omega,l2⟩ (n:=4) (by omega) hc hcs hcr made j3 (by simp_all) (fun _ h=>by cases h) (fun x hx=>⟨(hmd x hx).small,(hmd x hx).tb⟩) a3
theorem yc5:qom env (qb3 an):=by
 intro h hok;have hlt:h<lastF+1:=by have:okF h=true:=hok;simp only[okF,aT,dT]at this;omega
 have h1:=List.all_eq_true.1 qoh h (List.mem_range.2 hlt);have hok':okF h=true:=hok;rw[hok',nT,Bool.false_or]at h1;unfold q5x at h1;cases hf:Tryz.prog.funcs[h]? with|none=>simp[hf]at h1|some fn=>cases hb:fn.body with|none=>simp[hf,hb]at h1|some c=>simp only[hf,hb,aT,dT]at h1;exact⟨fn,c,hf,hb,h1.1,fun hl=>by have h2:=h1.2;rw[hl]at h2;exact h2⟩
theorem yef(n:Nat):qcf env n:=sound (E:=env) mixed yc5 y6a n
end Go.Proofs.YtdmfjabikomgiaaGreat
