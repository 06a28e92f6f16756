/- Laws of the printed functions. -/
import Derived.Test.YtdmfjabikomgiaaGreatP20SegB
import Derived.Test.YtdmfjabikomgiaaGreatP20SegA
import Derived.Test.YtdmfjabikomgiaaGreatRows
import Derived.ProofKit
import Derived.LaidMore
import Derived.OpenShut
import Derived.Stop.Joined
namespace Go.Proofs.YtdmfjabikomgiaaGreat
open Go Go.Ab
def dP(p:Play):Int×Int×Trust:=(p.Kind,p.From,p.Trust)
def qbu(m:Member):List Trust:=if m.Declared then [m.Trust]else []
def declL(c:Config)(l:List Play)(cs:List Int):Option (List (List Trust)):=q1e (l.map dP) cs (c.Members.map qbu)
theorem qnk{α β:Type}(f:α->β)(g:α->α)(h:β->β)(k:∀a,f (g a)=h (f a)):∀(l:List α)(n:Nat),(l.modify n g).map f=(l.map f).modify n h|[],n=>by cases n<;>rfl|a::l,0=>by simp_all|a::l,n+1=>by show f a::(l.modify n g).map f=f a::(l.map f).modify n h;rw[qnk f g h k l n]
theorem qlk{α β:Type}(f:α->β):∀(ps:List (Int×Int×α))(cs:List Int)(ds:List (List α)),q1e (ps.map fun p=>(p.1,p.2.1,f p.2.2)) cs (ds.map (List.map f))=(q1e ps cs ds).map (List.map (List.map f))
 |[],cs,ds=>by rfl|(k,a,t)::r,[],ds=>by rfl|(k,a,t)::r,c::cs,ds=>by
  simp only[List.map_cons,q1e,List.length_map];by_cases h:k=3/\c=0
  .rw[if_pos h,if_pos h];by_cases h2:0<=a/\a<ds.length;·rw[if_pos h2,if_pos h2,<-qnk (List.map f) (·++[t]) (·++[f t]) (fun l=>by simp)];exact qlk f r cs _
   grind
  .rw[if_neg h,if_neg h];exact qlk f r cs ds
def encU(t:Trust):List D:=[.v (.int .i64 t.Threshold),.list (t.Nodes.map q4p),.list (t.Inner.map q1t)]
theorem y7q(t:Trust):D.agg (encU t)=q1t t:=by cases t;simp[encU,q1t,q91]
theorem y6j:∀l:List Member,allOf memD (l.map q47)=some (l.map fun m=>(m.Declared,encU m.Trust))|[]=>rfl|m::l=>by have h:memD (q47 m)=some (m.Declared,encU m.Trust):=rfl;rw[List.map_cons,allOf,h,y6j l];rfl
theorem qz6:∀l:List Play,allOf playD (l.map q9k)=some (l.map fun p=>(p.Kind,p.From,encU p.Trust))|[]=>rfl|p::l=>by have h:playD (q9k p)=some (p.Kind,p.From,encU p.Trust):=rfl;rw[List.map_cons,allOf,h,qz6 l];rfl
theorem qyo:∀l:List Int,allOf codeD (l.map q4p)=some l|[]=>rfl|c::l=>by have h:codeD (q4p c)=some c:=rfl;rw[List.map_cons,allOf,h,qyo l]
theorem qzg{c:Config}{ill:Nat}{l:List Play}{m:Meeting}{cs:List Int}{L:List (List Trust)}(hr:z95 c (ill:Int) l=some (m,cs,0))(hn:c.Members.length<=1000)(hl:l.length<=1000)(hL:declL c l cs=some L):z9f c (ill:Int) l=some (L,0):=by
 refine y2f (T:=tn) (m:=y2c) (g:=43) (k:=qdg) (og:=⟨[.ag .Meeting,.lf (.l .i64),.lf (.i .i64)],[]⟩) sigOk (by rfl) rfl rfl (y:=((m,cs,(0:Int)):Meeting×List Int×Int)) hr rfl ?_;show libA (qdg (.tup [.d (.agg [.list (m.Voters.map q6x),.v (.int .i64 m.Stopped),.v (.int .i64 m.Ill)]),.d (.list (cs.map q4p)),.d (.v (.int .i64 0))])) [.d (.agg [.list (c.Members.map q47)]),.d (.v (.int .i64 ill)),.d (.list (l.map q9k))] []=some (.tup [.d (.list (L.map q6w)),.d (.v (.int .i64 0))],[]);have hp:=qlk encU (l.map dP) cs (c.Members.map qbu);have hL':q1e (l.map dP) cs (c.Members.map qbu)=some L:=hL;rw[hL']at hp;have e1:(l.map dP).map (fun p=>(p.1,p.2.1,encU p.2.2))=l.map fun p=>(p.Kind,p.From,encU p.Trust):=by rw[List.map_map];rfl
 have e2:(c.Members.map qbu).map (List.map encU)=(c.Members.map fun m=>(m.Declared,encU m.Trust)).map fun m:Bool×List D=>if m.1 then [m.2]else []:=by rw[List.map_map,List.map_map];refine List.map_congr_left fun m _=>?_;show(qbu m).map encU=if m.Declared then [encU m.Trust]else [];unfold qbu;split<;>rfl
 rw[e1,e2]at hp;have e3:(L.map (List.map encU)).map (fun l=>D.list (l.map .agg))=L.map q6w:=by rw[List.map_map];refine List.map_congr_left fun d _=>?_;show D.list ((d.map encU).map .agg)=.list (d.map q1t);rw[List.map_map];congr 1;exact List.map_congr_left fun t _=>y7q t
 unfold libA qdg;dsimp only;rw[y6j,qz6,qyo];dsimp only;rw[if_pos ⟨by simp_all,by simp_all⟩,if_pos rfl,hp];dsimp only[Option.map];rw[e3];rfl
theorem q8k{α:Type}:∀{ps:List (Int×Int×α)}{cs:List Int}{ds out:List (List α)},q1e ps cs ds=some out->∀(k:Nat)(t:α),t∈ds.getD k []->t∈out.getD k []
 |[],cs,ds,out,h,k,t,ht=>by simp only[q1e,sI]at h;simp_all|(kd,a,u)::r,[],ds,out,h,_,_,_=>by simp[q1e]at h|(kd,a,u)::r,c::cs,ds,out,h,k,t,ht=>by
  simp only[q1e]at h;split at h
  .split at h;·refine q8k h k t ?_;rw[List.getD_eq_getElem?_getD,List.getElem?_modify];rw[List.getD_eq_getElem?_getD]at ht;cases hx:ds[k]? with|none=>rw[hx]at ht;cases ht|some d=>
     rw[hx]at ht;have ht:t∈d:=ht;by_cases e:a.toNat=k;·simp[e,ht]
     .simp[e,ht]
   grind
  .exact q8k h k t ht
theorem qiz{α:Type}{P:α->Prop}:∀{ps:List (Int×Int×α)}{cs:List Int}{ds out:List (List α)}{n:Nat},q1e ps cs ds=some out->(∀p∈ps,P p.2.2)->(∀d∈ds,d.length<=n/\∀t∈d,P t)->∀d∈out,d.length<=n+ps.length/\∀t∈d,P t
 |[],cs,ds,out,n,h,_,hd=>by simp only[q1e,sI]at h;grind|(kd,a,u)::r,[],ds,out,n,h,_,_=>by simp[q1e]at h|(kd,a,u)::r,c::cs,ds,out,n,h,hp,hd=>fun d hdo=>by
  simp only[q1e]at h;have hp':∀p∈r,P p.2.2:=fun p h=>hp p (by grind);have lift:∀{m},(d.length<=m+r.length/\∀t∈d,P t)->m<=n+1->d.length<=n+((kd,a,u)::r).length/\∀t∈d,P t:=fun h hm=>⟨by grind,h.2⟩;split at h
  .split at h;·refine lift (qiz (n:=n+1) h hp' (fun e he=>?_) d hdo) (Nat.le_refl _);obtain⟨i,hi⟩:=List.mem_iff_getElem?.1 he;rw[List.getElem?_modify]at hi;cases hx:ds[i]? with|none=>rw[hx]at hi;cases hi|some x=>
     obtain⟨q1,q2⟩:=hd x (List.mem_of_getElem? hx);rw[hx]at hi;by_cases e':a.toNat=i
     .simp[e']at hi;rw[<-hi];refine⟨by simp;omega,fun t ht=>?_⟩;rcases List.mem_append.1 ht with ht|ht;·exact q2 t ht
      .rw[List.mem_singleton.1 ht];exact hp (kd,a,u) (by simp)
     .simp[e']at hi;rw[<-hi];exact⟨by omega,q2⟩
   grind
  .exact lift (qiz h hp' hd d hdo) (Nat.le_succ _)
theorem qj8{N:Nat}:∀(l:List Play)(m:Meeting)(ds:List (List Trust)),m.Voters.length=N->ds.length=N->∃L,q1e (l.map dP) (playM l m).2 ds=some L
 |[],m,ds,_,_=>⟨ds,by rfl⟩|p::r,m,ds,hm,hd=>by
  rw[playM,List.map_cons];have hlen:(if(stepM m p).2=0 then(stepM m p).1 else m).Voters.length=N:=by
   split;·rename_i h;obtain⟨_,w,e,_⟩:=qb0 h;rw[e];simpa using hm
   omega
  show∃L,q1e ((p.Kind,p.From,p.Trust)::r.map dP) ((stepM m p).2::_) ds=some L;simp only[q1e];by_cases h:p.Kind=3/\(stepM m p).2=0;·rw[if_pos h];obtain⟨ha,_⟩:=qb0 h.2;obtain⟨_,_,_,f1,f2,_⟩:=q3c ha;rw[if_pos ⟨f1,by omega⟩];exact qj8 r _ _ hlen (by simp_all)
  .rw[if_neg h];exact qj8 r _ _ hlen hd
def layD(n ill:Nat)(L:List (List Trust)):Lay:=⟨n,fun a=>a<n/\ill.testBit a=false,fun k t=>t∈L.getD k [],fun _=>True⟩
structure Saf(n ill:Nat)(L:List (List Trust))(q:Nat)(m:Meeting):Prop where
 mt:MtI (layD n ill L) q m.Voters
 good:GoodMt n q m
 il:m.Ill=(ill:Int)ac:∀I,Own (layD n ill L) I->AcI (layD n ill L) I m.Voters
section
variable {n ill q : Nat} {L : List (List Trust)} {m : Meeting}
theorem Saf.up(h:Saf n ill L q m):Saf n ill L (q+1) m:=⟨mt_up h.mt,h.good.up,h.il,h.ac⟩
theorem Saf.calm(hn:n<=10)(h:Saf n ill L q m):∀a:Nat,(layD n ill L).G a->has m.Ill.toNat (a:Int)=false:=fun a ha=>by have ha:a<n/\ill.testBit a=false:=ha;have hp:=q6v hn;rw[h.il,tN,q3m (by omega)];grind
theorem qwc(hn:n<=10)(hq:q<=99000)(h:Saf n ill L q m){p:Play}(hp:p.Kind=3->p.Trust∈L.getD p.From.toNat [])(h0:(stepM m p).2=0):Saf n ill L (q+1) (stepM m p).1:=by have hP:PlayOk (layD n ill L) p:=⟨fun _=>trivial,hp,fun _ _ _=>trivial⟩;obtain⟨s1,s2,s3⟩:=qev h0 h.good.len h.good.sets;obtain⟨g1,_,g3⟩:=quh hn (by omega) h.mt hP (h.calm hn) h0;exact⟨g1,h.good.step hn (by omega) h0,by rw[s2];exact h.il,fun I hO=>g3 I hO (h.ac I hO)⟩
theorem y7k(hn:n<=10)(hq:q<=99000)(m:Meeting)(a b:Nat)(h:Saf n ill L q m)(h0:(stepM m (sendP a b)).2=0):Saf n ill L q (stepM m (sendP a b)).1:=by have hP:PlayOk (layD n ill L) (sendP a b):=⟨fun _=>trivial,(fun e=>by cases e),fun _ _ _=>trivial⟩;obtain⟨_,_,g3⟩:=quh hn (by omega) h.mt hP (h.calm hn) h0;obtain⟨_,ho,e,_⟩:=q8j h0;exact⟨y55 (P:=layD n ill L) hn (by omega) h.mt h0,h.good.send hn (by omega) h0,by rw[e];exact h.il,fun I hO=>g3 I hO (h.ac I hO)⟩
theorem qnz(hn:n<=10):∀(l:List Play)(q:Nat)(m:Meeting)(ds:List (List Trust)),q+l.length<=99000->q1e (l.map dP) (playM l m).2 ds=some L->Saf n ill L q m->Saf n ill L (q+l.length) (playM l m).1
 |[],q,m,ds,_,_,h=>h|p::r,q,m,ds,hq,hL,h=>by
  rw[List.length_cons]at hq⊢;rw[playM,List.map_cons]at hL;have hL:q1e ((p.Kind,p.From,p.Trust)::r.map dP) ((stepM m p).2::(playM r (if(stepM m p).2=0 then(stepM m p).1 else m)).2) ds=some L:=hL;rw[playM,show q+(r.length+1)=q+1+r.length by omega];simp only[q1e]at hL;by_cases h3:p.Kind=3/\(stepM m p).2=0
  .rw[if_pos h3]at hL;split at hL;·rename_i hb;have hin:p.Trust∈L.getD p.From.toNat []:=q8k hL _ _ (by rw[List.getD_eq_getElem?_getD,List.getElem?_modify];obtain⟨d,hd⟩:∃d,ds[p.From.toNat]?=some d:=⟨ds[p.From.toNat]'(by omega),by simp⟩;rw[hd];simp);refine qnz hn r (q+1) _ _ (by omega) hL ?_;rw[if_pos h3.2];exact qwc hn (by omega) h (fun _=>hin) h3.2
   simp_all
  .rw[if_neg h3]at hL;refine qnz hn r (q+1) _ _ (by omega) hL ?_;split;·rename_i h0;exact qwc hn (by omega) h (fun e=>absurd ⟨e,h0⟩ h3) h0
   .exact h.up
end
theorem qn6{c:Config}(hd:∀m∈c.Members,m.Declared=true){k:Nat}(hk:k<c.Members.length):(c.Members.map qbu).getD k []=[tr c k]:=by
 rw[List.getD_eq_getElem?_getD,List.getElem?_map];have:c.Members[k]?=some c.Members[k]:=by simp[hk]
 rw[this];show qbu c.Members[k]=_;unfold qbu;rw[if_pos (hd _ (List.getElem_mem hk))];unfold tr;simp_all
theorem yd3{N:Nat}(hN:N<=10){c:Config}(hc:ConfOk N c)(hd:∀m∈c.Members,m.Declared=true){ill:Nat}(hill:ill<2^c.Members.length){l:List Play}(hl:l.length<=400){L:List (List Trust)}(hL:declL c l (runM c ill l).2=some L):Saf c.Members.length ill L (1+l.length) (runM c ill l).1:=by
 have hle:=hc.le;have hn:c.Members.length<=10:=by omega
 refine qnz hn l 1 _ _ (by omega) hL ⟨qx3 hN hc hd rfl fun b hb _=>?_,qg6 hN hc hd hill,rfl,fun I hO k y hk hy=>?_⟩;·show tr c b∈L.getD b [];exact q8k hL b _ (by rw[qn6 hd hb];simp)
 .exfalso;have hk':=(hO.sub k hk).2;rw[qpt c hk']at hy;cases hy
theorem qbf{α:Type}:∀{ps:List (Int×Int×α)}{cs:List Int}{ds out:List (List α)},q1e ps cs ds=some out->out.length=ds.length
 |[],cs,ds,out,h=>by simp only[q1e,sI]at h;rw[h]|(k,a,t)::r,[],ds,out,h=>by simp[q1e]at h|(k,a,t)::r,c::cs,ds,out,h=>by
  simp only[q1e]at h;split at h
  .split at h;·rw[qbf h,List.length_modify]
   grind
  .exact qbf h
structure DeclOk(n:Nat)(L:List (List Trust)):Prop where
 len:L.length=n
 some:∀k,k<n->L.getD k []≠[]small:qso L
theorem ye3{N:Nat}(hN:N<=10){c:Config}(hc:ConfOk N c)(hd:∀m∈c.Members,m.Declared=true){ill:Nat}{l:List Play}(hl:l.length<=400)(hp:∀p∈l,SmallP p):∃L,declL c l (runM c ill l).2=some L/\DeclOk c.Members.length L:=by
 obtain⟨L,hL⟩:=qj8 (N:=c.Members.length) l ⟨q4y c,0,(ill:Int)⟩ (c.Members.map qbu) (qgr c) (by simp);refine⟨L,hL,by rw[qbf hL];simp,fun k hk h0=>?_,fun x hx=>?_⟩;·have:=q8k hL k (tr c k) (by rw[qn6 hd hk];simp);simp_all
 .obtain⟨h1,h2⟩:=qiz (P:=Small) (n:=1) hL (fun p hp'=>by obtain⟨q,hq,rfl⟩:=List.mem_map.1 hp';exact(hp q hq).tr) (fun d hd'=>by obtain⟨m,hm,rfl⟩:=List.mem_map.1 hd';unfold qbu;rw[if_pos (hd m hm)];refine⟨Nat.le_refl _,fun t ht=>?_⟩;rw[List.mem_singleton.1 ht];exact(hc.smallC hN).2 m hm) x hx;grind
structure JoinD(n:Nat)(L:List (List Trust))(lo hi:Config):Prop where
 pair:PairOk n lo hi
 len:lo.Members.length=n
 low:∀k s,k<n->(sat s (tr lo k)=true↔∃t∈L.getD k [],sat s t=true)high:∀k s,k<n->(sat s (tr hi k)=true↔∀t∈L.getD k [],sat s t=true)decl:∀k,k<n->(decl lo).testBit k=true
theorem y5h{a:Bool}{L:List (List Trust)}{k:Nat}(hk:k<L.length):tr (joinC a L) k=(memJ a (diffs (L.getD k []))).Trust:=by unfold tr;rw[qc2,List.getD_eq_getElem?_getD];simp_all
theorem yb6{n:Nat}(h1:1<=n)(hn:n<=10){L:List (List Trust)}(hL:DeclOk n L)(e0:joinE false L=0)(e1:joinE true L=0):JoinD n L (joinC false L) (joinC true L):=by
 have hl:=hL.len;have hdf:∀k,k<n->diffs (L.getD k [])≠[]/\∀y,y∈diffs (L.getD k [])↔y∈L.getD k []:=fun k hk=>by
  have hm:L.getD k []∈L:=by simp_all
  obtain⟨_,_,h⟩:=qob (hL.small _ hm).1 (hL.small _ hm).2;refine⟨fun e=>hL.some k hk ?_,h⟩;cases hx:L.getD k []with|nil=>rfl|cons t r=>have:=(h t).2 (by rw[hx];simp);simp_all
 refine⟨by have:=y30 (n:=n) (by omega) (by omega) e0 e1;omega,by rw[q51,hl],fun k s hk=>?_,fun k s hk=>?_,fun k hk=>?_⟩;·obtain⟨g1,g2⟩:=hdf k hk;rw[y5h (by omega),qz2 g1];simp_all
 .obtain⟨g1,g2⟩:=hdf k hk;rw[y5h (by omega),qqy g1];simp_all
 .obtain⟨g1,_⟩:=hdf k hk;have hg:(joinC false L).Members[k]?=some (memJ false (diffs (L.getD k []))):=by rw[qc2,List.getD_eq_getElem?_getD,show L[k]?=some (L[k]'(by omega))by simp];rfl
  rw[qom hg (by omega)];match hx:diffs (L.getD k [])with|[]=>simp_all|[x]=>rfl|x::y::r=>rfl
section
variable {n ill : Nat} {L : List (List Trust)} {lo hi : Config}
theorem ycx(hn:n<=10)(hJ:JoinD n L lo hi){b:Nat}(hs:q7p lo b=false):Meets (layD n ill L) (ndiff (full lo) b):=by
 have hl:=hJ.len;have hI:∀k,(ndiff (full lo) b).testBit k=true↔k<n/\b.testBit k=false:=fun k=>by rw[q0c,aT,Bool.not_eq_true',qej,dT',hl]
 have key:∀U,QuoI (layD n ill L) (ndiff (full lo) b) U->QL lo b (U&&&ndiff (full lo) b):=fun U⟨⟨a,ha,hau⟩,hq⟩=>by
  refine⟨nz.2 ⟨a,by rw[Nat.testBit_and,hau,ha];rfl⟩,fun k hk=>?_,fun k hk=>?_,fun k hk=>?_⟩;all_goals rw[Nat.testBit_and,aT]at hk;obtain⟨hk1,hk2⟩:=(hI k).1 hk.2
  .exact hJ.decl k hk1
  .exact hk2
  .obtain⟨t,ht,hst⟩:=hq k hk.2 hk.1;have h1:sat U (tr lo k)=true:=(hJ.low k U hk1).2 ⟨t,ht,hst⟩;have h2:sat (U&&&full lo) (tr lo k)=sat U (tr lo k):=qwa hJ.pair.lok (by omega) (hJ.decl k hk1) fun i hi=>by rw[Nat.testBit_and,hi,Bool.and_true]
   refine qg1 (fun i hi=>?_) (h2.trans h1);rw[Nat.testBit_and,aT]at hi;rw[Nat.testBit_or,Nat.testBit_and,Bool.or_eq_true,aT,hI];have:=hi.2;rw[qej,dT',hl]at this;cases hx:b.testBit i with|true=>exact .inr rfl|false=>exact .inl ⟨hi.1,this,rfl⟩
 intro U V hU hV;obtain⟨k,k1,k2⟩:=qjm (by omega) hs (key U hU) (key V hV);grind
theorem own_d(hJ:JoinD n L lo hi){b:Nat}(hb:Sub ill b)(hq:∀k,(ndiff (full lo) b).testBit k=true->sat (ndiff (full lo) b) (tr hi k)=true):Own (layD n ill L) (ndiff (full lo) b):=by
 have hl:=hJ.len;have hI:∀k,(ndiff (full lo) b).testBit k=true↔k<n/\b.testBit k=false:=fun k=>by rw[q0c,aT,Bool.not_eq_true',qej,dT',hl]
 refine⟨fun k hk=>?_,fun k t hk ht=>?_⟩;·obtain⟨h1,h2⟩:=(hI k).1 hk;refine⟨⟨h1,?_⟩,h1⟩;cases hx:ill.testBit k with|false=>rfl|true=>rw[hb k hx]at h2;omega
 .exact(hJ.high k _ ((hI k).1 hk).1).1 (hq k hk) t ht
end
theorem y2a{N:Nat}(hN:N<=7){c:Config}(hc:ConfOk N c)(hd:∀m∈c.Members,m.Declared=true){ill:Nat}(hill:ill<2^c.Members.length){l:List Play}(hl:l.length<=400)(hp:∀p∈l,SmallP p):∃L lo hi ok,declL c l (runM c ill l).2=some L/\law20_pair c (ill:Int) l=some (lo,hi,ok)/\q1b lo/\q1b hi/\(ok=true->JoinD c.Members.length L lo hi/\pairE lo hi=0):=by
 obtain⟨L,hL,hD⟩:=ye3 (N:=N) (by omega) hc hd (ill:=ill) hl hp;have hle:=hc.le;have hpos:=hc.pos;have hr:=qzg (yei (N:=N) (by omega) hc hd hill hl hp) (by omega) (by omega) hL;have hlen:=hD.len;have hlow:=yct hD.small (by omega);have hhigh:=y8m hD.small (by omega);have hsm:∀a,q1b (joinR a L).1:=fun a=>by
  unfold joinR;split;·rename_i h;exact((q28.1 (qgk h).2.2).conf (n:=10) (by rw[q51];omega) (by rw[q51];omega)).smallC (by decide)
  .exact⟨by simp,fun m h=>by cases h⟩
 refine⟨L,(joinR false L).1,(joinR true L).1,decide (joinE false L=0/\joinE true L=0),hL,?_,hsm _,hsm _,fun h=>?_⟩
 .apply law20_pair_le;rw[hr,bS];dsimp only;rw[hlow,hhigh,bS,bS,q0g,cT];by_cases e0:joinE false L=0
  .have r0:joinR false L=(joinC false L,0):=by unfold joinR;simp_all
   rw[r0];dsimp only;rw[q0g,cT];by_cases e1:joinE true L=0
   .have r1:joinR true L=(joinC true L,0):=by unfold joinR;simp_all
    have hJ:=yb6 hpos (by omega) hD e0 e1;have hp0:pairE (joinC false L) (joinC true L)=0:=y4q hJ.pair (by omega);have hv:=qj9 (lo:=joinC false L) (hi:=joinC true L) (by simp_all) (by simp_all);rw[r1];dsimp only;rw[q0g,cT,hv,hp0,bS,q0g,decide_eq_true ⟨e0,e1⟩]
   .have r1:(joinR true L).2=joinE true L:=by unfold joinR;simp_all
    rw[r1,q0i e1,cF,decide_eq_false (fun h=>e1 h.2)]
  .have r0:(joinR false L).2=joinE false L:=by unfold joinR;simp_all
   rw[r0,q0i e0,cF,decide_eq_false (fun h=>e0 h.1)]
 .have h:=of_decide_eq_true h;have hJ:=yb6 hpos (by omega) hD h.1 h.2;have r0:joinR false L=(joinC false L,0):=by unfold joinR;simp_all
  have r1:joinR true L=(joinC true L,0):=by unfold joinR;simp_all
  rw[r0,r1];exact⟨hJ,y4q hJ.pair (by omega)⟩
structure RunD(c:Config)(ill:Nat)(ps:List Play)(L:List (List Trust))(m m2:Meeting):Prop where
 run:z4c c (ill:Int) ps=some (m,(runM c ill ps).2,0)calm:z6v m=some (m2,0)saf:Saf c.Members.length ill L (1+ps.length) m
 saf2:Saf c.Members.length ill L (1+ps.length) m2
 still:Still c.Members.length m2
theorem run_d{c:Config}{ill:Nat}{ps:List Play}(P:Party 5 30 true c ill ps):∃L lo hi ok m m2,RunD c ill ps L m m2/\law20_pair c (ill:Int) ps=some (lo,hi,ok)/\q1b lo/\q1b hi/\(ok=true->JoinD c.Members.length L lo hi/\pairE lo hi=0):=by
 have hpos:=P.conf.pos;have hle:=P.conf.le;have hN:c.Members.length<=10:=by omega
 have hl:=P.len;have hsm:∀p∈ps,SmallP p:=fun p hp=>(P.plays p hp).small;have hr:=y37 (N:=5) (by decide) P.conf P.decl P.ill (by omega) hsm;obtain⟨L,lo,hi,ok,hL,hp,s1,s2,hok⟩:=y2a (N:=5) (by decide) P.conf P.decl P.ill (by omega) hsm;have hS:=yd3 (N:=5) (by decide) P.conf P.decl P.ill (l:=ps) (by omega) hL;obtain⟨n,k1,k2⟩:=y8f hN hpos (by omega) hS.good;have hS2:=qje (K:=fun m=>Saf c.Members.length ill L (1+ps.length) m) (y7k hN (by omega)) (q2d c.Members.length (runM c ill ps).1) n _ hS;exact⟨L,lo,hi,ok,_,_,⟨hr,k1,hS,hS2,k2⟩,hp,s1,s2,hok⟩
theorem yap{S:List Voter}{w:List Nat}(hw:w.length<=10)(hS:∀k∈w,k<S.length/\(atV S k).Accepts.length<1000000)(hc:∀a∈w,∀b∈w,∀x∈(atV S a).Accepts,∀y∈(atV S b).Accepts,¬Contra x y)(a9:List Int)(a11:Int)(a13:List Member)(a15:List Voter)(a17 a19 a23 a25:Int)(a27 a29:List Member):∀(suf:List Nat)(i:Nat)(acc:List Claim),w.drop i=suf->acc.length<=1000->(∀x∈acc,∃k∈w,x∈(atV S k).Accepts)->z19 acc (w.map Int.ofNat) ((w.length:Nat):Int) (i:Int) a9 a11 a13 a15 a17 a19 S a23 a25 a27 a29=some true
 |[],i,acc,hd,ha,hx=>by apply y9f;rw[q0d hd,cF,qij acc (by omega),bS,q40.2 fun x h y h'=>by grind,cT,qtn];rfl|k::suf,i,acc,hd,ha,hx=>by
  have hlt:=q09 hd;have hd':(w.map Int.ofNat).drop i=(k:Int)::suf.map Int.ofNat:=by rw[<-List.map_drop,hd];rfl
  have hk:=List.mem_of_mem_drop (i:=i) (by rw[hd];simp:k∈w.drop i);obtain⟨g1,g2⟩:=hS k hk;have hu:=q6z acc (atV S k).Accepts (by omega) g2;apply y9f;rw[q03 (by omega),cT,q04 hd',q0j (y:=atV S k) (by omega) (by rw[tN];exact q2f g1),hu,bS,q02 (by omega)];refine yap hw hS hc a9 a11 a13 a15 a17 a19 a23 a25 a27 a29 suf (i+1) _ (q01 hd) (by have:=q2w (acc++(atV S k).Accepts);omega) fun x h=>?_;rcases List.mem_append.1 (q1a.1 h).2 with h|h;·exact hx x h
  grind
theorem yjm{S:List Voter}{w:List Nat}(hw:w.length<=10)(hS:∀k∈w,k<S.length/\(atV S k).Accepts.length<1000000)(hc:∀a∈w,∀b∈w,∀x∈(atV S a).Accepts,∀y∈(atV S b).Accepts,¬Contra x y)(a9:List Int)(a11:Int)(a13:List Member)(a15:List Voter)(a17 a19 a23 a25:Int)(a27 a29:List Member):z1r [] (w.map Int.ofNat) ((w.length:Nat):Int) ((0:Nat):Int) a9 a11 a13 a15 a17 a19 S a23 a25 a27 a29=some true:=by cases w with|nil=>apply yb5;rw[q0d rfl,cF,qij [] (by simp),bS,qtn];rfl|cons k r=>obtain⟨g1,g2⟩:=hS k (by simp);have hu:=q6z [] (atV S k).Accepts (by simp) g2;have hd':((k::r).map Int.ofNat).drop 0=(k:Int)::r.map Int.ofNat:=rfl;apply yb5;rw[q03 (by simp),cT,q04 hd',q0j (y:=atV S k) (by omega) (by rw[tN];exact q2f g1),hu,bS,q02 (by omega)];refine yap hw hS hc a9 a11 a13 a15 a17 a19 a23 a25 a27 a29 r (0+1) _ rfl (by have:=q2w ([]++(atV S k).Accepts);omega) fun x h=>?_;exact⟨k,by simp,by have:=(q1a.1 h).2;simp_all⟩
theorem y70{n ill z:Nat}{L:List (List Trust)}{lo hi:Config}(hn:n<=7)(hJ:JoinD n L lo hi)(hz:z<2^n)(hiz:Sub ill z)(h0:inta lo hi z≠0):Meets (layD n ill L) (inta lo hi z)/\Own (layD n ill L) (inta lo hi z)/\∀k,(inta lo hi z).testBit k=true->k<n/\z.testBit k=false:=by have hl:=hJ.len;have hsub:Sub z (full lo):=qdf.1 (by simp_all);have hbi:=yee (hi:=hi) hsub;obtain⟨hs,hq⟩:=qn0 hJ.pair (by omega) hsub h0;have hb:=(q6i.1 (y3k hJ.pair (by omega) hsub hs)).2.2;obtain⟨_,hsb⟩:=(qd6 hJ.pair (by omega)).1 hb;refine⟨ycx (by omega) hJ hsb,own_d hJ (fun k hk=>hbi k (hiz k hk)) hq.2.2,fun k hk=>?_⟩;unfold inta at hk;rw[q0c,aT,Bool.not_eq_true',qej,dT',hl]at hk;refine⟨hk.1,?_⟩;cases hx:z.testBit k with|false=>rfl|true=>rw[hbi k hx]at hk;grind
theorem qzz{s n:Nat}(hs:s<2^n)(hn:n<=10):∀k,k∈nodes s↔s.testBit k=true:=fun k=>by have hp:=q6v hn;rw[q4j];exact⟨fun h=>h.1,fun h=>⟨h,q4z (by omega) h⟩⟩
theorem qph:∀t,law20_AssemblyAccepts t=some true:=by
 intro t;obtain⟨l,h0,h1⟩:=yj1 t;obtain⟨c,ill,ps,j,g0,P,t0⟩:=y7t (n:=5) (k:=30) (by decide) (by decide) (by decide) (d:=true) h1;have g0:law20_party 5 30 true l 0=_:=g0;have hpos:=P.conf.pos;have hle:=P.conf.le;have hN:c.Members.length<=10:=by omega
 have hp2:=q6v hN;obtain⟨L,lo,hi,ok,m,m2,R,hp,s1,s2,hok⟩:=run_d P;have hpl:=P.len;have hl2:=R.saf2.good.len;apply law20_AssemblyAccepts_le;rw[h0,bS];dsimp only;rw[g0,bS];dsimp only;rw[R.run,bS];dsimp only;rw[R.calm,bS];dsimp only;rw[q0h,cF,cF,show m2.Voters.length=c.Members.length from hl2,q0h,cF,hp,bS];dsimp only;cases ok with|false=>rw[Bool.not_false,cT,qtn];rfl|true=>
  obtain⟨hJ,hp0⟩:=hok rfl;have hll:=hJ.len;have hlt:inta lo hi ill<2^c.Members.length:=by rw[<-hll];exact qdf.2 (y6x lo hi ill)
  have hof:z91 lo hi (ill:Int)=some (((inta lo hi ill:Nat):Int),0):=by rw[yid s1 s2,y7y hp0 (by rw[hll];exact P.ill)]
  have hnb:=qzz hlt hN;have hI:∀k,(inta lo hi ill).testBit k=true->Meets (layD c.Members.length ill L) (inta lo hi ill)/\Own (layD c.Members.length ill L) (inta lo hi ill)/\k<c.Members.length:=fun k hk=>by obtain⟨q1,q2,q3⟩:=y70 (n:=c.Members.length) (ill:=ill) (by omega) hJ P.ill (fun _ h=>h) (nz.2 ⟨k,hk⟩);simp_all
  rw[nT,cF,hof,bS];dsimp only;rw[qo9 (by omega),bS,List.length_map];exact yjm (q8m _) (fun k hk=>by have:=(hI k ((hnb k).1 hk)).2.2;refine⟨by omega,?_⟩;obtain⟨hr,_⟩:=q0r.1 (R.saf2.mt.all k this).valid;have:=hr.alen;omega) (fun a ha b hb x hx y hy=>by obtain⟨q1,q2,_⟩:=hI a ((hnb a).1 ha);exact y1b R.saf2.mt q2 (R.saf2.ac _ q2) q1 ((hnb a).1 ha) ((hnb b).1 hb) hx hy) _ _ _ _ _ _ _ _ _ _
end Go.Proofs.YtdmfjabikomgiaaGreat
namespace Go.Proofs.YtdmfjabikomgiaaGreat
open Go Go.Ab Go.ChangeShapes Go.WideShapes Go.ChangeAt Go.WideMaps Go.WideElems Go.RowKit
theorem Tryz.own:ownKnob Tryz.prog.godebug=none:=by kernel_rfl
theorem Tryz.laidOut:laidOutB Tryz.prog=true:=by kernel_rfl
theorem y4x{f:Nat}(hlaw:∀zs:List Int,(∀z∈zs,(Lit.int .i64 z).wf=true)->∃n h',call env n f [.d (ints .i64 zs)] []=some (.d (.v (.bool true)),h')){W:World}{v:Value}{zs:List Int}(hz:∀z∈zs,(Lit.int .i64 z).wf=true)(hv:Rep W qfz (ints .i64 zs) v):Calls Tryz.prog f #[v] W fun e w'=>e=.returned (.bool true)/\Below W.heap.size W w':=by obtain⟨n,h',hc⟩:=hlaw zs hz;exact top (E:=env) (yi6 n) (fun g cs hg=>by cases hg) (ds:=[ints .i64 zs]) hc rfl (fun i d hd=>by cases i with|zero=>simp at hd;subst hd;exact hv|succ i=>simp at hd)
end Go.Proofs.YtdmfjabikomgiaaGreat
