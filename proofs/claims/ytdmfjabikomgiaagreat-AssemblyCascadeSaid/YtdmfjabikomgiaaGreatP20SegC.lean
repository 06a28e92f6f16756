/- Laws of the printed functions. -/
import Derived.Test.YtdmfjabikomgiaaGreatP20SegB
import Derived.Test.YtdmfjabikomgiaaGreatP20SegA
import Derived.Test.YtdmfjabikomgiaaGreatRows
import Derived.ProofKit
import Derived.LaidMore
import Derived.OpenShut
import Derived.Stop.Joined
namespace Go.Proofs.YtdmfjabikomgiaaGreat
open Go Go.Ab
end Go.Proofs.YtdmfjabikomgiaaGreat
namespace Go.Proofs.YtdmfjabikomgiaaGreat
open Go Go.Ab
section
variable {v w : Voter} {a b n n2 ai bi st il lc : Int} {S1 S2 S3 : List Voter} {C : List Claim}
end
end Go.Proofs.YtdmfjabikomgiaaGreat
namespace Go.Proofs.YtdmfjabikomgiaaGreat
open Go Go.Ab
end Go.Proofs.YtdmfjabikomgiaaGreat
namespace Go.Proofs.YtdmfjabikomgiaaGreat
open Go Go.Ab
def dP(p:Play):Int×Int×Trust:=(p.Kind,p.From,p.Trust)
def qbr(m:Member):List Trust:=if m.Declared then [m.Trust]else []
def declL(c:Config)(l:List Play)(cs:List Int):Option (List (List Trust)):=q1e (l.map dP) cs (c.Members.map qbr)
theorem qna{α β:Type}(f:α->β)(g:α->α)(h:β->β)(k:∀a,f (g a)=h (f a)):∀(l:List α)(n:Nat),(l.modify n g).map f=(l.map f).modify n h|[],n=>by cases n<;>rfl|a::l,0=>by simp_all|a::l,n+1=>by show f a::(l.modify n g).map f=f a::(l.map f).modify n h;rw[qna f g h k l n]
theorem qk4{α β:Type}(f:α->β):∀(ps:List (Int×Int×α))(cs:List Int)(ds:List (List α)),q1e (ps.map fun p=>(p.1,p.2.1,f p.2.2)) cs (ds.map (List.map f))=(q1e ps cs ds).map (List.map (List.map f))
 |[],cs,ds=>by rfl|(k,a,t)::r,[],ds=>by rfl|(k,a,t)::r,c::cs,ds=>by
  simp only[List.map_cons,q1e,List.length_map];by_cases h:k=3/\c=0
  .rw[if_pos h,if_pos h];by_cases h2:0<=a/\a<ds.length;·rw[if_pos h2,if_pos h2,<-qna (List.map f) (·++[t]) (·++[f t]) (fun l=>by simp)];exact qk4 f r cs _
   grind
  .rw[if_neg h,if_neg h];exact qk4 f r cs ds
def encU(t:Trust):List D:=[.v (.int .i64 t.Threshold),.list (t.Nodes.map q4r),.list (t.Inner.map q1t)]
theorem y88(t:Trust):D.agg (encU t)=q1t t:=by cases t;simp[encU,q1t,q98]
theorem y36:∀l:List Member,allOf memD (l.map q47)=some (l.map fun m=>(m.Declared,encU m.Trust))|[]=>rfl|m::l=>by have h:memD (q47 m)=some (m.Declared,encU m.Trust):=rfl;rw[List.map_cons,allOf,h,y36 l];rfl
theorem qzf:∀l:List Play,allOf playD (l.map q9r)=some (l.map fun p=>(p.Kind,p.From,encU p.Trust))|[]=>rfl|p::l=>by have h:playD (q9r p)=some (p.Kind,p.From,encU p.Trust):=rfl;rw[List.map_cons,allOf,h,qzf l];rfl
theorem qyj:∀l:List Int,allOf codeD (l.map q4r)=some l|[]=>rfl|c::l=>by have h:codeD (q4r c)=some c:=rfl;rw[List.map_cons,allOf,h,qyj l]
theorem qzr{c:Config}{ill:Nat}{l:List Play}{m:Meeting}{cs:List Int}{L:List (List Trust)}(hr:z97 c (ill:Int) l=some (m,cs,0))(hn:c.Members.length<=1000)(hl:l.length<=1000)(hL:declL c l cs=some L):z9i c (ill:Int) l=some (L,0):=by
 refine y24 (T:=tn) (m:=y6m) (g:=43) (k:=qdd) (og:=⟨[.ag .Meeting,.lf (.l .i64),.lf (.i .i64)],[]⟩) sigOk (by rfl) rfl rfl (y:=((m,cs,(0:Int)):Meeting×List Int×Int)) hr rfl ?_;show libA (qdd (.tup [.d (.agg [.list (m.Voters.map q7c),.v (.int .i64 m.Stopped),.v (.int .i64 m.Ill)]),.d (.list (cs.map q4r)),.d (.v (.int .i64 0))])) [.d (.agg [.list (c.Members.map q47)]),.d (.v (.int .i64 ill)),.d (.list (l.map q9r))] []=some (.tup [.d (.list (L.map q75)),.d (.v (.int .i64 0))],[]);have hp:=qk4 encU (l.map dP) cs (c.Members.map qbr);have hL':q1e (l.map dP) cs (c.Members.map qbr)=some L:=hL;rw[hL']at hp;have e1:(l.map dP).map (fun p=>(p.1,p.2.1,encU p.2.2))=l.map fun p=>(p.Kind,p.From,encU p.Trust):=by rw[List.map_map];rfl
 have e2:(c.Members.map qbr).map (List.map encU)=(c.Members.map fun m=>(m.Declared,encU m.Trust)).map fun m:Bool×List D=>if m.1 then [m.2]else []:=by rw[List.map_map,List.map_map];refine List.map_congr_left fun m _=>?_;show(qbr m).map encU=if m.Declared then [encU m.Trust]else [];unfold qbr;split<;>rfl
 rw[e1,e2]at hp;have e3:(L.map (List.map encU)).map (fun l=>D.list (l.map .agg))=L.map q75:=by rw[List.map_map];refine List.map_congr_left fun d _=>?_;show D.list ((d.map encU).map .agg)=.list (d.map q1t);rw[List.map_map];congr 1;exact List.map_congr_left fun t _=>y88 t
 unfold libA qdd;dsimp only;rw[y36,qzf,qyj];dsimp only;rw[if_pos ⟨by simp_all,by simp_all⟩,if_pos rfl,hp];dsimp only[Option.map];rw[e3];rfl
theorem q8s{α:Type}:∀{ps:List (Int×Int×α)}{cs:List Int}{ds out:List (List α)},q1e ps cs ds=some out->∀(k:Nat)(t:α),t∈ds.getD k []->t∈out.getD k []
 |[],cs,ds,out,h,k,t,ht=>by simp only[q1e,sI]at h;simp_all|(kd,a,u)::r,[],ds,out,h,_,_,_=>by simp[q1e]at h|(kd,a,u)::r,c::cs,ds,out,h,k,t,ht=>by
  simp only[q1e]at h;split at h
  .split at h;·refine q8s h k t ?_;rw[List.getD_eq_getElem?_getD,List.getElem?_modify];rw[List.getD_eq_getElem?_getD]at ht;cases hx:ds[k]? with|none=>rw[hx]at ht;cases ht|some d=>
     rw[hx]at ht;have ht:t∈d:=ht;by_cases e:a.toNat=k;·simp[e,ht]
     .simp[e,ht]
   grind
  .exact q8s h k t ht
theorem qjb{α:Type}{P:α->Prop}:∀{ps:List (Int×Int×α)}{cs:List Int}{ds out:List (List α)}{n:Nat},q1e ps cs ds=some out->(∀p∈ps,P p.2.2)->(∀d∈ds,d.length<=n/\∀t∈d,P t)->∀d∈out,d.length<=n+ps.length/\∀t∈d,P t
 |[],cs,ds,out,n,h,_,hd=>by simp only[q1e,sI]at h;grind|(kd,a,u)::r,[],ds,out,n,h,_,_=>by simp[q1e]at h|(kd,a,u)::r,c::cs,ds,out,n,h,hp,hd=>fun d hdo=>by
  simp only[q1e]at h;have hp':∀p∈r,P p.2.2:=fun p h=>hp p (by grind);have lift:∀{m},(d.length<=m+r.length/\∀t∈d,P t)->m<=n+1->d.length<=n+((kd,a,u)::r).length/\∀t∈d,P t:=fun h hm=>⟨by grind,h.2⟩;split at h
  .split at h;·refine lift (qjb (n:=n+1) h hp' (fun e he=>?_) d hdo) (Nat.le_refl _);obtain⟨i,hi⟩:=List.mem_iff_getElem?.1 he;rw[List.getElem?_modify]at hi;cases hx:ds[i]? with|none=>rw[hx]at hi;cases hi|some x=>
     obtain⟨q1,q2⟩:=hd x (List.mem_of_getElem? hx);rw[hx]at hi;by_cases e':a.toNat=i
     .simp[e']at hi;rw[<-hi];refine⟨by simp;omega,fun t ht=>?_⟩;rcases List.mem_append.1 ht with ht|ht;·exact q2 t ht
      .rw[List.mem_singleton.1 ht];exact hp (kd,a,u) (by simp)
     .simp[e']at hi;rw[<-hi];exact⟨by omega,q2⟩
   grind
  .exact lift (qjb h hp' hd d hdo) (Nat.le_succ _)
theorem qlb{N:Nat}:∀(l:List Play)(m:Meeting)(ds:List (List Trust)),m.Voters.length=N->ds.length=N->∃L,q1e (l.map dP) (playM l m).2 ds=some L
 |[],m,ds,_,_=>⟨ds,by rfl⟩|p::r,m,ds,hm,hd=>by
  rw[playM,List.map_cons];have hlen:(if(stepM m p).2=0 then(stepM m p).1 else m).Voters.length=N:=by
   split;·rename_i h;obtain⟨_,w,e,_⟩:=qby h;rw[e];simpa using hm
   omega
  show∃L,q1e ((p.Kind,p.From,p.Trust)::r.map dP) ((stepM m p).2::_) ds=some L;simp only[q1e];by_cases h:p.Kind=3/\(stepM m p).2=0;·rw[if_pos h];obtain⟨ha,_⟩:=qby h.2;obtain⟨_,_,_,f1,f2,_⟩:=q3h ha;rw[if_pos ⟨f1,by omega⟩];exact qlb r _ _ hlen (by simp_all)
  .rw[if_neg h];exact qlb r _ _ hlen hd
def layD(n ill:Nat)(L:List (List Trust)):Lay:=⟨n,fun a=>a<n/\ill.testBit a=false,fun k t=>t∈L.getD k [],fun _=>True⟩
structure Saf(n ill:Nat)(L:List (List Trust))(q:Nat)(m:Meeting):Prop where
 mt:MtI (layD n ill L) q m.Voters
 good:GoodMt n q m
 il:m.Ill=(ill:Int)ac:∀I,Own (layD n ill L) I->AcI (layD n ill L) I m.Voters
section
variable {n ill q : Nat} {L : List (List Trust)} {m : Meeting}
theorem Saf.up(h:Saf n ill L q m):Saf n ill L (q+1) m:=⟨mt_up h.mt,h.good.up,h.il,h.ac⟩
theorem Saf.calm(hn:n<=10)(h:Saf n ill L q m):∀a:Nat,(layD n ill L).G a->has m.Ill.toNat (a:Int)=false:=fun a ha=>by have ha:a<n/\ill.testBit a=false:=ha;have hp:=q68 hn;rw[h.il,tN,q36 (by omega)];grind
theorem qz5(hn:n<=10)(hq:q<=99000)(h:Saf n ill L q m){p:Play}(hp:p.Kind=3->p.Trust∈L.getD p.From.toNat [])(h0:(stepM m p).2=0):Saf n ill L (q+1) (stepM m p).1:=by have hP:PlayOk (layD n ill L) p:=⟨fun _=>trivial,hp,fun _ _ _=>trivial⟩;obtain⟨s1,s2,s3⟩:=qfp h0 h.good.len h.good.sets;obtain⟨g1,_,g3⟩:=quq hn (by omega) h.mt hP (h.calm hn) h0;exact⟨g1,h.good.step hn (by omega) h0,by rw[s2];exact h.il,fun I hO=>g3 I hO (h.ac I hO)⟩
theorem y7q(hn:n<=10)(hq:q<=99000)(m:Meeting)(a b:Nat)(h:Saf n ill L q m)(h0:(stepM m (sendP a b)).2=0):Saf n ill L q (stepM m (sendP a b)).1:=by have hP:PlayOk (layD n ill L) (sendP a b):=⟨fun _=>trivial,(fun e=>by cases e),fun _ _ _=>trivial⟩;obtain⟨_,_,g3⟩:=quq hn (by omega) h.mt hP (h.calm hn) h0;obtain⟨_,ho,e,_⟩:=q86 h0;exact⟨y4x (P:=layD n ill L) hn (by omega) h.mt h0,h.good.send hn (by omega) h0,by rw[e];exact h.il,fun I hO=>g3 I hO (h.ac I hO)⟩
theorem qo3(hn:n<=10):∀(l:List Play)(q:Nat)(m:Meeting)(ds:List (List Trust)),q+l.length<=99000->q1e (l.map dP) (playM l m).2 ds=some L->Saf n ill L q m->Saf n ill L (q+l.length) (playM l m).1
 |[],q,m,ds,_,_,h=>h|p::r,q,m,ds,hq,hL,h=>by
  rw[List.length_cons]at hq⊢;rw[playM,List.map_cons]at hL;have hL:q1e ((p.Kind,p.From,p.Trust)::r.map dP) ((stepM m p).2::(playM r (if(stepM m p).2=0 then(stepM m p).1 else m)).2) ds=some L:=hL;rw[playM,show q+(r.length+1)=q+1+r.length by omega];simp only[q1e]at hL;by_cases h3:p.Kind=3/\(stepM m p).2=0
  .rw[if_pos h3]at hL;split at hL;·rename_i hb;have hin:p.Trust∈L.getD p.From.toNat []:=q8s hL _ _ (by rw[List.getD_eq_getElem?_getD,List.getElem?_modify];obtain⟨d,hd⟩:∃d,ds[p.From.toNat]?=some d:=⟨ds[p.From.toNat]'(by omega),by simp⟩;rw[hd];simp);refine qo3 hn r (q+1) _ _ (by omega) hL ?_;rw[if_pos h3.2];exact qz5 hn (by omega) h (fun _=>hin) h3.2
   simp_all
  .rw[if_neg h3]at hL;refine qo3 hn r (q+1) _ _ (by omega) hL ?_;split;·rename_i h0;exact qz5 hn (by omega) h (fun e=>absurd ⟨e,h0⟩ h3) h0
   .exact h.up
end
theorem qn4{c:Config}(hd:∀m∈c.Members,m.Declared=true){k:Nat}(hk:k<c.Members.length):(c.Members.map qbr).getD k []=[tr c k]:=by
 rw[List.getD_eq_getElem?_getD,List.getElem?_map];have:c.Members[k]?=some c.Members[k]:=by simp[hk]
 rw[this];show qbr c.Members[k]=_;unfold qbr;rw[if_pos (hd _ (List.getElem_mem hk))];unfold tr;simp_all
theorem yej{N:Nat}(hN:N<=10){c:Config}(hc:ConfOk N c)(hd:∀m∈c.Members,m.Declared=true){ill:Nat}(hill:ill<2^c.Members.length){l:List Play}(hl:l.length<=400){L:List (List Trust)}(hL:declL c l (runM c ill l).2=some L):Saf c.Members.length ill L (1+l.length) (runM c ill l).1:=by
 have hle:=hc.le;have hn:c.Members.length<=10:=by omega
 refine qo3 hn l 1 _ _ (by omega) hL ⟨qz4 hN hc hd rfl fun b hb _=>?_,qh3 hN hc hd hill,rfl,fun I hO k y hk hy=>?_⟩;·show tr c b∈L.getD b [];exact q8s hL b _ (by rw[qn4 hd hb];simp)
 .exfalso;have hk':=(hO.sub k hk).2;rw[qr7 c hk']at hy;cases hy
theorem qbq{α:Type}:∀{ps:List (Int×Int×α)}{cs:List Int}{ds out:List (List α)},q1e ps cs ds=some out->out.length=ds.length
 |[],cs,ds,out,h=>by simp only[q1e,sI]at h;rw[h]|(k,a,t)::r,[],ds,out,h=>by simp[q1e]at h|(k,a,t)::r,c::cs,ds,out,h=>by
  simp only[q1e]at h;split at h
  .split at h;·rw[qbq h,List.length_modify]
   grind
  .exact qbq h
structure DeclOk(n:Nat)(L:List (List Trust)):Prop where
 len:L.length=n
 some:∀k,k<n->L.getD k []≠[]small:qrl L
theorem yda{N:Nat}(hN:N<=10){c:Config}(hc:ConfOk N c)(hd:∀m∈c.Members,m.Declared=true){ill:Nat}{l:List Play}(hl:l.length<=400)(hp:∀p∈l,SmallP p):∃L,declL c l (runM c ill l).2=some L/\DeclOk c.Members.length L:=by
 obtain⟨L,hL⟩:=qlb (N:=c.Members.length) l ⟨q59 c,0,(ill:Int)⟩ (c.Members.map qbr) (qgu c) (by simp);refine⟨L,hL,by rw[qbq hL];simp,fun k hk h0=>?_,fun x hx=>?_⟩;·have:=q8s hL k (tr c k) (by rw[qn4 hd hk];simp);simp_all
 .obtain⟨h1,h2⟩:=qjb (P:=Small) (n:=1) hL (fun p hp'=>by obtain⟨q,hq,rfl⟩:=List.mem_map.1 hp';exact(hp q hq).tr) (fun d hd'=>by obtain⟨m,hm,rfl⟩:=List.mem_map.1 hd';unfold qbr;rw[if_pos (hd m hm)];refine⟨Nat.le_refl _,fun t ht=>?_⟩;rw[List.mem_singleton.1 ht];exact(hc.smallC hN).2 m hm) x hx;grind
structure JoinD(n:Nat)(L:List (List Trust))(lo hi:Config):Prop where
 pair:PairOk n lo hi
 len:lo.Members.length=n
 low:∀k s,k<n->(sat s (tr lo k)=true↔∃t∈L.getD k [],sat s t=true)high:∀k s,k<n->(sat s (tr hi k)=true↔∀t∈L.getD k [],sat s t=true)decl:∀k,k<n->(decl lo).testBit k=true
theorem y74{a:Bool}{L:List (List Trust)}{k:Nat}(hk:k<L.length):tr (joinC a L) k=(memJ a (diffs (L.getD k []))).Trust:=by unfold tr;rw[qb0,List.getD_eq_getElem?_getD];simp_all
theorem ycb{n:Nat}(h1:1<=n)(hn:n<=10){L:List (List Trust)}(hL:DeclOk n L)(e0:joinE false L=0)(e1:joinE true L=0):JoinD n L (joinC false L) (joinC true L):=by
 have hl:=hL.len;have hdf:∀k,k<n->diffs (L.getD k [])≠[]/\∀y,y∈diffs (L.getD k [])↔y∈L.getD k []:=fun k hk=>by
  have hm:L.getD k []∈L:=by simp_all
  obtain⟨_,_,h⟩:=qp5 (hL.small _ hm).1 (hL.small _ hm).2;refine⟨fun e=>hL.some k hk ?_,h⟩;cases hx:L.getD k []with|nil=>rfl|cons t r=>have:=(h t).2 (by rw[hx];simp);simp_all
 refine⟨by have:=y73 (n:=n) (by omega) (by omega) e0 e1;omega,by rw[q51,hl],fun k s hk=>?_,fun k s hk=>?_,fun k hk=>?_⟩;·obtain⟨g1,g2⟩:=hdf k hk;rw[y74 (by omega),qwa g1];simp_all
 .obtain⟨g1,g2⟩:=hdf k hk;rw[y74 (by omega),qqg g1];simp_all
 .obtain⟨g1,_⟩:=hdf k hk;have hg:(joinC false L).Members[k]?=some (memJ false (diffs (L.getD k []))):=by rw[qb0,List.getD_eq_getElem?_getD,show L[k]?=some (L[k]'(by omega))by simp];rfl
  rw[qpa hg (by omega)];match hx:diffs (L.getD k [])with|[]=>simp_all|[x]=>rfl|x::y::r=>rfl
section
variable {n ill : Nat} {L : List (List Trust)} {lo hi : Config}
theorem yd3(hn:n<=10)(hJ:JoinD n L lo hi){b:Nat}(hs:q7r lo b=false):Meets (layD n ill L) (ndiff (full lo) b):=by
 have hl:=hJ.len;have hI:∀k,(ndiff (full lo) b).testBit k=true↔k<n/\b.testBit k=false:=fun k=>by rw[q08,aT,Bool.not_eq_true',qf6,dT',hl]
 have key:∀U,QuoI (layD n ill L) (ndiff (full lo) b) U->QL lo b (U&&&ndiff (full lo) b):=fun U⟨⟨a,ha,hau⟩,hq⟩=>by
  refine⟨nz.2 ⟨a,by rw[Nat.testBit_and,hau,ha];rfl⟩,fun k hk=>?_,fun k hk=>?_,fun k hk=>?_⟩;all_goals rw[Nat.testBit_and,aT]at hk;obtain⟨hk1,hk2⟩:=(hI k).1 hk.2
  .exact hJ.decl k hk1
  .exact hk2
  .obtain⟨t,ht,hst⟩:=hq k hk.2 hk.1;have h1:sat U (tr lo k)=true:=(hJ.low k U hk1).2 ⟨t,ht,hst⟩;have h2:sat (U&&&full lo) (tr lo k)=sat U (tr lo k):=qxg hJ.pair.lok (by omega) (hJ.decl k hk1) fun i hi=>by rw[Nat.testBit_and,hi,Bool.and_true]
   refine qdh (fun i hi=>?_) (h2.trans h1);rw[Nat.testBit_and,aT]at hi;rw[Nat.testBit_or,Nat.testBit_and,Bool.or_eq_true,aT,hI];have:=hi.2;rw[qf6,dT',hl]at this;cases hx:b.testBit i with|true=>exact .inr rfl|false=>exact .inl ⟨hi.1,this,rfl⟩
 intro U V hU hV;obtain⟨k,k1,k2⟩:=qm0 (by omega) hs (key U hU) (key V hV);grind
theorem own_d(hJ:JoinD n L lo hi){b:Nat}(hb:Sub ill b)(hq:∀k,(ndiff (full lo) b).testBit k=true->sat (ndiff (full lo) b) (tr hi k)=true):Own (layD n ill L) (ndiff (full lo) b):=by
 have hl:=hJ.len;have hI:∀k,(ndiff (full lo) b).testBit k=true↔k<n/\b.testBit k=false:=fun k=>by rw[q08,aT,Bool.not_eq_true',qf6,dT',hl]
 refine⟨fun k hk=>?_,fun k t hk ht=>?_⟩;·obtain⟨h1,h2⟩:=(hI k).1 hk;refine⟨⟨h1,?_⟩,h1⟩;cases hx:ill.testBit k with|false=>rfl|true=>rw[hb k hx]at h2;omega
 .exact(hJ.high k _ ((hI k).1 hk).1).1 (hq k hk) t ht
end
theorem y66{N:Nat}(hN:N<=7){c:Config}(hc:ConfOk N c)(hd:∀m∈c.Members,m.Declared=true){ill:Nat}(hill:ill<2^c.Members.length){l:List Play}(hl:l.length<=400)(hp:∀p∈l,SmallP p):∃L lo hi ok,declL c l (runM c ill l).2=some L/\law20_pair c (ill:Int) l=some (lo,hi,ok)/\q1a lo/\q1a hi/\(ok=true->JoinD c.Members.length L lo hi/\pairE lo hi=0):=by
 obtain⟨L,hL,hD⟩:=yda (N:=N) (by omega) hc hd (ill:=ill) hl hp;have hle:=hc.le;have hpos:=hc.pos;have hr:=qzr (ydo (N:=N) (by omega) hc hd hill hl hp) (by omega) (by omega) hL;have hlen:=hD.len;have hlow:=ydx hD.small (by omega);have hhigh:=y8g hD.small (by omega);have hsm:∀a,q1a (joinR a L).1:=fun a=>by
  unfold joinR;split;·rename_i h;exact((q29.1 (qgz h).2.2).conf (n:=10) (by rw[q51];omega) (by rw[q51];omega)).smallC (by decide)
  .exact⟨by simp,fun m h=>by cases h⟩
 refine⟨L,(joinR false L).1,(joinR true L).1,decide (joinE false L=0/\joinE true L=0),hL,?_,hsm _,hsm _,fun h=>?_⟩
 .apply law20_pair_le;rw[hr,bS];dsimp only;rw[hlow,hhigh,bS,bS,q0f,cT];by_cases e0:joinE false L=0
  .have r0:joinR false L=(joinC false L,0):=by unfold joinR;simp_all
   rw[r0];dsimp only;rw[q0f,cT];by_cases e1:joinE true L=0
   .have r1:joinR true L=(joinC true L,0):=by unfold joinR;simp_all
    have hJ:=ycb hpos (by omega) hD e0 e1;have hp0:pairE (joinC false L) (joinC true L)=0:=y64 hJ.pair (by omega);have hv:=qki (lo:=joinC false L) (hi:=joinC true L) (by simp_all) (by simp_all);rw[r1];dsimp only;rw[q0f,cT,hv,hp0,bS,q0f,decide_eq_true ⟨e0,e1⟩]
   .have r1:(joinR true L).2=joinE true L:=by unfold joinR;simp_all
    rw[r1,q0i e1,cF,decide_eq_false (fun h=>e1 h.2)]
  .have r0:(joinR false L).2=joinE false L:=by unfold joinR;simp_all
   rw[r0,q0i e0,cF,decide_eq_false (fun h=>e0 h.1)]
 .have h:=of_decide_eq_true h;have hJ:=ycb hpos (by omega) hD h.1 h.2;have r0:joinR false L=(joinC false L,0):=by unfold joinR;simp_all
  have r1:joinR true L=(joinC true L,0):=by unfold joinR;simp_all
  rw[r0,r1];exact⟨hJ,y64 hJ.pair (by omega)⟩
structure RunD(c:Config)(ill:Nat)(ps:List Play)(L:List (List Trust))(m m2:Meeting):Prop where
 run:z4d c (ill:Int) ps=some (m,(runM c ill ps).2,0)calm:z6x m=some (m2,0)saf:Saf c.Members.length ill L (1+ps.length) m
 saf2:Saf c.Members.length ill L (1+ps.length) m2
 still:Still c.Members.length m2
theorem run_d{c:Config}{ill:Nat}{ps:List Play}(P:Party 5 30 true c ill ps):∃L lo hi ok m m2,RunD c ill ps L m m2/\law20_pair c (ill:Int) ps=some (lo,hi,ok)/\q1a lo/\q1a hi/\(ok=true->JoinD c.Members.length L lo hi/\pairE lo hi=0):=by
 have hpos:=P.conf.pos;have hle:=P.conf.le;have hN:c.Members.length<=10:=by omega
 have hl:=P.len;have hsm:∀p∈ps,SmallP p:=fun p hp=>(P.plays p hp).small;have hr:=y2b (N:=5) (by decide) P.conf P.decl P.ill (by omega) hsm;obtain⟨L,lo,hi,ok,hL,hp,s1,s2,hok⟩:=y66 (N:=5) (by decide) P.conf P.decl P.ill (by omega) hsm;have hS:=yej (N:=5) (by decide) P.conf P.decl P.ill (l:=ps) (by omega) hL;obtain⟨n,k1,k2⟩:=y9j hN hpos (by omega) hS.good;have hS2:=qly (K:=fun m=>Saf c.Members.length ill L (1+ps.length) m) (y7q hN (by omega)) (q1z c.Members.length (runM c ill ps).1) n _ hS;exact⟨L,lo,hi,ok,_,_,⟨hr,k1,hS,hS2,k2⟩,hp,s1,s2,hok⟩
theorem y8j{n ill z:Nat}{L:List (List Trust)}{lo hi:Config}(hn:n<=7)(hJ:JoinD n L lo hi)(hz:z<2^n)(hiz:Sub ill z)(h0:inta lo hi z≠0):Meets (layD n ill L) (inta lo hi z)/\Own (layD n ill L) (inta lo hi z)/\∀k,(inta lo hi z).testBit k=true->k<n/\z.testBit k=false:=by have hl:=hJ.len;have hsub:Sub z (full lo):=qdf.1 (by simp_all);have hbi:=yeh (hi:=hi) hsub;obtain⟨hs,hq⟩:=qmf hJ.pair (by omega) hsub h0;have hb:=(q6g.1 (y26 hJ.pair (by omega) hsub hs)).2.2;obtain⟨_,hsb⟩:=(qdy hJ.pair (by omega)).1 hb;refine⟨yd3 (by omega) hJ hsb,own_d hJ (fun k hk=>hbi k (hiz k hk)) hq.2.2,fun k hk=>?_⟩;unfold inta at hk;rw[q08,aT,Bool.not_eq_true',qf6,dT',hl]at hk;refine⟨hk.1,?_⟩;cases hx:z.testBit k with|false=>rfl|true=>rw[hbi k hx]at hk;grind
theorem y0e{s n:Nat}(hs:s<2^n)(hn:n<=10):∀k,k∈nodes s↔s.testBit k=true:=fun k=>by have hp:=q68 hn;rw[q3s];exact⟨fun h=>h.1,fun h=>⟨h,q55 (by omega) h⟩⟩
section
variable {S : List Voter} {w : List Nat} {F : List Claim} (hw : w.length <= 10) (hF : plainC F = true) (hS : ∀ k ∈ w, k < S.length /\ (atV S k).Confirms = F) (a9 : List Int) (a11 : Int) (a13 : List Member) (a15 : List Voter) (a17 a19 a23 a25 : Int) (a27 a29 : List Member)
include hw hF hS
theorem qwk:∀(suf:List Nat)(i:Nat),w.drop i=suf->z1a F (w.map Int.ofNat) ((w.length:Nat):Int) (i:Int) a9 a11 a13 a15 a17 a19 S a23 a25 a27 a29=some true
 |[],i,hd=>by apply y9z;rw[q0d hd,cF,qun];rfl|k::suf,i,hd=>by
  have hlt:=q09 hd;have hd':(w.map Int.ofNat).drop i=(k:Int)::suf.map Int.ofNat:=by rw[<-List.map_drop,hd];rfl
  obtain⟨g1,g2⟩:=hS k (List.mem_of_mem_drop (i:=i) (by simp_all));have hl:=q2o hF;apply y9z;rw[q03 (by omega),cT,q04 hd',q0j (y:=atV S k) (by omega) (by rw[tN];exact q2b g1),g2,qc5 F (by omega),qgr hF,bS,qkp F F (by omega),decide_eq_true rfl,bS,nT,cF,q02 (by omega)];exact qwk suf (i+1) (q01 hd)
theorem qym{a1:Int}(ha:z35 a1=some (w.map Int.ofNat)):∀(suf:List Nat)(i:Nat),w.drop i=suf->z19 a1 F (w.map Int.ofNat) ((w.length:Nat):Int) (i:Int) a9 a11 a13 a15 a17 a19 S a23 a25 a27 a29=some true
 |[],i,hd=>by apply yd1;rw[q0d hd,cF,ha,bS,List.length_map];exact qwk hw hF hS a9 a11 a13 a15 a17 a19 a23 a25 a27 a29 w 0 rfl|k::suf,i,hd=>by
  have hlt:=q09 hd;have hd':(w.map Int.ofNat).drop i=(k:Int)::suf.map Int.ofNat:=by rw[<-List.map_drop,hd];rfl
  obtain⟨g1,g2⟩:=hS k (List.mem_of_mem_drop (i:=i) (by simp_all));have hl:=q2o hF;apply yd1;rw[q03 (by omega),cT,q04 hd',q0j (y:=atV S k) (by omega) (by rw[tN];exact q2b g1),g2,q6x F F (by omega) (by omega),y57 hF (fun _ h=>h),bS,q02 (by omega)];exact qym ha suf (i+1) (q01 hd)
theorem qyd{a1:Int}(ha:z35 a1=some (w.map Int.ofNat)):z1s a1 [] (w.map Int.ofNat) ((w.length:Nat):Int) ((0:Nat):Int) a9 a11 a13 a15 a17 a19 S a23 a25 a27 a29=some true:=by cases hx:w with|nil=>subst hx;apply yby;rw[q0d rfl,cF,ha,bS];apply yiz;rw[q00 (by simp),cF,qun];rfl|cons k r=>
  have hk:k∈w:=by rw[hx];simp
  obtain⟨g1,g2⟩:=hS k hk;have hl:=q2o hF;have hd':((k::r).map Int.ofNat).drop 0=(k:Int)::r.map Int.ofNat:=rfl;have h2:=qym hw hF hS a9 a11 a13 a15 a17 a19 a23 a25 a27 a29 ha r (0+1) (by rw[hx];rfl);rw[hx]at h2;apply yby;rw[q03 (by simp),cT,q04 hd',q0j (y:=atV S k) (by omega) (by rw[tN];exact q2b g1),g2,q6x [] F (by simp) (by omega),List.nil_append,qgr hF,bS,q02 (by omega)];omega
end
theorem qpl:∀t,law20_AssemblyCascade t=some true:=by
 intro t;obtain⟨l,h0,h1⟩:=yim t;obtain⟨c,ill,ps,j,g0,P,t0⟩:=y9f (n:=5) (k:=30) (by decide) (by decide) (by decide) (d:=true) h1;have g0:law20_party 5 30 true l 0=_:=g0;have hpos:=P.conf.pos;have hle:=P.conf.le;have hN:c.Members.length<=10:=by omega
 have hp2:=q68 hN;obtain⟨L,lo,hi,ok,m,m2,R,hp,s1,s2,hok⟩:=run_d P;have hpl:=P.len;have hl2:=R.saf2.good.len;apply law20_AssemblyCascade_le;rw[h0,bS];dsimp only;rw[g0,bS];dsimp only;rw[R.run,bS];dsimp only;rw[R.calm,bS];dsimp only;rw[q0h,cF,cF,show m2.Voters.length=c.Members.length from hl2,q0h,cF,hp,bS];dsimp only;cases ok with|false=>rw[Bool.not_false,cT,qun];rfl|true=>
  obtain⟨hJ,hp0⟩:=hok rfl;have hll:=hJ.len;obtain⟨_,⟨st1,st2⟩,_⟩:=R.saf2.good.sets;obtain⟨st,hst⟩:=Int.eq_ofNat_of_zero_le st1;have hstl:st<2^c.Members.length:=by omega
  have hill:=P.ill;have hz:ill|||st<2^c.Members.length:=Nat.or_lt_two_pow hill hstl;have hlt:inta lo hi (ill|||st)<2^c.Members.length:=by rw[<-hll];exact qdf.2 (y7h lo hi _)
  have hof:z93 lo hi ((ill|||st:Nat):Int)=some (((inta lo hi (ill|||st):Nat):Int),0):=by rw[yex s1 s2,y84 hp0 (by simp_all)]
  have hnb:=y0e hlt hN;rw[nT,cF,hst,q2y (by omega) (by omega),hof,bS];dsimp only;have hnodes:=qoq (s:=inta lo hi (ill|||st)) (by omega);rw[hnodes,bS,List.length_map];by_cases hz0:inta lo hi (ill|||st)=0
  .have hw0:nodes (inta lo hi (ill|||st))=[]:=by cases hx:nodes (inta lo hi (ill|||st))with|nil=>rfl|cons k r=>have:=(hnb k).1 (by rw[hx];simp);simp_all
   exact qyd (F:=[]) (q6s _) rfl (fun k hk=>by simp_all) _ _ _ _ _ _ _ _ _ _ hnodes
  .obtain⟨hM,hO,hI⟩:=y8j (n:=c.Members.length) (ill:=ill) (by omega) hJ hz (fun i hi=>by simp_all) hz0;have hC:∀a b,(layD c.Members.length ill L).G a->a<(layD c.Members.length ill L).N->(inta lo hi (ill|||st)).testBit b=true->a≠b->oldB (atV m2.Voters b).Heard (say (atV m2.Voters a))=true:=fun a b ha haN hb hab=>by
    have ha:a<c.Members.length/\ill.testBit a=false:=ha;obtain⟨q1,q2⟩:=hI b hb;refine y72 hN hpos (by omega) R.saf2.good R.still ha.1 q1 hab ?_ ?_;·rw[R.saf2.il,tN];grind
    .rw[R.saf2.il,hst,tN,tN];omega
   have hone:∀a b,(inta lo hi (ill|||st)).testBit a=true->(inta lo hi (ill|||st)).testBit b=true->∀y∈(atV m2.Voters a).Confirms,y∈(atV m2.Voters b).Confirms:=fun a b ha hb y hy=>yeb (P:=layD c.Members.length ill L) hN R.saf2.mt hO hC (R.saf2.ac _ hO) hM ha hb hy;have hpc:∀k,(inta lo hi (ill|||st)).testBit k=true->plainC (atV m2.Voters k).Confirms=true:=fun k hk=>(q0n.1 (R.saf2.mt.all k (hI k hk).1).valid).1.confs;obtain⟨k0,hk0⟩:=nz.1 hz0;refine qyd (F:=(atV m2.Voters k0).Confirms) (q6s _) (hpc k0 hk0) (fun k hk=>?_) _ _ _ _ _ _ _ _ _ _ hnodes;have hk:=(hnb k).1 hk;exact⟨by simp_all,q8l (hpc k hk) (hpc k0 hk0) fun x=>⟨hone k k0 hk hk0 x,hone k0 k hk0 hk x⟩⟩
end Go.Proofs.YtdmfjabikomgiaaGreat
namespace Go.Proofs.YtdmfjabikomgiaaGreat
open Go Go.Ab Go.ChangeShapes Go.WideShapes Go.ChangeAt Go.WideMaps Go.WideElems Go.RowKit
theorem Tryz.own:ownKnob Tryz.prog.godebug=none:=by kernel_rfl
theorem Tryz.laidOut:laidOutB Tryz.prog=true:=by kernel_rfl
theorem y3l{f:Nat}(hlaw:∀zs:List Int,(∀z∈zs,(Lit.int .i64 z).wf=true)->∃n h',call env n f [.d (ints .i64 zs)] []=some (.d (.v (.bool true)),h')){W:World}{v:Value}{zs:List Int}(hz:∀z∈zs,(Lit.int .i64 z).wf=true)(hv:Rep W qeq (ints .i64 zs) v):Calls Tryz.prog f #[v] W fun e w'=>e=.returned (.bool true)/\Below W.heap.size W w':=by obtain⟨n,h',hc⟩:=hlaw zs hz;exact top (E:=env) (yku n) (fun g cs hg=>by cases hg) (ds:=[ints .i64 zs]) hc rfl (fun i d hd=>by cases i with|zero=>simp at hd;subst hd;exact hv|succ i=>simp at hd)
end Go.Proofs.YtdmfjabikomgiaaGreat
