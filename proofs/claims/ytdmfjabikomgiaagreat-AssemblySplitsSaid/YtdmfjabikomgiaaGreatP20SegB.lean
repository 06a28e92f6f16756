/- Laws of the printed functions. -/
import Derived.Test.YtdmfjabikomgiaaGreatP20SegA
import Derived.Test.YtdmfjabikomgiaaGreatRows
import Derived.ProofKit
import Derived.LaidMore
import Derived.OpenShut
import Derived.Stop.Joined
namespace Go.Proofs.YtdmfjabikomgiaaGreat
open Go Go.Ab
noncomputable instance:DecidableEq Trust:=fun a b=>Classical.propDecidable (a=b)
theorem Trust.etaM(t:Trust):Trust.mk t.Threshold t.Nodes t.Inner=t:=by simp
theorem qbs(t:Trust):eqB (verr t) 0=valid t:=by have:=q4t t;cases h:valid t with|true=>rw[h]at this;simp[eqB,this.2 rfl]|false=>rw[h]at this;simp only[fT,iff_false]at this;simp[eqB,this]
theorem qs1(t:Trust):neB (verr t) 0=!valid t:=by rw[<-qbs];rfl
theorem qsk(l k:List Int)(hl:l.length<1152921504606846976)(hk:l.length=k.length):∀(suf suk:List Int)(i:Nat),l.drop i=suf->k.drop i=suk->z1h l k ((l.length:Nat):Int) (i:Int)=some (decide (suf=suk))
 |[],suk,i,h,h'=>by
  have:suk=[]:=by rw[<-h',List.drop_eq_nil_iff,<-hk];simp_all
  subst this;apply yab;rw[q0b h];simp|y::suf,[],i,h,h'=>by have:=q09 h;have:=List.drop_eq_nil_iff.1 h';omega|y::suf,z::suk,i,h,h'=>by
  have hlt:=q09 h;apply yab;rw[q05 h,cT,q03 h,q03 h',q02 (by omega),qsk l k hl hk suf suk (i+1) (q01 h) (q01 h')];by_cases hx:y=z;·subst hx;rw[q0i];simp
  .rw[q1f hx];simp[hx]
theorem y59(l k:List Int)(hl:l.length<1152921504606846976):z3u l k=some (decide (l=k)):=by
 apply yki;by_cases hk:l.length=k.length;·rw[hk,q0i,cF,<-hk];exact qsk l k hl hk l k 0 rfl rfl
 .rw[q1f (by omega),cT];have:l≠k:=fun e=>hk (by rw[e]);simp_all
theorem y43(l k:List Trust)(hl:l.length<1152921504606846976)(hk:l.length=k.length)(hf:∀x∈l,∀y,z4h x y=some (decide (x=y))):∀(suf suk:List Trust)(i:Nat),l.drop i=suf->k.drop i=suk->z01 k l ((l.length:Nat):Int) (i:Int)=some (decide (suf=suk))
 |[],suk,i,h,h'=>by
  have:suk=[]:=by rw[<-h',List.drop_eq_nil_iff,<-hk];simp_all
  subst this;apply ybu;rw[q0b h];simp|y::suf,[],i,h,h'=>by have:=q09 h;have:=List.drop_eq_nil_iff.1 h';omega|y::suf,z::suk,i,h,h'=>by have hlt:=q09 h;apply ybu;rw[q05 h,cT,q03 h,q03 h',hf y (List.mem_of_mem_drop (i:=i) (by simp_all)),bS,q02 (by omega),y43 l k hl hk hf suf suk (i+1) (q01 h) (q01 h')];by_cases hx:y=z<;>simp[hx]
theorem qw9:∀a:Trust,Small a->∀b:Trust,z4h a b=some (decide (a=b)):=by
 apply Trust.ind;intro a ih ha b;have hn:=ha.nodes;have hi:=ha.inner;apply ygl;have h1:z0d a.Inner b.Inner=some (decide (a.Inner=b.Inner)):=by
  apply yk2;by_cases hk:a.Inner.length=b.Inner.length;·rw[hk,q0i,cF,<-hk];exact y43 a.Inner b.Inner hi hk (fun x hx y=>ih x hx (ha.mem hx) y) a.Inner b.Inner 0 rfl rfl
  .rw[q1f (by omega),cT];have:a.Inner≠b.Inner:=fun e=>hk (by rw[e]);simp_all
 rw[y59 _ _ hn,h1];cases a;cases b;simp only[Trust.mk.injEq,bS];rename_i t n i t' n' i';by_cases h1:t=t'<;>by_cases h2:n=n'<;>by_cases h3:i=i'<;>simp[eqB,h1,h2,h3]
theorem qyz(a:Trust)(ha:Small a)(b:Trust):z44 a b=some (decide (a=b)):=by obtain⟨r,h1,h2⟩:=y5d a ha b;grind
def msgB(m:Message):Bool:=inR m.Node&&(decide (1<=m.Seq)&&(valid m.Trust&&(plainC m.Votes&&plainC m.Accepts)))
structure SmallM(m:Message):Prop where
 tr:Small m.Trust
 votes:m.Votes.length<1000000
 accs:m.Accepts.length<1000000
theorem q42{l:List Claim}(h:plainC l=true):l.length<=128:=by rw[<-qzc h];exact q4l l
theorem q25{m:Message}:msgB m=true↔inR m.Node=true/\1<=m.Seq/\valid m.Trust=true/\plainC m.Votes=true/\plainC m.Accepts=true:=by simp[msgB]
theorem q12{m:Message}(h:msgB m=true):SmallM m:=by obtain⟨_,_,h1,h2,h3⟩:=q25.1 h;have:=q42 h2;have:=q42 h3;exact⟨q3e h1,by omega,by omega⟩
theorem qxn(k:Int):z6s k=some (inR k):=by
 apply ykf;by_cases h:0<=k;·simp[leB,ltB,inR,h]
 .simp[leB,ltB,inR,h]
theorem qdp{m:Message}(h:SmallM m):z2f m=some (msgB m):=by apply yfm;rw[qxn,q9b _ h.tr,qc0 _ (by have:=h.votes;omega),qc0 _ (by have:=h.accs;omega)];simp only[bS,qbs,msgB,leB];cases inR m.Node<;>cases decide (1<=m.Seq)<;>cases valid m.Trust<;>cases plainC m.Votes<;>rfl
theorem q96{m:Message}(h:SmallM m):z3n m=some (msgB m):=by apply yjt;rw[q9x _ h.tr,qbb _ (by have:=h.votes;omega),qbb _ (by have:=h.accs;omega)];simp only[bS,qbs,msgB,leB,ltB,inR];cases decide (0<=m.Node)<;>cases decide (m.Node<10)<;>cases decide (1<=m.Seq)<;>cases valid m.Trust<;>cases plainC m.Votes<;>rfl
theorem qnx:∀t:Trust,Fits t->z4d t=some t:=by
 apply Trust.ind;intro t ih ht;have hsz:size t<1073741824:=ht;rw[q3a]at hsz;have l1:∀(suf:List Trust)(i:Nat)(acc:List Trust)(a8:Int)(a10:List Int)(a12:List Trust)(a14:Int)(a16:List Int)(a18:List Trust)(a20:Int)(a22:List Int),t.Inner.drop i=suf->acc.length<=i->z34 t.Inner ((t.Inner.length:Nat):Int) (i:Int) a8 a10 a12 a14 a16 a18 a20 a22 acc=some ⟨a20,a22,acc++suf⟩:=by intro suf;induction suf with|nil=>intro i acc a8 a10 a12 a14 a16 a18 a20 a22 h ha;apply y9h;simp only[q0b h,cF,List.append_nil]|cons y suf ihs=>intro i acc a8 a10 a12 a14 a16 a18 a20 a22 h ha;have hlt:=q09 h;have hy:y∈t.Inner:=List.mem_of_mem_drop (by rw[h];exact List.mem_cons_self);apply y9h;simp only[q05 h,cT,q03 h,ih y hy (ht.mem hy),bS,q02 (show i<4611686018427387904 by omega),Trust.etaM];rw[q07 (by simp[q06];omega),ihs (i+1) (acc++[y]) _ _ _ _ _ _ _ _ (q01 h) (by simp;omega)];simp
 apply yhb;rw[q07 (by simp[q06];omega),show(0:Int)=((0:Nat):Int)from rfl,l1 t.Inner 0 [] _ _ _ _ _ _ _ _ rfl (Nat.le_refl _)];simp
def seeM(ms:List Member)(m:Message):List Member:=ms.set m.Node.toNat ⟨true,m.Trust⟩
def viewC(v:Int)(t:Trust)(l:List Message):Config:=⟨(l.foldl seeM (List.replicate 10 ⟨false,⟨0,[],[]⟩⟩)).set v.toNat ⟨true,t⟩⟩
theorem q4c{k:Int}(h:inR k=true):0<=k/\k.toNat<10:=by simp[inR]at h;omega
theorem qwa{v:Int}{t:Trust}(hv:inR v=true)(ht:valid t=true)(l:List Message)(hl:l.length<1152921504606846976)(hm:∀m∈l,msgB m=true/\m.Node≠v):∀(suf:List Message)(i:Nat)(ms:List Member)(a17:List Member),l.drop i=suf->ms.length=10->z29 v l ((l.length:Nat):Int) (i:Int) t.Threshold t.Nodes t.Inner a17 ms=some ⟨(suf.foldl seeM ms).set v.toNat ⟨true,t⟩⟩|[],i,ms,a17,h,hms=>by obtain⟨h0,h10⟩:=q4c hv;apply ybx;rw[q0b h,cF,qxn,bS,hv,cT,Trust.etaM,q9b _ (q3e ht),bS,qbs,ht,cT,qnx _ (q3k ht).1,bS,Trust.etaM,q0h (y:=ms[v.toNat]'(by omega)) h0 (by simp),q51 (y:=ms[v.toNat]'(by omega)) (by simp)];rfl|m::suf,i,ms,a17,h,hms=>by have hlt:=q09 h;obtain⟨g1,g2⟩:=hm m (List.mem_of_mem_drop (i:=i) (by simp_all));obtain⟨k1,_,k3,_⟩:=q25.1 g1;obtain⟨h0,h10⟩:=q4c k1;apply ybx;rw[q05 h,cT,q03 h,q1f g2,cT,qdp (q12 g1),bS,g1,cT,qnx _ (q3k k3).1,bS,Trust.etaM,q0h (y:=ms[m.Node.toNat]'(by omega)) h0 (by simp),q51 (y:=ms[m.Node.toNat]'(by omega)) (by simp),q02 (by omega),qwa hv ht l hl hm suf (i+1) _ a17 (q01 h) (by grind)];rfl
theorem y71{v:Int}{t:Trust}(hv:inR v=true)(ht:valid t=true)(l:List Message)(hl:l.length<1152921504606846976)(hm:∀m∈l,msgB m=true/\m.Node≠v):z6t v t l=some (viewC v t l):=by apply yhi;exact qwa hv ht l hl hm l 0 _ _ rfl rfl
theorem qy4{v:Int}{t:Trust}(hv:inR v=true)(ht:valid t=true)(l:List Message)(hl:l.length<1152921504606846976)(hm:∀m∈l,msgB m=true/\m.Node≠v):∀(suf:List Message)(i:Nat)(ms:List Member)(a17:List Member),l.drop i=suf->ms.length=10->z5f v l ((l.length:Nat):Int) (i:Int) t.Threshold t.Nodes t.Inner a17 ms=some ⟨(suf.foldl seeM ms).set v.toNat ⟨true,t⟩⟩|[],i,ms,a17,h,hms=>by obtain⟨h0,h10⟩:=q4c hv;apply yba;rw[q0b h,cF,q10 h0,cT,q04 (by omega),cT,q0h (y:=ms[v.toNat]'(by omega)) h0 (by simp),q51 (y:=ms[v.toNat]'(by omega)) (by simp),Trust.etaM,q9x _ (q3e ht),bS,qbs,ht,cT,q0h (y:=⟨false,⟨0,[],[]⟩⟩) h0 (by simp_all),q51 (y:=⟨false,⟨0,[],[]⟩⟩) (by simp_all),List.set_set];rfl|m::suf,i,ms,a17,h,hms=>by have hlt:=q09 h;obtain⟨g1,g2⟩:=hm m (List.mem_of_mem_drop (i:=i) (by simp_all));obtain⟨k1,_,k3,_⟩:=q25.1 g1;obtain⟨h0,h10⟩:=q4c k1;apply yba;rw[q05 h,cT,q03 h,q96 (q12 g1),bS,g1,cT,Trust.etaM,q0h (y:=ms[m.Node.toNat]'(by omega)) h0 (by simp),q51 (y:=ms[m.Node.toNat]'(by omega)) (by simp),q02 (by omega),qy4 hv ht l hl hm suf (i+1) _ a17 (q01 h) (by grind)];rfl
theorem qyd{v:Int}{t:Trust}(hv:inR v=true)(ht:valid t=true)(l:List Message)(hl:l.length<1152921504606846976)(hm:∀m∈l,msgB m=true/\m.Node≠v):z7i v t l=some (viewC v t l):=by apply yhm;exact qy4 hv ht l hl hm l 0 _ _ rfl rfl
def who(p:Message->Bool)(l:List Message):Nat:=l.foldl (fun s m=>if p m then s|||bit m.Node else s) 0
def whoF(p:Message->Bool)(s:Nat)(l:List Message):Nat:=l.foldl (fun s m=>if p m then s|||bit m.Node else s) s
def votes(l:List Message)(x:Claim):Nat:=who (fun m=>decide (x∈m.Votes)) l
def q0u(l:List Message)(x:Claim):Nat:=who (fun m=>decide (x∈m.Accepts)) l
theorem q8t(p:Message->Bool)(s:Nat)(m:Message)(l:List Message):whoF p s (m::l)=whoF p (if p m then s|||bit m.Node else s) l:=rfl
theorem qvk(p:Message->Bool):∀(l:List Message)(s:Nat),s<1024->(∀m∈l,inR m.Node=true)->whoF p s l<1024
 |[],s,h,_=>h|m::l,s,h,hm=>by
  rw[q8t];refine qvk p l _ ?_ fun m hm'=>hm m (by simp[hm']);split;·exact or_lt h (qak (hm m (by simp)))
  omega
theorem shlOr{s:Nat}{k:Int}(hs:s<1024)(h:inR k=true):orI .i64 (s:Int) (shlI .i64 1 k)=((s|||bit k:Nat):Int):=by have:=qak h;rw[qh9 h,q2i (by omega) (by omega)]
section
variable (l : List Message) (hl : l.length < 1152921504606846976) (hm : ∀ m ∈ l, msgB m = true) (x : Claim)
include hl hm
theorem qlq:∀(suf:List Message)(i s:Nat),l.drop i=suf->s<1024->z0b (s:Int) l ((l.length:Nat):Int) (i:Int) x.Topic x.Value=some ((whoF (fun m=>decide (x∈m.Votes)) s suf:Nat):Int)
 |[],i,s,h,hs=>by apply y9e;rw[q0b h];rfl|m::suf,i,s,h,hs=>by
  have hlt:=q09 h;have g1:=hm m (List.mem_of_mem_drop (i:=i) (by simp_all));obtain⟨k1,_⟩:=q25.1 g1;have hf:z6j m=some m.Votes:=yf3 _ _ rfl;have hsm:=(q12 g1).votes;apply y9e;rw[q05 h,cT,q03 h,qdp (q12 g1),bS,g1,cT,hf,bS,show Claim.mk x.Topic x.Value=x from rfl,qkk _ (by omega),bS,q02 (by omega),q8t,q0f (q4c k1).1,shlOr hs k1];by_cases hx:x∈m.Votes;·simp only[hx,decide_true,cT,if_true];exact qlq suf (i+1) _ (q01 h) (or_lt hs (qak k1))
  .simp only[hx,decide_false,cF,fT,if_false];exact qlq suf (i+1) _ (q01 h) hs
theorem y6h:z7g l x=some ((votes l x:Nat):Int):=by apply yi3;have h:z1c l x=some ((votes l x:Nat):Int):=yib _ _ _ (qlq l hl hm x l 0 0 rfl (by decide));simp_all
theorem qp0:∀(suf:List Message)(i s:Nat),l.drop i=suf->s<1024->z09 (s:Int) l ((l.length:Nat):Int) (i:Int) x.Topic x.Value=some ((whoF (fun m=>decide (x∈m.Accepts)) s suf:Nat):Int)
 |[],i,s,h,hs=>by apply yar;rw[q0b h];rfl|m::suf,i,s,h,hs=>by
  have hlt:=q09 h;have g1:=hm m (List.mem_of_mem_drop (i:=i) (by simp_all));obtain⟨k1,_⟩:=q25.1 g1;have hf:z4y m=some m.Accepts:=yea _ _ rfl;have hsm:=(q12 g1).accs;apply yar;rw[q05 h,cT,q03 h,qdp (q12 g1),bS,g1,cT,hf,bS,show Claim.mk x.Topic x.Value=x from rfl,qkk _ (by omega),bS,q02 (by omega),q8t,q0f (q4c k1).1,shlOr hs k1];by_cases hx:x∈m.Accepts;·simp only[hx,decide_true,cT,if_true];exact qp0 suf (i+1) _ (q01 h) (or_lt hs (qak k1))
  .simp only[hx,decide_false,cF,fT,if_false];exact qp0 suf (i+1) _ (q01 h) hs
theorem qz3:z4l l x=some ((q0u l x:Nat):Int):=by apply yfi;have h:z10 l x=some ((q0u l x:Nat):Int):=yg1 _ _ _ (qp0 l hl hm x l 0 0 rfl (by decide));simp_all
theorem qkv:∀(suf:List Message)(i s:Nat),l.drop i=suf->s<1024->z3t (s:Int) l ((l.length:Nat):Int) (i:Int) x.Topic x.Value=some ((whoF (fun m=>decide (x∈m.Votes)) s suf:Nat):Int)
 |[],i,s,h,hs=>by apply ybk;rw[q0b h];rfl|m::suf,i,s,h,hs=>by
  have hlt:=q09 h;have g1:=hm m (List.mem_of_mem_drop (i:=i) (by simp_all));obtain⟨k1,_⟩:=q25.1 g1;have hsm:=(q12 g1).votes;apply ybk;rw[q05 h,cT,q03 h,q96 (q12 g1),bS,g1,cT,show Claim.mk x.Topic x.Value=x from rfl,qb8 _ (by omega),bS,q02 (by omega),q8t,q0f (q4c k1).1,shlOr hs k1];by_cases hx:x∈m.Votes;·simp only[hx,decide_true,cT,if_true];exact qkv suf (i+1) _ (q01 h) (or_lt hs (qak k1))
  .simp only[hx,decide_false,cF,fT,if_false];exact qkv suf (i+1) _ (q01 h) hs
theorem y1w:z9d l x=some ((votes l x:Nat):Int):=yhy _ _ _ (qkv l hl hm x l 0 0 rfl (by decide))
theorem qnz:∀(suf:List Message)(i s:Nat),l.drop i=suf->s<1024->z2b (s:Int) l ((l.length:Nat):Int) (i:Int) x.Topic x.Value=some ((whoF (fun m=>decide (x∈m.Accepts)) s suf:Nat):Int)
 |[],i,s,h,hs=>by apply y9a;rw[q0b h];rfl|m::suf,i,s,h,hs=>by
  have hlt:=q09 h;have g1:=hm m (List.mem_of_mem_drop (i:=i) (by simp_all));obtain⟨k1,_⟩:=q25.1 g1;have hsm:=(q12 g1).accs;apply y9a;rw[q05 h,cT,q03 h,q96 (q12 g1),bS,g1,cT,show Claim.mk x.Topic x.Value=x from rfl,qb8 _ (by omega),bS,q02 (by omega),q8t,q0f (q4c k1).1,shlOr hs k1];by_cases hx:x∈m.Accepts;·simp only[hx,decide_true,cT,if_true];exact qnz suf (i+1) _ (q01 h) (or_lt hs (qak k1))
  .simp only[hx,decide_false,cF,fT,if_false];exact qnz suf (i+1) _ (q01 h) hs
theorem qxk:z6z l x=some ((q0u l x:Nat):Int):=yeb _ _ _ (qnz l hl hm x l 0 0 rfl (by decide))
end
theorem qiy{l:List Message}(hm:∀m∈l,msgB m=true)(x:Claim):votes l x<1024:=qvk _ l 0 (by decide) fun m h=>(q25.1 (hm m h)).1
theorem q3w{l:List Message}(hm:∀m∈l,msgB m=true)(x:Claim):q0u l x<1024:=qvk _ l 0 (by decide) fun m h=>(q25.1 (hm m h)).1
def accB(c:Config)(v:Nat)(vs ac:Nat):Bool:=blk c v ac||(q1q c (vs|||ac)).testBit v
def confB(c:Config)(v:Nat)(ac:Nat):Bool:=(q1q c ac).testBit v
section
variable {c : Config} (hc : q1v c) {vs ac : Nat} (hv : vs < 1024) (ha : ac < 1024) {v : Nat} (hn : v < 10)
include hc ha hn
theorem y8n:z4p c (v:Int) (ac:Int)=some (confB c v ac):=by apply yhe;rw[q7z ha hc,bS,q1d (q7b c ha),q2b hn];rfl
theorem y6q:z71 c (v:Int) (ac:Int)=some (confB c v ac):=by apply yej;rw[qed ha hc,bS,q0y (q7b c ha),q2b hn];rfl
include hv
theorem y7w:z54 c (v:Int) (vs:Int) (ac:Int)=some (accB c v vs ac):=by apply yhp;rw[q2j hv,q2j ha,y0l hc ha,q2i (by omega) (by omega),q7z (or_lt hv ha) hc];simp only[bS,q1d (q7b c (or_lt hv ha)),q2b hn,accB];cases blk c v ac<;>rfl
theorem y6z:z7e c (v:Int) (vs:Int) (ac:Int)=some (accB c v vs ac):=by apply yjd;rw[q1e hv,q1e ha,qty hc ha,q2i (by omega) (by omega),qed (or_lt hv ha) hc];simp only[bS,q0y (q7b c (or_lt hv ha)),q2b hn,accB];cases blk c v ac<;>rfl
end
theorem qg6{t:Member}:∀(l:List Message)(ms:List Member),t∈l.foldl seeM ms->t∈ms\/∃m∈l,t=⟨true,m.Trust⟩
 |[],ms,h=>.inl h|m::l,ms,h=>by
  rcases qg6 l _ h with h|⟨m',h1,h2⟩
  .rcases List.mem_or_eq_of_mem_set h with h|h;·exact .inl h
   .exact .inr ⟨m,by simp,h⟩
  grind
theorem q9z:∀(l:List Message)(ms:List Member),(l.foldl seeM ms).length=ms.length|[],_=>rfl|m::l,ms=>by rw[List.foldl_cons,q9z l];simp[seeM]
theorem qtw{v:Int}{t:Trust}(ht:valid t=true){l:List Message}(hm:∀m∈l,msgB m=true):q1v (viewC v t l):=by
 refine⟨by simp[viewC,q9z],fun m h=>?_⟩;rcases List.mem_or_eq_of_mem_set h with h|h
 .rcases qg6 l _ h with h|⟨m',h1,h2⟩;·rw[List.eq_of_mem_replicate h];simp[Small,size,sizes]
  .rw[h2];exact(q12 (hm m' h1)).tr
 .rw[h];exact q3e ht
end Go.Proofs.YtdmfjabikomgiaaGreat
namespace Go.Proofs.YtdmfjabikomgiaaGreat
open Go Go.Ab Go.Sort
def y1b(ms:List Member):Prop:=∀m∈ms,Small m.Trust
theorem y03(k m:Int):Small ⟨1,[k,m],[]⟩:=by unfold Small;rw[q95];simp[sizes]
theorem qtr{n:Nat}(hn:n<=10)(h1:1<=n)(l:List Int)(i:Int)(a10:List Member):∀(r k:Nat)(ms:List Member),k+r=ms.length->1<=ms.length->ms.length<=n->y1b ms->(∀j m,j<k->ms[j]?=some m->m.Declared=true)->∃c,z5q ((ms.length:Nat):Int) (k:Int) l i a10 ms=some (c,l,i)/\ConfOk n c/\∀m∈c.Members,m.Declared=true
 |0,k,ms,hk,hp,hl,hs,hd=>by
  have hsc:q1v ⟨ms⟩:=⟨by grind,hs⟩;by_cases h0:cerr ⟨ms⟩=0
  .refine⟨⟨ms⟩,?_,(q4f.1 h0).conf hp hl,fun m hm=>?_⟩;·apply qyv;rw[q00 (by omega),cF,qfe hsc,h0];rfl
   .obtain⟨j,hj⟩:=List.getElem?_of_mem hm;grind
  .refine⟨⟨[⟨true,⟨1,[0],[]⟩⟩]⟩,?_,?_,fun m hm=>?_⟩;·apply qyv;rw[q00 (by omega),cF,qfe hsc];simp[neB,h0]
   .refine⟨by show 1<=1;omega,by show 1<=n;omega,fun x hx=>?_⟩;have hx':x=⟨true,⟨1,[0],[]⟩⟩:=by simpa using hx
    subst hx';show MemOk 1 _;unfold MemOk;rw[if_pos rfl];exact⟨by decide,by decide⟩
   simp_all|r+1,k,ms,hk,hp,hl,hs,hd=>by
  have hlt:k<ms.length:=by omega
  have hget:ms[k]?=some ms[k]:=by simp
  cases hdk:ms[k].Declared with|true=>obtain⟨c,g1,g2⟩:=qtr hn h1 l i a10 r (k+1) ms (by omega) hp hl hs (fun j m hj hm=>by
    rcases Nat.lt_or_ge j k with h|h;·exact hd j m h hm
    .obtain rfl:j=k:=by omega
     rw[hget]at hm;cases hm;exact hdk);refine⟨c,?_,g2⟩;apply qyv;rw[q04 (by omega),cT,q0h (y:=ms[k]) (by omega) (by rw[tN];exact hget)];simp only[nthN,tN,hget,hdk,nT,cF];rw[q02 (by omega)];omega|false=>
   have hlen:(ms.set k ⟨true,⟨1,[(k:Int),remI .i64 ((k+1:Nat):Int) ((ms.length:Nat):Int)],[]⟩⟩).length=ms.length:=by simp
   obtain⟨c,g1,g2⟩:=qtr hn h1 l i a10 r (k+1) (ms.set k ⟨true,⟨1,[(k:Int),remI .i64 ((k+1:Nat):Int) ((ms.length:Nat):Int)],[]⟩⟩) (by rw[hlen];omega) (by rw[hlen];exact hp) (by rw[hlen];exact hl) (fun m hm=>by
    rcases List.mem_or_eq_of_mem_set hm with h|h;·exact hs m h
    .subst h;exact y03 _ _) (fun j m hj hm=>by
    rw[List.getElem?_set]at hm;split at hm;·cases hm;rfl
    .exact hd j m (by omega) hm);refine⟨c,?_,g2⟩;rw[hlen]at g1;apply qyv;rw[q04 (by omega),cT,q0h (y:=ms[k]) (by omega) (by rw[tN];exact hget)];simp only[nthN,tN,hget,hdk,Bool.not_false,cT];rw[q0f (by omega),q0h (y:=ms[k]) (by omega) (by rw[tN];exact hget),q02 (by omega)];omega
theorem ydk{n:Nat}(hn:n<=10)(h1:2<=n)(l:List Int)(i:Int)(a6:List Member):∀(r:Nat)(ms:List Member),2<=ms.length+r->ms.length<=n->y1b ms->∃c,z88 l i a6 ms=some (c,l,i)/\ConfOk n c/\∀m∈c.Members,m.Declared=true:=by intro r;induction r with|zero=>intro ms h2 hl hs;obtain⟨c,g1,g2⟩:=qtr hn (by omega) l i a6 ms.length 0 ms (by omega) (by omega) hl hs (fun j m hj _=>by omega);refine⟨c,?_,g2⟩;apply ych;rw[q00 (by omega),cF];omega|succ r ih=>
  intro ms h2 hl hs;by_cases h:ms.length<2;·obtain⟨c,g1,g2⟩:=ih (ms++[⟨false,⟨0,[],[]⟩⟩]) (by simp;omega) (by simp;omega) (fun m hm=>by
    rcases List.mem_append.1 hm with hm|hm;·exact hs m hm
    .rw[List.mem_singleton]at hm;subst hm;unfold Small;rw[q95];simp[sizes]);refine⟨c,?_,g2⟩;apply ych;rw[q04 (by omega),cT,q07 (by simp[q06];omega)];exact g1
  grind
theorem ye1{n:Nat}(h1:2<=n)(h2:n<=10){l:List Int}{i:Int}(h:q18 l i):∃c j,z9m (n:Int) l i=some (c,l,j)/\ConfOk n c/\(∀m∈c.Members,m.Declared=true)/\q18 l j:=by obtain⟨c0,j,a1,a2,a3⟩:=y23 (by omega) h2 h;obtain⟨c,g1,g2,g3⟩:=ydk h2 h1 l j [] 2 c0.Members (by omega) a2.le (a2.smallC h2).2;refine⟨c,j,?_,g2,g3,a3⟩;apply yho;simp_all
variable {n : Nat} {lo hi : Config}
end Go.Proofs.YtdmfjabikomgiaaGreat
namespace Go.Proofs.YtdmfjabikomgiaaGreat
open Go Go.Ab
def say(v:Voter):Message:=⟨v.Node,v.Seq,v.Trust,v.Votes,v.Accepts⟩
def q3g(n:Int):Option Int->List Message->Bool|_,[]=>true|none,m::r=>msgB m&&(!decide (m.Node=n)&&q3g n (some m.Node) r)|some q,m::r=>msgB m&&(!decide (m.Node=n)&&(decide (q<m.Node)&&q3g n (some m.Node) r))
structure SmallV(v:Voter):Prop where
 tr:Small v.Trust
 votes:v.Votes.length<1000000
 accs:v.Accepts.length<1000000
 confs:v.Confirms.length<1000000
 heard:v.Heard.length<1000000
 msgs:∀m∈v.Heard,SmallM m
def q23(v:Voter):Bool:=inR v.Node&&(decide (1<=v.Seq)&&(decide (v.Seq<=1000000)&&(valid v.Trust&&(plainC v.Votes&&(plainC v.Accepts&&(plainC v.Confirms&&(consC v.Votes&&(consC v.Accepts&&(v.Confirms.all (fun x=>decide (x∈v.Accepts))&&q3g v.Node none v.Heard)))))))))
theorem q22{n:Int}:∀{l:List Message}{q:Option Int},q3g n q l=true↔(∀m∈l,msgB m=true/\m.Node≠n)/\(∀k,q=some k->∀m∈l,k<m.Node)/\l.Pairwise (fun a b=>a.Node<b.Node)
 |[],q=>by cases q<;>simp[q3g]|m::r,q=>by
  have ih:=q22 (n:=n) (l:=r) (q:=some m.Node);have h1:q3g n q (m::r)=true↔msgB m=true/\m.Node≠n/\(∀k,q=some k->k<m.Node)/\q3g n (some m.Node) r=true:=by cases q<;>simp[q3g]
  rw[h1,ih,List.pairwise_cons];grind
theorem qqw{n:Int}{l:List Message}(h:q3g n none l=true):l.length<=10:=by obtain⟨h1,_,h3⟩:=q22.1 h;have:=qec (m:=10) (l:=l.map (·.Node)) (by decide) (fun k hk=>by obtain⟨m,hm,rfl⟩:=List.mem_map.1 hk;have:=(q25.1 (h1 m hm).1).1;simpa[inR]using this) (List.pairwise_map.2 h3);grind
theorem y1i(l:List Claim)(v:Voter)(hl:l.length<1152921504606846976)(ha:v.Accepts.length<1000000):∀(suf:List Claim)(i:Nat),l.drop i=suf->∃r:Int,z07 l ((l.length:Nat):Int) (i:Int) v.Node v.Seq v.Trust.Threshold v.Trust.Nodes v.Trust.Inner v.Votes v.Accepts v.Confirms v.Heard=some (r,v.Node,v.Seq,v.Trust.Threshold,v.Trust.Nodes,v.Trust.Inner,v.Votes,v.Accepts,v.Confirms,v.Heard)/\leB 0 r=!(suf.all fun x=>decide (x∈v.Accepts))
 |[],i,h=>by refine⟨-1,y4v _ _ _ _ _ _ _ _ _ _ _ _ _ ?_,by rfl⟩;rw[q0b h];rfl|y::suf,i,h=>by
  have hlt:=q09 h;obtain⟨r,h1,h2⟩:=y1i l v hl ha suf (i+1) (q01 h);have hf:z81 y v.Node v.Seq v.Trust.Threshold v.Trust.Nodes v.Trust.Inner v.Votes v.Accepts v.Confirms v.Heard=some (!decide (y∈v.Accepts),v.Node,v.Seq,v.Trust.Threshold,v.Trust.Nodes,v.Trust.Inner,v.Votes,v.Accepts,v.Confirms,v.Heard):=by apply yik;rw[qkk _ (by omega)];rfl
  by_cases hy:y∈v.Accepts;·refine⟨r,y4v _ _ _ _ _ _ _ _ _ _ _ _ _ ?_,by rw[h2];simp[hy]⟩;rw[q05 h,cT,q03 h,hf,bS,q02 (by omega)];simp_all
  .refine⟨i,y4v _ _ _ _ _ _ _ _ _ _ _ _ _ ?_,by simp[hy,leB]⟩;rw[q05 h,cT,q03 h,hf,bS];simp_all
theorem ybr(v:Voter)(hl:v.Heard.length<1000000)(hm:∀m∈v.Heard,SmallM m):∀(suf:List Message)(i:Nat)(z:Message),v.Heard[i]?=some z->v.Heard.drop (i+1)=suf->z1y v.Heard ((v.Heard.length:Nat):Int) ((i+1:Nat):Int) v.Node v.Seq v.Trust.Threshold v.Trust.Nodes v.Trust.Inner v.Votes v.Accepts v.Confirms v.Heard=some (q3g v.Node (some z.Node) suf)|[],i,z,hz,h=>by apply qxb;rw[q0b h];rfl|y::suf,i,z,hz,h=>by have hlt:=q09 h;apply qxb;rw[q05 h,cT,q03 h,qdp (hm y (List.mem_of_mem_drop (i:=i+1) (by simp_all))),bS,q04 (by omega),cT,q65 (by omega) (by omega),q0h (y:=z) (by omega) (by simp_all),q02 (by omega),ybr v hl hm suf (i+1) y (by have:=congrArg (·[0]?) h;grind) (q01 h)];rw[q3g,show leB y.Node z.Node=!decide (z.Node<y.Node)by by_cases h2:z.Node<y.Node<;>simp[leB,h2]<;>omega];simp only[eqB];cases msgB y<;>cases decide (y.Node=v.Node)<;>cases decide (z.Node<y.Node)<;>rfl
theorem yg2(v:Voter)(hl:v.Heard.length<1000000)(hm:∀m∈v.Heard,SmallM m):z1y v.Heard ((v.Heard.length:Nat):Int) 0 v.Node v.Seq v.Trust.Threshold v.Trust.Nodes v.Trust.Inner v.Votes v.Accepts v.Confirms v.Heard=some (q3g v.Node none v.Heard):=by cases hh:v.Heard with|nil=>apply qxb;rfl|cons y r=>have h1:=ybr v hl hm r 0 y (by simp_all) (by simp_all);rw[hh]at h1 hm;apply qxb;rw[q04 (by simp),cT,q0h (y:=y) (by omega) rfl,qdp (hm y (by simp)),bS,q00 (by omega),cF,show addI .i64 0 1=((0+1:Nat):Int)from rfl,h1,q3g];by_cases h1:y.Node=v.Node;all_goals cases msgB y<;>simp[h1,eqB]
theorem qcc{v:Voter}(h:SmallV v):z60 v=some (q23 v):=by
 obtain⟨h1,h2,h3,h4,h5,h6⟩:=h;apply yjy;obtain⟨r,g1,g2⟩:=y1i v.Confirms v (by omega) h3 v.Confirms 0 rfl;have g3:z0o v.Confirms v.Node v.Seq v.Trust.Threshold v.Trust.Nodes v.Trust.Inner v.Votes v.Accepts v.Confirms v.Heard=_:=yj9 _ _ _ _ _ _ _ _ _ _ _ g1;have g4:z0n v.Confirms v.Node v.Seq v.Trust.Threshold v.Trust.Nodes v.Trust.Inner v.Votes v.Accepts v.Confirms v.Heard=some (!(v.Confirms.all fun x=>decide (x∈v.Accepts)),v.Node,v.Seq,v.Trust.Threshold,v.Trust.Nodes,v.Trust.Inner,v.Votes,v.Accepts,v.Confirms,v.Heard):=by apply yk7;simp_all
 rw[q9b _ h1,qc0 _ (by omega),qc0 _ (by omega),qc0 _ (by omega),g4];simp only[bS,yg2 v h5 h6,qs1];unfold q23 inR ltB leB;by_cases e1:v.Node<0;·grind
 have e1':0<=v.Node:=by omega
 by_cases e2:10<=v.Node;·grind
 have e2':v.Node<10:=by omega
 by_cases e3:v.Seq<1;·grind
 have e3':1<=v.Seq:=by omega
 by_cases e4:1000000<v.Seq;·grind
 have e4':v.Seq<=1000000:=by omega
 simp only[e1,e1',e2,e2',e3,e3',e4,e4',decide_false,decide_true,cF,tA',Bool.and_true];cases valid v.Trust with|false=>simp|true=>cases hp1:plainC v.Votes with|false=>simp|true=>cases hp2:plainC v.Accepts with|false=>simp|true=>cases plainC v.Confirms with|false=>simp|true=>rw[qo9 _ (by omega) (q0v.1 hp1).1,qo9 _ (by omega) (q0v.1 hp2).1];grind
theorem yb3(v:Voter)(hl:v.Heard.length<1000000)(hm:∀m∈v.Heard,SmallM m):∀(suf:List Message)(i:Nat)(z:Message),v.Heard[i]?=some z->v.Heard.drop (i+1)=suf->z2d v.Heard ((v.Heard.length:Nat):Int) ((i+1:Nat):Int) v.Node v.Seq v.Trust.Threshold v.Trust.Nodes v.Trust.Inner v.Votes v.Accepts v.Confirms v.Heard=some (q3g v.Node (some z.Node) suf)|[],i,z,hz,h=>by apply qxj;rw[q0b h];rfl|y::suf,i,z,hz,h=>by have hlt:=q09 h;apply qxj;rw[q05 h,cT,q03 h,q96 (hm y (List.mem_of_mem_drop (i:=i+1) (by simp_all))),bS,q04 (by omega),cT,q65 (by omega) (by omega),q0h (y:=z) (by omega) (by simp_all),q02 (by omega),yb3 v hl hm suf (i+1) y (by have:=congrArg (·[0]?) h;grind) (q01 h)];rw[q3g,show leB y.Node z.Node=!decide (z.Node<y.Node)by by_cases h2:z.Node<y.Node<;>simp[leB,h2]<;>omega];simp only[eqB];cases msgB y<;>cases decide (y.Node=v.Node)<;>cases decide (z.Node<y.Node)<;>rfl
theorem yil(v:Voter)(hl:v.Heard.length<1000000)(hm:∀m∈v.Heard,SmallM m):z2d v.Heard ((v.Heard.length:Nat):Int) 0 v.Node v.Seq v.Trust.Threshold v.Trust.Nodes v.Trust.Inner v.Votes v.Accepts v.Confirms v.Heard=some (q3g v.Node none v.Heard):=by cases hh:v.Heard with|nil=>apply qxj;rfl|cons y r=>have h1:=yb3 v hl hm r 0 y (by simp_all) (by simp_all);rw[hh]at h1 hm;apply qxj;rw[q04 (by simp),cT,q0h (y:=y) (by omega) rfl,q96 (hm y (by simp)),bS,q00 (by omega),cF,show addI .i64 0 1=((0+1:Nat):Int)from rfl,h1,q3g];by_cases h1:y.Node=v.Node;all_goals cases msgB y<;>simp[h1,eqB]
theorem ybp(v:Voter)(hl:v.Heard.length<1000000)(hm:∀m∈v.Heard,SmallM m)(ha:v.Accepts.length<1000000)(l:List Claim)(hll:l.length<1152921504606846976):∀(suf:List Claim)(i:Nat),l.drop i=suf->z4n l ((l.length:Nat):Int) (i:Int) v.Node v.Seq v.Trust.Threshold v.Trust.Nodes v.Trust.Inner v.Votes v.Accepts v.Confirms v.Heard=some ((suf.all fun x=>decide (x∈v.Accepts))&&q3g v.Node none v.Heard)|[],i,h=>by apply yaq;rw[q0b h,cF,yil v hl hm];simp|y::suf,i,h=>by have hlt:=q09 h;apply yaq;rw[q05 h,cT,q03 h,qb8 _ (by omega),bS,q02 (by omega),ybp v hl hm ha l hll suf (i+1) (q01 h)];by_cases hy:y∈v.Accepts<;>simp[hy]
theorem qcv{v:Voter}(h:SmallV v):z6m v=some (q23 v):=by
 obtain⟨h1,h2,h3,h4,h5,h6⟩:=h;apply ygs;have g1:z4n v.Confirms ((v.Confirms.length:Nat):Int) 0 v.Node v.Seq v.Trust.Threshold v.Trust.Nodes v.Trust.Inner v.Votes v.Accepts v.Confirms v.Heard=_:=ybp v h5 h6 h3 v.Confirms (by omega) v.Confirms 0 rfl;rw[q9x _ h1,qbb _ (by omega),qbb _ (by omega),qbb _ (by omega),qyh _ (by omega),qyh _ (by omega),g1];simp only[bS,qs1];unfold q23 inR ltB leB;by_cases e1:v.Node<0
 .have:¬0<=v.Node:=by omega
  simp[e1,this]
 grind
structure Ready(v:Voter):Prop where
 node:inR v.Node=true
 seq:1<=v.Seq/\v.Seq<=1000000
 tr:valid v.Trust=true
 votes:plainC v.Votes=true
 accs:plainC v.Accepts=true
 confs:plainC v.Confirms=true
 cons:consC v.Accepts=true
 sub:∀x∈v.Confirms,x∈v.Accepts
 heard:q3g v.Node none v.Heard=true
theorem q0p{v:Voter}:q23 v=true↔Ready v/\consC v.Votes=true:=by
 simp only[q23,aT,dT',List.all_eq_true];constructor;·rintro⟨h1,h2,h3,h4,h5,h6,h7,h8,h9,h10,h11⟩;exact⟨⟨h1,⟨h2,h3⟩,h4,h5,h6,h7,h9,h10,h11⟩,h8⟩
 .rintro⟨⟨h1,⟨h2,h3⟩,h4,h5,h6,h7,h9,h10,h11⟩,h8⟩;simp_all
def allM(v:Voter):List Message:=v.Heard++[say v]
theorem Ready.msg{v:Voter}(h:Ready v):∀m∈v.Heard,msgB m=true/\m.Node≠v.Node:=(q22.1 h.heard).1
theorem Ready.say{v:Voter}(h:Ready v):msgB (say v)=true:=q25.2 ⟨h.node,h.seq.1,h.tr,h.votes,h.accs⟩
theorem Ready.all{v:Voter}(h:Ready v):∀m∈allM v,msgB m=true:=fun m hm=>by
 rcases List.mem_append.1 hm with hm|hm;·exact(h.msg m hm).1
 .simp at hm;subst hm;exact h.say
theorem Ready.len{v:Voter}(h:Ready v):(allM v).length<=11:=by have:=qqw h.heard;simp[allM];omega
theorem Ready.hlen{v:Voter}(h:Ready v):v.Heard.length<=10:=qqw h.heard
theorem Ready.alen{v:Voter}(h:Ready v):v.Accepts.length<=128:=q42 h.accs
theorem Ready.vlen{v:Voter}(h:Ready v):v.Votes.length<=128:=q42 h.votes
theorem Ready.clen{v:Voter}(h:Ready v):v.Confirms.length<=128:=q42 h.confs
theorem Ready.small{v:Voter}(h:Ready v):SmallV v:=⟨q3e h.tr,by have:=h.vlen;omega,by have:=h.alen;omega,by have:=h.clen;omega,by have:=h.hlen;omega,fun m hm=>q12 (h.msg m hm).1⟩
theorem qv7(v:Voter):z8a v=some (say v):=yk5 _ _ (by rw[Trust.etaM];rfl)
theorem qok(v:Voter):z86 v=some (say v):=yfo _ _ (by rw[Trust.etaM];rfl)
theorem q8q(m:Message):Message.mk m.Node m.Seq (Trust.mk m.Trust.Threshold m.Trust.Nodes m.Trust.Inner) m.Votes m.Accepts=m:=by simp
theorem q0x(v:Voter):Voter.mk v.Node v.Seq (Trust.mk v.Trust.Threshold v.Trust.Nodes v.Trust.Inner) v.Votes v.Accepts v.Confirms v.Heard=v:=by simp
theorem qpj{v:Voter}(hl:v.Heard.length<1000000):z87 v=some (allM v):=by apply yfa;rw[q07 (by simp[q06];omega),qok,bS,q8q,q07 (by simp[q06];omega)];rfl
theorem qlb(l:List Message)(hl:l.length<1000000):z0x l=some ((),l):=yer _ _ (by rw[q07 (by simp[q06];omega)];rfl)
theorem q3v(l:List Claim)(hl:l.length<1000000):z04 l=some ((),l):=ycb _ _ (by rw[q07 (by simp[q06];omega)];rfl)
def q5w(l:List Message):List Claim:=l.flatMap fun m=>m.Votes++m.Accepts
def known(v:Voter):List Claim:=q0k (q5w (allM v))
theorem y0f{m:Message}(h:msgB m=true):∀x∈m.Votes++m.Accepts,vcl x=true:=fun x hx=>by
 obtain⟨_,_,_,h1,h2⟩:=q25.1 h;rcases List.mem_append.1 hx with hx|hx;·exact(q0v.1 h1).1 x hx
 .exact(q0v.1 h2).1 x hx
theorem qsq(l:List Message)(hl:l.length<=11)(hm:∀m∈l,msgB m=true):∀(suf:List Message)(i:Nat)(acc:List Claim),i<=l.length->l.drop i=suf->acc.length<=256*i->(∀x∈acc,vcl x=true)->z4w acc l ((l.length:Nat):Int) (i:Int)=some (q0k (acc++q5w suf))
 |[],i,acc,hi,h,ha,hv=>by apply ybs;rw[q0b h,cF,qn7 acc (by omega) hv];simp[q5w]|m::suf,i,acc,hi,h,ha,hv=>by
  have hlt:=q09 h;have g:=hm m (List.mem_of_mem_drop (i:=i) (by simp_all));obtain⟨_,_,_,g1,g2⟩:=q25.1 g;have:=q42 g1;have:=q42 g2;apply ybs;rw[q05 h,cT,q03 h,q07 (by simp[q06];omega),q07 (by simp[q06];omega),q02 (by omega),qsq l hl hm suf (i+1) _ hlt (q01 h) (by grind) (fun x hx=>by
   rw[List.append_assoc]at hx;rcases List.mem_append.1 hx with hx|hx;·simp_all
   .exact y0f g x hx)];simp[q5w]
theorem y26{v:Voter}(h:Ready v):z7t (allM v)=some (known v):=by apply yi0;have:=qsq (allM v) h.len h.all (allM v) 0 [] (by omega) rfl (by simp) (by simp);exact this
theorem qfp(a b:List Claim):q0k (q0k a++q0k b)=q0k (a++b):=by refine qhe (q2o _) (q2o _) fun x=>?_;simp only[q1b,List.mem_append];simp_all
theorem qsv(v:Voter)(l:List Message)(hl:l.length<1000000)(hm:∀m∈l,msgB m=true):∀(suf:List Message)(i:Nat)(acc:List Claim),l.drop i=suf->z5o (q0k acc) l ((l.length:Nat):Int) (i:Int) v.Node v.Seq v.Trust.Threshold v.Trust.Nodes v.Trust.Inner v.Votes v.Accepts v.Confirms v.Heard=some (q0k (acc++q5w suf))|[],i,acc,h=>by apply ybc;rw[q0b h,cF];simp[q5w]|m::suf,i,acc,h=>by have hlt:=q09 h;have g:=q12 (hm m (List.mem_of_mem_drop (i:=i) (by simp_all)));have h1:=g.votes;have h2:=g.accs;have h3:=q4l acc;have h4:=q4l (m.Votes++m.Accepts);apply ybc;rw[q05 h,cT,q03 h,qbz _ _ (by omega) (by omega),bS,qbz _ _ (by omega) (by omega),bS,qfp,q02 (by omega),qsv v l hl hm suf (i+1) _ (q01 h)];simp[q5w]
theorem y6a{v:Voter}(h:Ready v):z8r v=some (known v):=by
 have hlen:=h.len;apply yk8;rw[qpj (by have:=h.hlen;omega),bS];have hne:allM v≠[]:=by simp[allM]
 obtain⟨m,suf,hms⟩:=List.exists_cons_of_ne_nil hne;have hd:(allM v).drop 0=m::suf:=by rw[List.drop_zero,hms]
 have g:=q12 (h.all m (by rw[hms];simp));have h1:=g.votes;have h2:=g.accs;have h4:=q4l (m.Votes++m.Accepts);apply yha;have l0:ltB 0 (((allM v).length:Nat):Int)=true:=q05 (i:=0) hd;have n0:∀k:Message->Option (List Claim),nth (allM v) 0 k=k m:=fun k=>q03 (i:=0) hd k;rw[l0,cT,n0,qbz _ _ (by omega) (by omega),bS,qbz _ _ (by simp) (by omega),bS,show([]:List Claim)++q0k (m.Votes++m.Accepts)=q0k []++q0k (m.Votes++m.Accepts)from rfl,qfp,show addI .i64 0 1=((1:Nat):Int)from rfl,qsv v (allM v) (by omega) h.all suf 1 _ (by rw[hms];rfl)];rw[known,hms];rfl
def viewV(v:Voter):Config:=viewC v.Node v.Trust v.Heard
def canB(v:Voter)(x:Claim):Bool:=!decide (x∈v.Accepts)&&(decide (∀y∈v.Accepts,¬Contra x y)&&accB (viewV v) v.Node.toNat (votes (allM v) x) (q0u (allM v) x))
def nextV(v:Voter):Option Claim:=(known v).find? (canB v)
theorem Ready.view{v:Voter}(h:Ready v):q1v (viewV v):=qtw h.tr fun m hm=>(h.msg m hm).1
theorem Ready.node'{v:Voter}(h:Ready v):v.Node.toNat<10/\((v.Node.toNat:Nat):Int)=v.Node:=by have:=q4c h.node;omega
theorem q7a{v:Voter}{x:Claim}(h:x∈known v):vcl x=true:=(q1b.1 h).1
theorem qct{A:List Claim}(h:consC A=true)(x:Claim):consC (A++[x])=decide (∀y∈A,¬Contra x y):=by
 rw[Bool.eq_iff_iff,q55,dT'];rw[q55]at h;constructor;·simp_all
 .intro g a ha b hb;rcases List.mem_append.1 ha with ha'|ha'<;>rcases List.mem_append.1 hb with hb'|hb';·simp_all
  .simp at hb';subst hb';exact fun hc=>g a ha' hc.symm
  .simp_all
  .simp at ha' hb';subst ha';subst hb';exact fun hc=>hc.2 rfl
theorem qsy{v:Voter}(h:Ready v)(l:List Claim)(hl:l.length<=128)(hv:∀x∈l,vcl x=true):∀(suf:List Claim)(i:Nat),l.drop i=suf->z3s (allM v) l ((l.length:Nat):Int) (i:Int) v.Node v.Seq v.Trust.Threshold v.Trust.Nodes v.Trust.Inner v.Votes v.Accepts v.Confirms v.Heard (viewV v).Members 0 0=some (match suf.find? (canB v)with|some x=>(x,true)|none=>(⟨0,0⟩,false))
 |[],i,g=>by apply ya1;rw[q0b g];rfl|y::suf,i,g=>by
  have hlt:=q09 g;have hlen:=h.len;have halen:=h.alen;have hy:=hv y (List.mem_of_mem_drop (i:=i) (by rw[g];simp));have ih:=qsy h l hl hv suf (i+1) (q01 g);obtain⟨n1,n2⟩:=h.node';have hvc:∀x∈v.Accepts++[y],vcl x=true:=fun x hx=>by
   rcases List.mem_append.1 hx with hx|hx;·exact(q0v.1 h.accs).1 x hx
   .simp at hx;subst hx;exact hy
  have hacc:z54 ⟨(viewV v).Members⟩ v.Node ((votes (allM v) y:Nat):Int) ((q0u (allM v) y:Nat):Int)=some (accB (viewV v) v.Node.toNat (votes (allM v) y) (q0u (allM v) y)):=by have:=y7w h.view (qiy h.all y) (q3w h.all y) n1;rw[n2]at this;exact this
  apply ya1;rw[q05 g,cT,q03 g,qkk _ (by omega),bS,q3v _ (by omega),bS,q07 (by simp[q06];omega),qo9 _ (by simp;omega) hvc,bS,qct h.cons,y6h _ (by omega) h.all,bS,qz3 _ (by omega) h.all,bS,hacc,bS,q02 (by omega),ih,List.find?_cons];simp only[canB];grind
theorem qrd{v:Voter}(h:Ready v):z7k v (viewV v)=some (match nextV v with|some x=>(x,true)|none=>(⟨0,0⟩,false)):=by apply yif;have hh:=h.hlen;rw[qlb _ (by omega),bS,qv7,bS,q8q,q07 (by simp[q06];omega)];have:z7t (v.Heard++[say v])=_:=y26 h;rw[this,bS];exact qsy h (known v) (q4l _) (fun x hx=>q7a hx) (known v) 0 rfl
theorem y4j{v:Voter}(h:Ready v)(x:Claim):∀(suf:List Claim)(i:Nat),v.Accepts.drop i=suf->z64 v.Accepts ((v.Accepts.length:Nat):Int) (i:Int) v.Node v.Seq v.Trust.Threshold v.Trust.Nodes v.Trust.Inner v.Votes v.Accepts v.Confirms v.Heard x.Topic x.Value=some (decide (∀y∈suf,¬Contra x y)&&accB (viewV v) v.Node.toNat (votes (allM v) x) (q0u (allM v) x))
 |[],i,g=>by
  have hlen:=h.len;have hh:=h.hlen;obtain⟨n1,n2⟩:=h.node';have hacc:z7e (viewV v) v.Node ((votes (allM v) x:Nat):Int) ((q0u (allM v) x:Nat):Int)=some (accB (viewV v) v.Node.toNat (votes (allM v) x) (q0u (allM v) x)):=by have:=y6z h.view (qiy h.all x) (q3w h.all x) n1;simp_all
  have hv:z7i v.Node v.Trust v.Heard=some (viewV v):=qyd h.node h.tr v.Heard (by omega) h.msg;apply ya4;rw[q0b g,cF,q0x,qpj (by omega),bS,Trust.etaM,hv,bS,show Claim.mk x.Topic x.Value=x from rfl,y1w _ (by omega) h.all,bS,qxk _ (by omega) h.all,bS,hacc];simp|y::suf,i,g=>by have hlt:=q09 g;have:=h.alen;apply ya4;rw[q05 g,cT,q03 g,show Claim.mk x.Topic x.Value=x from rfl,qd7,bS,q02 (by omega),y4j h x suf (i+1) (q01 g)];by_cases hc:Contra x y<;>simp[hc]
theorem ydv{v:Voter}(h:Ready v)(x:Claim):z9l v x=some (canB v x):=by have:=h.alen;apply yk0;rw[qb8 _ (by omega),bS,canB];have h1:z64 v.Accepts ((v.Accepts.length:Nat):Int) 0 v.Node v.Seq v.Trust.Threshold v.Trust.Nodes v.Trust.Inner v.Votes v.Accepts v.Confirms v.Heard x.Topic x.Value=_:=y4j h x v.Accepts 0 rfl;grind
def withA(v:Voter)(x:Claim):Voter:={v with Accepts:=q0k (v.Accepts++[x])}
def q1t:Nat->Voter->Voter|0,v=>v|n+1,v=>match nextV v with|none=>v|some x=>q1t n (withA v x)
theorem q8s{v:Voter}{x:Claim}(h:nextV v=some x):x∈known v/\x∉v.Accepts/\(∀y∈v.Accepts,¬Contra x y)/\accB (viewV v) v.Node.toNat (votes (allM v) x) (q0u (allM v) x)=true:=by have h1:=List.mem_of_find?_eq_some h;have h2:=List.find?_some h;simp only[canB,aT,Bool.not_eq_true',dT',decide_eq_false_iff_not]at h2;simp_all
theorem y5y{v:Voter}(h:nextV v=none):∀x∈known v,canB v x=false:=fun x hx=>by have:=List.find?_eq_none.1 h x hx;simp_all
theorem qeo{A:List Claim}{x y:Claim}(hA:∀z∈A,vcl z=true)(hx:vcl x=true):y∈q0k (A++[x])↔y∈A\/y=x:=by rw[q1b,List.mem_append,List.mem_singleton];grind
theorem Ready.avc{v:Voter}(h:Ready v):∀z∈v.Accepts,vcl z=true:=(q0v.1 h.accs).1
theorem Ready.withA{v:Voter}(h:Ready v){x:Claim}(hx:vcl x=true)(hc:∀y∈v.Accepts,¬Contra x y):Ready (withA v x):=by
 have hm:=fun y=>qeo (y:=y) h.avc hx;refine⟨h.node,h.seq,h.tr,h.votes,q2o _,h.confs,?_,fun y hy=>(hm y).2 (.inl (h.sub y hy)),h.heard⟩;have:consC (v.Accepts++[x])=true:=by rw[qct h.cons,dT'];omega
 rw[q55]at this⊢;intro a ha b hb;exact this a (q1b.1 ha).2 b (q1b.1 hb).2
theorem qv9{A:List Claim}{x:Claim}(hA:plainC A=true)(hx:vcl x=true)(hn:x∉A):(q0k (A++[x])).length=A.length+1:=by
 have hnd:∀{l:List Claim},l.Pairwise ltc->l.Nodup:=fun h=>List.Pairwise.imp (fun{a b}(hab:ltc a b)=>fun(e:a=b)=>q6w a (by simp_all)) h;have hp:(q0k (A++[x])).Perm (A++[x]):=(List.perm_ext_iff_of_nodup (hnd (qdz _)) (by rw[List.nodup_append];exact⟨hnd (q0v.1 hA).2,by simp,fun a ha b hb=>by grind⟩)).2 fun y=>by rw[qeo (q0v.1 hA).1 hx];simp
 rw[hp.length_eq];simp
theorem q7r:∀(n:Nat)(v:Voter),Ready v->128-v.Accepts.length<n->Ready (q1t n v)/\nextV (q1t n v)=none|0,v,h,hn=>by omega|n+1,v,h,hn=>by rw[q1t];cases hx:nextV v with|none=>simp_all|some x=>obtain⟨h1,h2,h3,_⟩:=q8s hx;have hv:=q7a h1;have hr:=h.withA hv h3;have hl:=qv9 h.accs hv h2;have hal:(q0k (v.Accepts++[x])).length<=128:=hr.alen;exact q7r n (withA v x) hr (by show 128-(q0k (v.Accepts++[x])).length<n;omega)
theorem qb0:∀(n:Nat)(v:Voter),(q1t n v).Node=v.Node/\(q1t n v).Seq=v.Seq/\(q1t n v).Trust=v.Trust/\(q1t n v).Votes=v.Votes/\(q1t n v).Confirms=v.Confirms/\(q1t n v).Heard=v.Heard|0,v=>⟨rfl,rfl,rfl,rfl,rfl,rfl⟩|n+1,v=>by rw[q1t];cases nextV v with|none=>simp|some x=>exact qb0 n (withA v x)
def confC(v:Voter)(C:List Claim)(l:List Claim):List Claim:=l.foldl (fun C x=>if confB (viewV v) v.Node.toNat (q0u (allM v) x)then q0k (C++[x])else C) C
def finish(v:Voter):Voter:={v with Confirms:=confC v v.Confirms v.Accepts}
def q0m(v:Voter):Voter:=finish (q1t 200 v)
theorem qky(v:Voter):∀(l C:List Claim),plainC C=true->plainC (confC v C l)=true
 |[],C,h=>h|x::l,C,h=>by
  show plainC (confC v (if _ then _ else _) l)=true;refine qky v l _ ?_;split;·exact q2o _
  omega
theorem qfx(v:Voter){y:Claim}:∀(l C:List Claim),(∀x∈C,vcl x=true)->(∀x∈l,vcl x=true)->(y∈confC v C l↔y∈C\/y∈l/\confB (viewV v) v.Node.toNat (q0u (allM v) y)=true)
 |[],C,_,_=>by simp[confC]|x::l,C,hC,hl=>by
  show y∈confC v (if _ then _ else _) l↔_;have hx:=hl x (by simp);have hl':∀z∈l,vcl z=true:=fun z hz=>hl z (by grind);by_cases hc:confB (viewV v) v.Node.toNat (q0u (allM v) x)=true;·rw[if_pos hc,qfx v l _ (fun z hz=>(q1b.1 hz).1) hl',qeo hC hx];grind
  .rw[if_neg hc,qfx v l C hC hl'];grind
theorem Ready.finish{v:Voter}(h:Ready v):Ready (finish v):=⟨h.node,h.seq,h.tr,h.votes,h.accs,qky v _ _ h.confs,h.cons,fun x hx=>by
  rcases(qfx v _ _ (q0v.1 h.confs).1 h.avc).1 hx with hx|hx;·exact h.sub x hx
  .exact hx.1,h.heard⟩
theorem Ready.settle{v:Voter}(h:Ready v):Ready (q0m v):=((q7r 200 v h (by omega)).1).finish
theorem qkn:∀t:Trust,Fits t->z5z t=some t:=by
 apply Trust.ind;intro t ih ht;have hsz:size t<1073741824:=ht;rw[q3a]at hsz;have l1:∀(suf:List Trust)(i:Nat)(acc:List Trust)(a8:Int)(a10:List Int)(a12:List Trust)(a14:Int)(a16:List Int)(a18:List Trust)(a20:Int)(a22:List Int),t.Inner.drop i=suf->acc.length<=i->z4u t.Inner ((t.Inner.length:Nat):Int) (i:Int) a8 a10 a12 a14 a16 a18 a20 a22 acc=some ⟨a20,a22,acc++suf⟩:=by intro suf;induction suf with|nil=>intro i acc a8 a10 a12 a14 a16 a18 a20 a22 h ha;apply y9f;simp only[q0b h,cF,List.append_nil]|cons y suf ihs=>intro i acc a8 a10 a12 a14 a16 a18 a20 a22 h ha;have hlt:=q09 h;have hy:y∈t.Inner:=List.mem_of_mem_drop (by rw[h];exact List.mem_cons_self);apply y9f;simp only[q05 h,cT,q03 h,ih y hy (ht.mem hy),bS,q02 (show i<4611686018427387904 by omega),Trust.etaM];rw[q07 (by simp[q06];omega),ihs (i+1) (acc++[y]) _ _ _ _ _ _ _ _ (q01 h) (by simp;omega)];simp
 apply ygz;have h1:z1k t.Nodes=some ((),t.Nodes):=ybo _ _ (by rw[q07 (by simp[q06];omega)];rfl);rw[h1,bS,show(0:Int)=((0:Nat):Int)from rfl,l1 t.Inner 0 [] _ _ _ _ _ _ _ _ rfl (Nat.le_refl _)];simp
theorem qjn{m:Message}(ht:Fits m.Trust)(h1:m.Votes.length<1000000)(h2:m.Accepts.length<1000000):z3q m=some m:=by apply yh8;rw[qkn _ ht,bS,q3v _ h1,bS,q3v _ h2,bS,Trust.etaM]
theorem qrc(l:List Message)(hl:l.length<1000000)(hm:∀m∈l,z3q m=some m)(n s:Int)(t:Int)(ns:List Int)(is:List Trust)(va aa ca:List Claim)(d1 d2 d3:Int)(d4:List Int)(d5:List Trust)(d6 d7 d8:List Claim)(d9:List Message):∀(suf:List Message)(i:Nat)(acc:List Message),l.drop i=suf->acc.length<=i->z4v l ((l.length:Nat):Int) (i:Int) n s t ns is va aa ca acc d1 d2 d3 d4 d5 d6 d7 d8 d9=some ⟨n,s,⟨t,ns,is⟩,va,aa,ca,acc++suf⟩|[],i,acc,h,ha=>by apply y97;rw[q0b h,cF,List.append_nil]|m::suf,i,acc,h,ha=>by have hlt:=q09 h;apply y97;rw[q05 h,cT,q03 h,hm m (List.mem_of_mem_drop (i:=i) (by simp_all)),bS,q8q,q07 (by simp[q06];omega),q02 (by omega),qrc l hl hm n s t ns is va aa ca d1 d2 d3 d4 d5 d6 d7 d8 d9 suf (i+1) _ (q01 h) (by simp_all)];simp
structure Fresh(v:Voter):Prop where
 tr:Fits v.Trust
 votes:v.Votes.length<1000000
 accs:v.Accepts.length<1000000
 confs:v.Confirms.length<1000000
 heard:v.Heard.length<1000000
 msgs:∀m∈v.Heard,z3q m=some m
theorem qeu{v:Voter}(h:Fresh v):z2s v=some v:=by apply yi4;rw[qkn _ h.tr,bS,q3v _ h.votes,bS,q3v _ h.accs,bS,q3v _ h.confs,bS];have:=qrc v.Heard h.heard h.msgs v.Node v.Seq v.Trust.Threshold v.Trust.Nodes v.Trust.Inner v.Votes v.Accepts v.Confirms 0 0 0 [] [] [] [] [] [] v.Heard 0 [] rfl (Nat.le_refl _);simp_all
theorem y76{m:Message}(h:msgB m=true):z3q m=some m:=qjn (q3k (q25.1 h).2.2.1).1 (q12 h).votes (q12 h).accs
theorem Ready.fresh{v:Voter}(h:Ready v)(s:Int):Fresh {v with Seq:=s}:=⟨(q3k h.tr).1,by have:=h.vlen;grind,by have:=h.alen;grind,by have:=h.clen;grind,by have:=h.hlen;grind,fun m hm=>y76 (h.msg m hm).1⟩
theorem quu{v:Voter}(h:Ready v)(l:List Claim)(hl:l.length<=128)(hv:∀x∈l,vcl x=true)(d1 d2 d3:Int)(d4:List Int)(d5:List Trust)(d6 d7 d8:List Claim)(d9:List Message)(e1 e2:Int):∀(suf:List Claim)(i:Nat)(C:List Claim),l.drop i=suf->plainC C=true->z31 (allM v) l ((l.length:Nat):Int) (i:Int) v.Node v.Seq v.Trust.Threshold v.Trust.Nodes v.Trust.Inner v.Votes v.Accepts C v.Heard d1 d2 d3 d4 d5 d6 d7 d8 d9 (viewV v).Members e1 e2=some {v with Confirms:=confC v C suf}
 |[],i,C,g,hC=>by apply ycd;rw[q0b g,cF,Trust.etaM];rfl|y::suf,i,C,g,hC=>by
  have hlt:=q09 g;have hlen:=h.len;have hcl:=q42 hC;have hy:=hv y (List.mem_of_mem_drop (i:=i) (by simp_all));obtain⟨n1,n2⟩:=h.node';have hacc:z4p ⟨(viewV v).Members⟩ v.Node ((q0u (allM v) y:Nat):Int)=some (confB (viewV v) v.Node.toNat (q0u (allM v) y)):=by have:=y8n h.view (q3w h.all y) n1;simp_all
  apply ycd;rw[q05 g,cT,q03 g,qz3 _ (by omega) h.all,bS,hacc,bS,qvi C y (by omega) (q0v.1 hC).1 hy,bS,q02 (by omega)];show _=some {v with Confirms:=confC v (if confB (viewV v) v.Node.toNat (q0u (allM v) y)then q0k (C++[y])else C) suf};cases hc:confB (viewV v) v.Node.toNat (q0u (allM v) y)with|true=>rw[cT,if_pos rfl];exact quu h l hl hv d1 d2 d3 d4 d5 d6 d7 d8 d9 e1 e2 suf (i+1) _ (q01 g) (q2o _)|false=>rw[cF,if_neg (by simp)];exact quu h l hl hv d1 d2 d3 d4 d5 d6 d7 d8 d9 e1 e2 suf (i+1) _ (q01 g) hC
theorem y5i(d1 d2 d3:Int)(d4:List Int)(d5:List Trust)(d6 d7 d8:List Claim)(d9:List Message):∀(n:Nat)(v:Voter),Ready v->128-v.Accepts.length<n->∀r:Claim×Bool,r=(match nextV v with|some x=>(x,true)|none=>(⟨0,0⟩,false))->z52 r.2 v.Node v.Seq v.Trust.Threshold v.Trust.Nodes v.Trust.Inner v.Votes v.Accepts v.Confirms v.Heard d1 d2 d3 d4 d5 d6 d7 d8 d9 (viewV v).Members r.1.Topic r.1.Value=some (finish (q1t n v))|0,v,h,hn,_,_=>by omega|n+1,v,h,hn,r,hr=>by rw[q1t];apply yhz;cases hx:nextV v with|none=>rw[hx]at hr;subst hr;have hh:=h.hlen;simp only[cF];rw[qlb _ (by omega),bS,q0x,qv7,bS,q8q,q07 (by simp[q06];omega)];have:=quu h v.Accepts h.alen h.avc d1 d2 d3 d4 d5 d6 d7 d8 d9 0 0 v.Accepts 0 v.Confirms rfl h.confs;exact this|some x=>
   rw[hx]at hr;subst hr;obtain⟨h1,h2,h3,_⟩:=q8s hx;have hv:=q7a h1;have hr:=h.withA hv h3;have hl:=qv9 h.accs hv h2;have hal:=h.alen;have hal':(q0k (v.Accepts++[x])).length<=128:=hr.alen;simp only[cT];rw[show Claim.mk x.Topic x.Value=x from rfl,qvi _ _ (by omega) h.avc hv,bS];have hw:Voter.mk v.Node v.Seq (Trust.mk v.Trust.Threshold v.Trust.Nodes v.Trust.Inner) v.Votes (q0k (v.Accepts++[x])) v.Confirms v.Heard=withA v x:=by rw[Trust.etaM];rfl
   rw[hw];have hn':z7k (withA v x) ⟨(viewV v).Members⟩=_:=qrd hr;rw[hn',bS];exact y5i d1 d2 d3 d4 d5 d6 d7 d8 d9 n (withA v x) hr (by grind) _ rfl
theorem qts{v:Voter}(h:Ready v):z7s v=some (q0m v):=by have hh:=h.hlen;apply yh3;have hv:z6t v.Node v.Trust v.Heard=some (viewV v):=y71 h.node h.tr v.Heard (by omega) h.msg;rw[hv,bS,qrd h,bS];exact y5i _ _ _ _ _ _ _ _ _ 200 v h (by omega) _ rfl
noncomputable def turnV(b v:Voter):Voter:=if b.Trust=(q0m v).Trust/\b.Votes=(q0m v).Votes/\b.Accepts=(q0m v).Accepts then q0m v else{q0m v with Seq:=(q0m v).Seq+1}
theorem qh8{b v:Voter}(hb:Ready b)(h:Ready v):z3l b v=some (turnV b v):=by
 have hs:=h.settle;have h1:=hb.vlen;have h2:=hb.alen;have hq:=hs.seq;have f0:z2s (q0m v)=some (q0m v):=qeu (hs.fresh (q0m v).Seq);have f1:z2s {q0m v with Seq:=(q0m v).Seq+1}=some {q0m v with Seq:=(q0m v).Seq+1}:=qeu (hs.fresh _);have hw:Voter.mk (q0m v).Node (addI .i64 (q0m v).Seq 1) (Trust.mk (q0m v).Trust.Threshold (q0m v).Trust.Nodes (q0m v).Trust.Inner) (q0m v).Votes (q0m v).Accepts (q0m v).Confirms (q0m v).Heard={q0m v with Seq:=(q0m v).Seq+1}:=by rw[Trust.etaM,q2v (by omega) (by omega)]
 apply yff;rw[qts h,bS,qw9 _ (q3e hb.tr),bS,qrt _ _ (by omega),bS,qrt _ _ (by omega),bS,hw,f1,bS,f0,bS,q0x,q0x,turnV];by_cases e1:b.Trust=(q0m v).Trust<;>by_cases e2:b.Votes=(q0m v).Votes<;>by_cases e3:b.Accepts=(q0m v).Accepts<;>simp[e1,e2,e3]
noncomputable def turnE(b w:Voter):Voter:=if b.Trust=w.Trust/\b.Votes=w.Votes/\b.Accepts=w.Accepts then w else{w with Seq:=w.Seq+1}
section
variable {b : Voter} (hb : SmallV b) (hbs : 0 <= b.Seq /\ b.Seq < 4611686018427387904) (d1 d2 d3 : Int) (d4 : List Int) (d5 : List Trust) (d6 d7 d8 : List Claim) (d9 : List Message)
include hb hbs
theorem qu0{v:Voter}(h:Ready v)(hs:v.Seq=b.Seq)(l:List Claim)(hl:l.length<=128)(hv:∀x∈l,vcl x=true):∀(suf:List Claim)(i:Nat)(C:List Claim),l.drop i=suf->plainC C=true->z2p (allM v) l ((l.length:Nat):Int) (i:Int) b.Node b.Seq b.Trust.Threshold b.Trust.Nodes b.Trust.Inner b.Votes b.Accepts b.Confirms b.Heard v.Node v.Seq v.Trust.Threshold v.Trust.Nodes v.Trust.Inner v.Votes v.Accepts C v.Heard d1 d2 d3 d4 d5 d6 d7 d8 d9=some (turnE b {v with Confirms:=confC v C suf})
 |[],i,C,g,hC=>by have h1:=hb.votes;have h2:=hb.accs;apply y9g;rw[q0b g,cF,qs6 _ _ (by omega),bS,qs6 _ _ (by omega),bS,Trust.etaM,Trust.etaM,qyz _ hb.tr,bS,q2v (by omega) (by omega),<-hs,turnE];show _=some (if b.Trust=v.Trust/\b.Votes=v.Votes/\b.Accepts=v.Accepts then _ else _);by_cases e1:b.Trust=v.Trust<;>by_cases e2:b.Votes=v.Votes<;>by_cases e3:b.Accepts=v.Accepts<;>simp[e1,e2,e3,confC]|y::suf,i,C,g,hC=>by
  have hlt:=q09 g;have hlen:=h.len;have hh:=h.hlen;have hcl:=q42 hC;have hy:=hv y (List.mem_of_mem_drop (i:=i) (by simp_all));obtain⟨n1,n2⟩:=h.node';have hacc:z71 (viewV v) v.Node ((q0u (allM v) y:Nat):Int)=some (confB (viewV v) v.Node.toNat (q0u (allM v) y)):=by have:=y6q h.view (q3w h.all y) n1;simp_all
  have hvw:z7i v.Node v.Trust v.Heard=some (viewV v):=qyd h.node h.tr v.Heard (by omega) h.msg;apply y9g;rw[q05 g,cT,q03 g,Trust.etaM,hvw,bS,qxk _ (by omega) h.all,bS,hacc,bS,qum C y (by omega),bS,q02 (by omega)];show _=some (turnE b {v with Confirms:=confC v (if confB (viewV v) v.Node.toNat (q0u (allM v) y)then q0k (C++[y])else C) suf});cases hc:confB (viewV v) v.Node.toNat (q0u (allM v) y)with|true=>rw[cT,if_pos rfl];exact qu0 h hs l hl hv suf (i+1) _ (q01 g) (q2o _)|false=>rw[cF,if_neg (by simp)];exact qu0 h hs l hl hv suf (i+1) _ (q01 g) hC
theorem y2l{v:Voter}(h:Ready v)(hs:v.Seq=b.Seq)(l:List Claim)(hl:l.length<=128)(hv:∀x∈l,vcl x=true)(R:Voter):∀(suf:List Claim)(i:Nat),l.drop i=suf->(∀x,suf.find? (canB v)=some x->z4f true b.Node b.Seq b.Trust.Threshold b.Trust.Nodes b.Trust.Inner b.Votes b.Accepts b.Confirms b.Heard v.Node v.Seq v.Trust.Threshold v.Trust.Nodes v.Trust.Inner v.Votes (q0k (v.Accepts++[x])) v.Confirms v.Heard d1 d2 d3 d4 d5 d6 d7 d8 d9=some R)->(suf.find? (canB v)=none->turnE b (finish v)=R)->z3k false l ((l.length:Nat):Int) (i:Int) b.Node b.Seq b.Trust.Threshold b.Trust.Nodes b.Trust.Inner b.Votes b.Accepts b.Confirms b.Heard v.Node v.Seq v.Trust.Threshold v.Trust.Nodes v.Trust.Inner v.Votes v.Accepts v.Confirms v.Heard d1 d2 d3 d4 d5 d6 d7 d8 d9=some R|[],i,g,_,hnone=>by have hh:=h.hlen;apply ycc;rw[q0b g,cF];apply yez;rw[cF,q0x,qpj (by omega),bS,<-hnone rfl];exact qu0 hb hbs d1 d2 d3 d4 d5 d6 d7 d8 d9 h hs v.Accepts h.alen h.avc v.Accepts 0 v.Confirms rfl h.confs|y::suf,i,g,hsome,hnone=>by have hlt:=q09 g;have hal:=h.alen;apply ycc;rw[q05 g,cT,q03 g,q0x,ydv h,bS,qum _ _ (by omega),bS,q02 (by omega)];cases hc:canB v y with|true=>simp_all|false=>rw[cF];exact y2l h hs l hl hv R suf (i+1) (q01 g) (fun x hx=>hsome x (by simp_all)) (fun hx=>hnone (by simp_all))
theorem y25:∀(n:Nat)(v:Voter),Ready v->v.Seq=b.Seq->128-v.Accepts.length<n->z4f true b.Node b.Seq b.Trust.Threshold b.Trust.Nodes b.Trust.Inner b.Votes b.Accepts b.Confirms b.Heard v.Node v.Seq v.Trust.Threshold v.Trust.Nodes v.Trust.Inner v.Votes v.Accepts v.Confirms v.Heard d1 d2 d3 d4 d5 d6 d7 d8 d9=some (turnE b (finish (q1t n v)))
 |0,v,h,hs,hn=>by omega|n+1,v,h,hs,hn=>by
  apply yg8;rw[cT,q0x,y6a h,bS];refine y2l hb hbs d1 d2 d3 d4 d5 d6 d7 d8 d9 h hs (known v) (q4l _) (fun x hx=>q7a hx) _ (known v) 0 rfl (fun x hx=>?_) (fun hx=>?_);·have hx':nextV v=some x:=hx;obtain⟨h1,h2,h3,_⟩:=q8s hx';have hv:=q7a h1;have hr:=h.withA hv h3;have hl:=qv9 h.accs hv h2;have hal':(q0k (v.Accepts++[x])).length<=128:=hr.alen;rw[q1t,hx'];exact y25 n (withA v x) hr hs (by show 128-(q0k (v.Accepts++[x])).length<n;omega)
  .have hx':nextV v=none:=hx;rw[q1t,hx']
theorem qa7{v:Voter}(h:Ready v)(hs:v.Seq=b.Seq):z5d b v=some (turnV b v):=by apply yfv;exact y25 hb hbs _ _ _ _ _ _ _ _ _ 200 v h hs (by omega)
end
def q4s:Voter:=⟨0,0,⟨0,[],[]⟩,[],[],[],[]⟩
noncomputable def voteV(v:Voter)(x:Claim):Voter×Int:=if q23 v=false\/vcl x=false then(q4s,1)else if∃y∈v.Votes++v.Accepts,Contra x y then(q4s,14)else if x∈v.Votes then(v,0)else(turnV v {v with Votes:=q0k (v.Votes++[x])},0)
theorem qy2(l:List Claim)(hl:l.length<1152921504606846976)(x:Claim):∀(suf:List Claim)(i:Nat),l.drop i=suf->∃r:Int,z08 l ((l.length:Nat):Int) (i:Int) x.Topic x.Value=some (r,x.Topic,x.Value)/\leB 0 r=decide (∃y∈suf,Contra x y)
 |[],i,h=>by refine⟨-1,y4q _ _ _ _ _ _ ?_,by rfl⟩;rw[q0b h];rfl|y::suf,i,h=>by
  have hlt:=q09 h;obtain⟨r,h1,h2⟩:=qy2 l hl x suf (i+1) (q01 h);have hf:z8h y x.Topic x.Value=some (decide (Contra x y),x.Topic,x.Value):=yhn _ _ _ _ (by rw[show Claim.mk x.Topic x.Value=x from rfl,qmv];rfl);by_cases hc:Contra x y;·refine⟨i,y4q _ _ _ _ _ _ ?_,by simp[leB,hc]⟩;rw[q05 h,cT,q03 h,hf];grind
  .refine⟨r,y4q _ _ _ _ _ _ ?_,by rw[h2];simp[hc]⟩;rw[q05 h,cT,q03 h,hf,bS,q02 (by omega)];simp_all
theorem y2b(l:List Claim)(hl:l.length<1152921504606846976)(x:Claim):z0e l x.Topic x.Value=some (decide (∃y∈l,Contra x y),x.Topic,x.Value):=by obtain⟨r,h1,h2⟩:=qy2 l hl x l 0 rfl;apply ye9;have h3:z0p l x.Topic x.Value=_:=ygk _ _ _ _ h1;simp_all
theorem Ready.withV{v:Voter}(h:Ready v)(x:Claim):Ready {v with Votes:=q0k (v.Votes++[x])}:=⟨h.node,h.seq,h.tr,q2o _,h.accs,h.confs,h.cons,h.sub,h.heard⟩
theorem y5m{v:Voter}(hs:SmallV v)(x:Claim):z9b v x=some (voteV v x):=by apply yhf;rw[qcc hs,bS,qfr,bS,voteV];cases hv:q23 v with|false=>rfl|true=>cases hx:vcl x with|false=>rfl|true=>
   obtain⟨h,hc⟩:=q0p.1 hv;have h1:=h.vlen;have h2:=h.alen;have hw:Voter.mk v.Node v.Seq (Trust.mk v.Trust.Threshold v.Trust.Nodes v.Trust.Inner) (q0k (v.Votes++[x])) v.Accepts v.Confirms v.Heard={v with Votes:=q0k (v.Votes++[x])}:=by simp
   simp only[nT,cF,Bool.true_eq_false,or_self,if_false];rw[y2b _ (by omega),bS,y2b _ (by omega),bS];dsimp only;rw[show Claim.mk x.Topic x.Value=x from rfl,qkk _ (by omega),bS,qeu (h.fresh v.Seq),bS,qvi _ _ (by omega) (q0v.1 h.votes).1 hx,bS,hw,qh8 h (h.withV x),bS,q0x,q0x];by_cases e1:∃y∈v.Votes,Contra x y
   .have:∃y∈v.Votes++v.Accepts,Contra x y:=by grind
    rw[if_pos this];simp only[e1,decide_true,cT];rfl
   .by_cases e2:∃y∈v.Accepts,Contra x y
    .have:∃y∈v.Votes++v.Accepts,Contra x y:=by grind
     rw[if_pos this];simp only[e1,e2,decide_true,decide_false,cT,cF];rfl
    .have:¬∃y∈v.Votes++v.Accepts,Contra x y:=by
      rintro⟨y,h,h'⟩;rcases List.mem_append.1 h with h|h;·exact e1 ⟨y,h,h'⟩
      .exact e2 ⟨y,h,h'⟩
     rw[if_neg this];by_cases e3:x∈v.Votes;·simp only[e1,e2,e3,decide_true,decide_false,cT,cF,if_true]
     grind
theorem qwj{v:Voter}(h:Ready v)(x:Claim)(R:Voter×Int)(l:List Claim)(hl:l.length<1152921504606846976)(d1 d2 d3:Int)(d4:List Int)(d5:List Trust)(d6 d7 d8:List Claim)(d9:List Message)(hR:R=if x∈v.Votes then(v,0)else(turnV v {v with Votes:=q0k (v.Votes++[x])},0)):∀(suf:List Claim)(i:Nat),l.drop i=suf->z5e l ((l.length:Nat):Int) (i:Int) v.Node v.Seq v.Trust.Threshold v.Trust.Nodes v.Trust.Inner v.Votes v.Accepts v.Confirms v.Heard x.Topic x.Value d1 d2 d3 d4 d5 d6 d7 d8 d9=some (if∃y∈suf,Contra x y then(q4s,14)else R)
 |[],i,g=>by
  have h1:=h.vlen;have hq:=h.seq;have hw:Voter.mk v.Node v.Seq (Trust.mk v.Trust.Threshold v.Trust.Nodes v.Trust.Inner) (q0k (v.Votes++[x])) v.Accepts v.Confirms v.Heard={v with Votes:=q0k (v.Votes++[x])}:=by simp
  apply yce;rw[q0b g,cF,show Claim.mk x.Topic x.Value=x from rfl,qb8 _ (by omega),bS,qum _ _ (by omega),bS,q0x,hw,qa7 h.small ⟨by omega,by omega⟩ (h.withV x) rfl,bS,q0x,if_neg (by simp),hR];by_cases e3:x∈v.Votes<;>simp[e3]|y::suf,i,g=>by
  have hlt:=q09 g;apply yce;rw[q05 g,cT,q03 g,show Claim.mk x.Topic x.Value=x from rfl,qd7,bS,q02 (by omega),qwj h x R l hl d1 d2 d3 d4 d5 d6 d7 d8 d9 hR suf (i+1) (q01 g)];by_cases hc:Contra x y;·simp[hc];rfl
  simp_all
theorem qm4{v:Voter}(hs:SmallV v)(x:Claim):z8b v x=some (voteV v x):=by apply ye7;rw[qcv hs,bS,qh6,bS,voteV];cases hv:q23 v with|false=>rfl|true=>cases hx:vcl x with|false=>rfl|true=>
   obtain⟨h,hc⟩:=q0p.1 hv;have h1:=h.vlen;have h2:=h.alen;have h3:=q4l (v.Votes++v.Accepts);simp only[nT,cF,Bool.true_eq_false,or_self,if_false];rw[qbz _ _ (by omega) (by omega),bS];have:=qwj h x _ (q0k (v.Votes++v.Accepts)) (by omega) 0 0 0 [] [] [] [] [] [] rfl (q0k (v.Votes++v.Accepts)) 0 rfl;have h4:∀a b:Int,z5e (q0k (v.Votes++v.Accepts)) (((q0k (v.Votes++v.Accepts)).length:Nat):Int) 0 v.Node v.Seq v.Trust.Threshold v.Trust.Nodes v.Trust.Inner v.Votes v.Accepts v.Confirms v.Heard x.Topic x.Value 0 0 0 [] [] [] [] [] []=_:=fun _ _=>this;rw[h4 0 0];have hiff:(∃y∈q0k (v.Votes++v.Accepts),Contra x y)↔∃y∈v.Votes++v.Accepts,Contra x y:=by
    constructor;·rintro⟨y,g,g'⟩;exact⟨y,(q1b.1 g).2,g'⟩
    .rintro⟨y,g,g'⟩;refine⟨y,q1b.2 ⟨?_,g⟩,g'⟩;rcases List.mem_append.1 g with g|g;·exact(q0v.1 h.votes).1 y g
     .exact h.avc y g
   by_cases e:∃y∈v.Votes++v.Accepts,Contra x y;·rw[if_pos e,if_pos (hiff.2 e)]
   grind
noncomputable def declV(v:Voter)(t:Trust):Voter×Int:=if q23 v=false then(q4s,1)else if verr t≠0 then(q4s,verr t)else if v.Trust=t then(v,0)else(turnV v {v with Trust:=t},0)
theorem Ready.withT{v:Voter}(h:Ready v){t:Trust}(ht:valid t=true):Ready {v with Trust:=t}:=⟨h.node,h.seq,ht,h.votes,h.accs,h.confs,h.cons,h.sub,h.heard⟩
theorem y2a{v:Voter}(hs:SmallV v){t:Trust}(ht:Small t):z7r v t=some (declV v t):=by apply yj2;rw[qcc hs,bS,q9b _ ht,bS,declV];cases hv:q23 v with|false=>rfl|true=>
  obtain⟨h,hc⟩:=q0p.1 hv;simp only[nT,cF,Bool.true_eq_false,if_false];by_cases e:verr t=0
  .rw[e,q0i,cF,if_neg (by simp),qw9 _ hs.tr,bS,qeu (h.fresh v.Seq),bS];have hw:Voter.mk v.Node v.Seq (Trust.mk t.Threshold t.Nodes t.Inner) v.Votes v.Accepts v.Confirms v.Heard={v with Trust:=t}:=by rw[Trust.etaM]
   rw[hw,qh8 h (h.withT ((q4t t).1 e)),bS,q0x,q0x];by_cases e2:v.Trust=t;·rw[if_pos e2,decide_eq_true e2,cT]
   simp_all
  .rw[q1f e,cT,if_pos e];rfl
theorem qkj{v:Voter}(hs:SmallV v){t:Trust}(ht:Small t):z7d v t=some (declV v t):=by apply yio;rw[qcv hs,bS,q9x _ ht,bS,declV];cases hv:q23 v with|false=>rfl|true=>
  obtain⟨h,hc⟩:=q0p.1 hv;have hq:=h.seq;simp only[nT,cF,Bool.true_eq_false,if_false];by_cases e:verr t=0
  .rw[e,q0i,cF,if_neg (by simp),qyz _ hs.tr,bS];have hw:Voter.mk v.Node v.Seq (Trust.mk t.Threshold t.Nodes t.Inner) v.Votes v.Accepts v.Confirms v.Heard={v with Trust:=t}:=by rw[Trust.etaM]
   rw[hw,qa7 hs ⟨by omega,by omega⟩ (h.withT ((q4t t).1 e)) rfl,bS,q0x,q0x];grind
  .rw[q1f e,cT,if_pos e];rfl
def qmx(n:Int)(t:Trust):Voter×Int:=if inR n=false then(q4s,5)else if verr t≠0 then(q4s,verr t)else(⟨n,1,t,[],[],[],[]⟩,0)
theorem y17(n:Int){t:Trust}(ht:Small t):z7p n t=some (qmx n t):=by
 apply yf1;rw[q9b _ ht,bS,qmx,inR,ltB,leB];by_cases e1:n<0
 .have:¬0<=n:=by omega
  simp[e1,this];rfl
 .have e1':0<=n:=by omega
  by_cases e2:10<=n
  .have:¬n<10:=by omega
   simp[e1,e2,this];rfl
  .have e2':n<10:=by omega
   by_cases e:verr t=0;·rw[qkn _ (q3k ((q4t t).1 e)).1];simp[e1,e2,e1',e2',e,neB]
   .simp[e1,e2,e1',e2',e,neB];rfl
theorem y0a(n:Int){t:Trust}(ht:Small t):z8o n t=some (qmx n t):=by
 apply ygb;rw[q9x _ ht,bS,qmx,inR,ltB,leB];by_cases e1:n<0
 .have:¬0<=n:=by omega
  simp[e1,this];rfl
 .have e1':0<=n:=by omega
  by_cases e2:10<=n
  .have:¬n<10:=by omega
   simp[e1,e2,this];rfl
  .have e2':n<10:=by omega
   by_cases e:verr t=0;·simp[e1,e2,e1',e2',e,neB]
   .simp[e1,e2,e1',e2',e,neB];rfl
def hearL(m:Message):List Message->List Message|[]=>[m]|x::r=>if x.Node<m.Node then x::hearL m r else if x.Node=m.Node then m::r else m::x::r
def oldB(l:List Message)(m:Message):Bool:=l.any fun x=>decide (x.Node=m.Node)&&decide (m.Seq<=x.Seq)
noncomputable def hearV(v:Voter)(m:Message):Voter×Int:=if q23 v=false\/msgB m=false\/m.Node=v.Node then(q4s,1)else if oldB v.Heard m=true then(q4s,9)else(turnV v {v with Heard:=hearL m v.Heard},0)
theorem qka{m x:Message}:∀{l:List Message},x∈hearL m l->x=m\/x∈l
 |[],h=>by simp[hearL]at h;simp_all|y::r,h=>by
  rw[hearL]at h;split at h
  .rcases List.mem_cons.1 h with h|h;·exact .inr (by simp[h])
   .rcases qka h with h|h;·exact .inl h
    .exact .inr (by simp[h])
  grind
theorem qkh{n:Int}{m:Message}(hm:msgB m=true)(hn:m.Node≠n):∀{l:List Message}{q:Option Int},q3g n q l=true->(∀k,q=some k->k<m.Node)->q3g n q (hearL m l)=true
 |[],q,_,hq=>by cases q with|none=>simp[hearL,q3g,hm,hn]|some k=>simp[hearL,q3g,hm,hn,hq k rfl]
 |y::r,q,h,hq=>by
  have hi:=q22.1 h;rw[hearL];split
  .rename_i hlt;have hr:q3g n (some y.Node) r=true:=by rw[List.pairwise_cons]at hi;exact q22.2 ⟨fun x hx=>hi.1 x (by simp[hx]),fun k hk x hx=>by cases hk;exact hi.2.2.1 x hx,hi.2.2.2⟩
   have ih:=qkh hm hn hr (fun k hk=>by cases hk;exact hlt);have hj:=q22.1 ih;refine q22.2 ⟨fun x hx=>?_,fun k hk x hx=>?_,List.pairwise_cons.2 ⟨fun x hx=>hj.2.1 _ rfl x hx,hj.2.2⟩⟩
   .rcases List.mem_cons.1 hx with e|hx;·subst e;exact hi.1 x (by simp)
    .exact hj.1 x hx
   grind
  .rename_i hge;rw[List.pairwise_cons]at hi;split
   .rename_i heq;refine q22.2 ⟨fun x hx=>?_,fun k hk x hx=>?_,List.pairwise_cons.2 ⟨fun x hx=>by rw[<-heq];exact hi.2.2.1 x hx,hi.2.2.2⟩⟩
    .rcases List.mem_cons.1 hx with e|hx;·subst e;exact⟨hm,hn⟩
     .exact hi.1 x (by simp[hx])
    grind
   .rename_i hne;have hlt:m.Node<y.Node:=by omega
    refine q22.2 ⟨fun x hx=>?_,fun k hk x hx=>?_,List.pairwise_cons.2 ⟨fun x hx=>?_,List.pairwise_cons.2 hi.2.2⟩⟩
    .rcases List.mem_cons.1 hx with e|hx;·subst e;exact⟨hm,hn⟩
     .exact hi.1 x hx
    .rcases List.mem_cons.1 hx with e|hx;·subst e;exact hq k hk
     .exact hi.2.1 k hk x hx
    grind
theorem Ready.withH{v:Voter}(h:Ready v){m:Message}(hm:msgB m=true)(hn:m.Node≠v.Node):Ready {v with Heard:=hearL m v.Heard}:=⟨h.node,h.seq,h.tr,h.votes,h.accs,h.confs,h.cons,h.sub,qkh hm hn h.heard (fun k hk=>by grind)⟩
def pos(k:Int):List Message->Nat|[]=>0|x::r=>if x.Node<k then pos k r+1 else 0
theorem y3n(k:Int):∀l:List Message,pos k l<=l.length
 |[]=>Nat.le_refl _|x::r=>by
  rw[pos];split;·simp;exact y3n k r
  simp
theorem qnk{k:Int}:∀{l:List Message},l.Pairwise (fun a b=>a.Node<b.Node)->∀(i:Nat)(x:Message),l[i]?=some x->(x.Node<k↔i<pos k l)|[],_,i,x,h=>by grind|y::r,hp,i,x,h=>by rw[List.pairwise_cons]at hp;rw[pos];cases i with|zero=>grind|succ i=>
   have h':r[i]?=some x:=by simpa using h
   have hyx:=hp.1 x (List.mem_of_getElem? h');split;·rw[qnk hp.2 i x h'];omega
   omega
def qal(k:Int)(l:List Message):Bool:=match l[pos k l]? with|some x=>decide (x.Node=k)|none=>false
theorem qqj{m:Message}:∀{l:List Message},hearL m l=if qal m.Node l=true then l.set (pos m.Node l) m else l.take (pos m.Node l)++m::l.drop (pos m.Node l)
 |[]=>by rfl|x::r=>by
  rw[hearL];by_cases h1:x.Node<m.Node
  .have hp:pos m.Node (x::r)=pos m.Node r+1:=by rw[pos,if_pos h1]
   have hf:qal m.Node (x::r)=qal m.Node r:=by simp[qal,hp]
   rw[if_pos h1,qqj (l:=r),hp,hf];split<;>simp
  .have hp:pos m.Node (x::r)=0:=by rw[pos,if_neg h1]
   have hf:qal m.Node (x::r)=decide (x.Node=m.Node):=by simp[qal,hp]
   grind
theorem y7x{m:Message}{l:List Message}(hp:l.Pairwise (fun a b=>a.Node<b.Node)):oldB l m=match l[pos m.Node l]? with|some x=>decide (x.Node=m.Node)&&decide (m.Seq<=x.Seq)|none=>false:=by cases hx:l[pos m.Node l]? with|none=>rw[oldB,List.any_eq_false];intro x hx';obtain⟨i,hi,rfl⟩:=List.mem_iff_getElem.1 hx';have h1:=(qnk (k:=m.Node) hp i l[i] (by simp[hi]));grind|some y=>
  show oldB l m=(decide (y.Node=m.Node)&&decide (m.Seq<=y.Seq));rw[oldB,Bool.eq_iff_iff,List.any_eq_true];constructor
  .rintro⟨x,hx',h⟩;simp only[aT,dT']at h;obtain⟨i,hi,rfl⟩:=List.mem_iff_getElem.1 hx';have h1:=(qnk (k:=m.Node) hp i l[i] (by simp[hi]));have h3:=(qnk (k:=m.Node) hp _ y hx);have hge:pos m.Node l<=i:=by
    have:¬l[i].Node<m.Node:=by omega
    rw[h1]at this;omega
   have hpl:=(List.getElem?_eq_some_iff.1 hx).1;have:i=pos m.Node l:=by
    by_cases e:i=pos m.Node l;·exact e
    .have hlt:pos m.Node l<i:=by omega
     have:=List.pairwise_iff_getElem.1 hp _ _ hpl hi hlt;have h4:l[pos m.Node l]=y:=(List.getElem?_eq_some_iff.1 hx).2;rw[h4]at this;have:¬y.Node<m.Node:=by rw[h3];omega
     omega
   subst this;have h4:l[pos m.Node l]=y:=(List.getElem?_eq_some_iff.1 hx).2;rw[h4]at h;simp[h]
  grind
theorem ygq:∀i:Fin 12,∀j:Fin 12,IntKind.wrap .i64 (shrI .u64 (IntKind.wrap .u64 (addI .i64 ((i.val:Nat):Int) ((j.val:Nat):Int))) 1)=(((i.val+j.val)/2:Nat):Int):=by decide+kernel
theorem qy8(x:Message)(k:Int):z7c x k=some (if x.Node<k then-1 else if k<x.Node then 1 else 0):=yh7 _ _ _ (by rw[qkd];rfl)
theorem y24{l:List Message}(hl:l.length<=10)(hp:l.Pairwise (fun a b=>a.Node<b.Node))(k:Int):∀(n i j:Nat),j-i<=n->i<=pos k l->pos k l<=j->j<=l.length->z00 l k ((l.length:Nat):Int) (i:Int) (j:Int)=some (((pos k l:Nat):Int),qal k l)
 |n,i,j,hn,hi,hj,hjl=>by
  apply yji;by_cases hij:i<j
  .obtain⟨n,rfl⟩:∃m,n=m+1:=⟨n-1,by omega⟩;have hmid:=ygq ⟨i,by omega⟩ ⟨j,by omega⟩;dsimp only at hmid;have hml:(i+j)/2<l.length:=by omega
   have hg:l[(i+j)/2]?=some l[(i+j)/2]:=by simp
   have hpl:=qnk (k:=k) hp _ _ hg;rw[q04 (by omega),cT,hmid,q0h (by omega) (by rw[tN];omega),qy8,bS];by_cases h1:l[(i+j)/2].Node<k;·rw[if_pos h1,q04 (by decide),cT,q02 (by omega)];exact y24 hl hp k n ((i+j)/2+1) j (by omega) (by omega) hj hjl
   .rw[if_neg h1,q00 (by split<;>decide),cF];exact y24 hl hp k n i ((i+j)/2) (by omega) hi (by omega) (by omega)
  .have hij':i=pos k l:=by omega
   subst hij';rw[q00 (by omega),cF];unfold qal;by_cases he:pos k l<l.length
   .have hg:l[pos k l]?=some l[pos k l]:=by simp
    have hpl:=qnk (k:=k) hp _ _ hg;have h1:¬l[pos k l].Node<k:=by omega
    rw[q04 (by omega),cT,q0h (by omega) (by rw[tN];omega),qy8,bS,hg,if_neg h1];by_cases h2:k<l[pos k l].Node
    .have:¬l[pos k l].Node=k:=by omega
     simp[h2,this,eqB]
    .have:l[pos k l].Node=k:=by omega
     simp[this,eqB]
   .rw[q00 (by omega),cF,List.getElem?_eq_none (by omega)]
theorem ygf{l:List Message}(hl:l.length<=10)(hp:l.Pairwise (fun a b=>a.Node<b.Node))(k:Int):z0c l k=some (((pos k l:Nat):Int),qal k l):=by apply yhg;exact y24 hl hp k l.length 0 l.length (by omega) (by omega) (y3n k l) (Nat.le_refl _)
theorem y4g(l:List Message):(l.map q1u).all (q5t 7)=true:=by rw[List.all_eq_true];intro x hx;obtain⟨y,_,rfl⟩:=List.mem_map.1 hx;rfl
theorem y0y(l:List Message)(hl:l.length<1000000)(m:Message)(i:Nat)(hi:i<=l.length):z61 (i:Int) [m] l=some (l.take i++m::l.drop i,()):=by
 refine qax (T:=tn) (m:=q8c 7) sigOk (by rfl) rfl ?_;show libA (q8c 7) [.ref 0,.d (.v (.int .i64 i)),.d (.list [q1u m])] [[.own (l.map q1u) false]]=some (.d (.list ((l.take i++m::l.drop i).map q1u)),[[.undef]]);unfold libA q8c;have h1:(i:Int)<=((l.map q1u).length:Int):=by simp_all
 have h2:(l.map q1u).length<q06:=by simp[q06];omega
 have h3:q5t 7 (q1u m)=true:=rfl;simp only[Int.natCast_nonneg,h1,h2,h3,y4g,and_self,if_true,tN];simp only[List.map_append,List.map_cons,List.map_take,List.map_drop];rfl
theorem qra{v:Voter}(hs:SmallV v){m:Message}(hm:SmallM m):z8n v m=some (hearV v m):=by apply yfn;rw[qcc hs,bS,qdp hm,bS,hearV];cases hv:q23 v with|false=>rfl|true=>cases hx:msgB m with|false=>rfl|true=>
   obtain⟨h,hc⟩:=q0p.1 hv;simp only[nT,cF,Bool.true_eq_false,false_or];by_cases hn:m.Node=v.Node;·rw[if_pos hn,hn,q0o];rfl
   .rw[if_neg hn,q11 hn,cF];have hp:=(q22.1 h.heard).2.2;have hh:=h.hlen;rw[ygf hh hp,bS,y7x hp,qlb _ (by omega)];have hpl:=y3n m.Node v.Heard;have hw:∀H,Voter.mk v.Node v.Seq (Trust.mk v.Trust.Threshold v.Trust.Nodes v.Trust.Inner) v.Votes v.Accepts v.Confirms H={v with Heard:=H}:=fun H=>by simp
    have ht:=qh8 h (h.withH hx hn);rw[qqj]at ht⊢;simp only[bS,q8q];cases hf:qal m.Node v.Heard with
    |true=>rw[hf,if_pos rfl]at ht;unfold qal at hf;cases hg:v.Heard[pos m.Node v.Heard]? with|none=>simp_all|some y=>
      rw[hg]at hf;have hy:y.Node=m.Node:=by simp_all
      simp only[cT,if_true];rw[q0h (by omega) (by rw[tN];omega),q0h (by omega) (by rw[tN];omega),q51 (by rw[tN];omega),tN,hw,ht,bS,q0x];by_cases hq:m.Seq<=y.Seq<;>simp[leB,hy,hq]<;>rfl
    |false=>
     rw[hf,if_neg (by simp)]at ht;unfold qal at hf;have hold:(match v.Heard[pos m.Node v.Heard]? with|some x=>decide (x.Node=m.Node)&&decide (m.Seq<=x.Seq)|none=>false)=false:=by grind
     simp only[cF,hold,fT,if_false];rw[y0y _ (by omega) m _ hpl,bS,hw,ht,bS,q0x]
theorem qyo{m:Message}:∀{l:List Message},(∀x∈l,m.Node<x.Node)->hearL m l=m::l|[],_=>rfl|y::r,h=>by have:=h y (by simp);rw[hearL,if_neg (by omega),if_neg (by omega)]
theorem qtj{m:Message}{l:List Message}(h:∀x∈l,m.Node<x.Node):oldB l m=false:=by rw[oldB,List.any_eq_false];grind
theorem qjy(y:Message)(l:List Message)(m:Message):oldB (y::l) m=(decide (y.Node=m.Node)&&decide (m.Seq<=y.Seq)||oldB l m):=rfl
theorem qxv{v:Voter}(h:Ready v){m:Message}(d1 d2 d3:Int)(d4:List Int)(d5:List Trust)(d6 d7 d8:List Claim)(d9:List Message):∀(suf:List Message)(i:Nat)(acc:List Message)(done:Bool),i<=v.Heard.length->v.Heard.drop i=suf->acc.length<=2*i->(done=true->∀x∈suf,m.Node<x.Node)->suf.Pairwise (fun a b=>a.Node<b.Node)->(oldB suf m=false->Ready {v with Heard:=acc++(if done=true then suf else hearL m suf)})->z3o done v.Heard ((v.Heard.length:Nat):Int) (i:Int) v.Node v.Seq v.Trust.Threshold v.Trust.Nodes v.Trust.Inner v.Votes v.Accepts v.Confirms v.Heard m.Node m.Seq m.Trust.Threshold m.Trust.Nodes m.Trust.Inner m.Votes m.Accepts d1 d2 d3 d4 d5 d6 d7 d8 d9 v.Node v.Seq v.Trust.Threshold v.Trust.Nodes v.Trust.Inner v.Votes v.Accepts v.Confirms acc=some (if oldB suf m=true then(q4s,9)else(turnV v {v with Heard:=acc++(if done=true then suf else hearL m suf)},0))
 |[],i,acc,done,hil,g,ha,hd,hp,hR=>by
  have hq:=h.seq;have hh:=h.hlen;have hw:∀H,Voter.mk v.Node v.Seq (Trust.mk v.Trust.Threshold v.Trust.Nodes v.Trust.Inner) v.Votes v.Accepts v.Confirms H={v with Heard:=H}:=fun H=>by simp
  have hr:=hR rfl;apply ya3;rw[q0b g,cF,q0x,q8q,hw,hw,q07 (by simp[q06];omega)];cases done with|true=>simp only[if_true,List.append_nil]at hr⊢;rw[nT,cF,qa7 h.small ⟨by omega,by omega⟩ hr rfl,bS,q0x];rfl|false=>simp only[fT,if_false,hearL]at hr⊢;rw[Bool.not_false,cT,qa7 h.small ⟨by omega,by omega⟩ hr rfl,bS,q0x];rfl
 |y::suf,i,acc,done,hil,g,ha,hd,hp,hR=>by
  have hlt:=q09 g;have hh:=h.hlen;rw[List.pairwise_cons]at hp;have ih:=fun acc' done' a b c=>qxv h (m:=m) d1 d2 d3 d4 d5 d6 d7 d8 d9 suf (i+1) acc' done' hlt (q01 g) a b hp.2 c;apply ya3;rw[q05 g,cT,q03 g,q02 (by omega),q8q,q8q,q07 (by simp[q06];omega),q07 (by simp[q06];omega),q07 (by simp[q06];omega),qjy];by_cases h1:y.Node=m.Node
  .have hgt:∀x∈suf,m.Node<x.Node:=fun x hx=>by simp_all
   have hdf:done=false:=by simp_all
   subst hdf;rw[h1,q0o,cT,qtj hgt];have e1:hearL m (y::suf)=m::suf:=by rw[hearL,if_neg (by omega),if_pos h1]
   by_cases h2:m.Seq<=y.Seq;·simp[leB,h2];rfl
   .have hr:Ready {v with Heard:=acc++(if false=true then suf else hearL m suf)}:=by have:=hR (by rw[qjy,qtj hgt];simp[h2]);rw[e1]at this;rw[qyo hgt];exact this
    rw[show leB m.Seq y.Seq=false by simp[leB,h2],cF,ih acc false (by omega) (fun e=>by cases e) (fun _=>hr),qtj hgt,e1,qyo hgt];grind
  .rw[q11 h1,cF];have e0:(decide (y.Node=m.Node)&&decide (m.Seq<=y.Seq)||oldB suf m)=oldB suf m:=by grind
   rw[e0];have hR':oldB suf m=false->Ready {v with Heard:=acc++(if done=true then y::suf else hearL m (y::suf))}:=fun ho=>hR (by rw[qjy,e0];omega);by_cases h2:m.Node<y.Node;·have hgt:∀x∈suf,m.Node<x.Node:=fun x hx=>Int.lt_trans h2 (hp.1 x hx);rw[q04 h2,cT];cases done with
    |false=>
     have e1:hearL m (y::suf)=m::y::suf:=by rw[hearL,if_neg (by omega),if_neg h1]
     grind|true=>grind
   .have h3:y.Node<m.Node:=by omega
    have hdf:done=false:=by cases done with|false=>rfl|true=>have:=hd rfl y (by simp);omega
    subst hdf;have e1:hearL m (y::suf)=y::hearL m suf:=by rw[hearL,if_pos h3]
    rw[q00 (by omega),cF];grind
theorem q8m{v:Voter}(hs:SmallV v){m:Message}(hm:SmallM m):z5u v m=some (hearV v m):=by apply yhv;rw[qcv hs,bS,q96 hm,bS,hearV];cases hv:q23 v with|false=>rfl|true=>cases hx:msgB m with|false=>rfl|true=>
   obtain⟨h,hc⟩:=q0p.1 hv;simp only[nT,cF,Bool.true_eq_false,false_or];by_cases hn:m.Node=v.Node;·rw[if_pos hn,hn,q0o];rfl
   .rw[if_neg hn,q11 hn,cF];exact qxv h (m:=m) 0 0 0 [] [] [] [] [] [] v.Heard 0 [] false (Nat.zero_le _) rfl (Nat.le_refl _) (fun e=>by cases e) (q22.1 h.heard).2.2 (fun _=>h.withH hx hn)
theorem y6w{v:Voter}(ht:Fits v.Trust)(h1:v.Votes.length<1000000)(h2:v.Accepts.length<1000000):z9i v=some (say v):=by apply yf7;rw[qv7,bS,qjn ht h1 h2,bS,q8q]
theorem q1y(v:Voter):(q0m v).Node=v.Node/\(q0m v).Seq=v.Seq/\(q0m v).Trust=v.Trust/\(q0m v).Votes=v.Votes/\(q0m v).Heard=v.Heard:=by obtain⟨h1,h2,h3,h4,_,h6⟩:=qb0 200 v;exact⟨h1,h2,h3,h4,h6⟩
theorem q9a:∀(n:Nat)(v:Voter),Ready v->∀x∈v.Accepts,x∈(q1t n v).Accepts|0,v,h,x,hx=>hx|n+1,v,h,x,hx=>by rw[q1t];cases hy:nextV v with|none=>omega|some y=>obtain⟨h1,h2,h3,_⟩:=q8s hy;have hv:=q7a h1;exact q9a n (withA v y) (h.withA hv h3) x ((qeo h.avc hv).2 (.inl hx))
theorem qav{v:Voter}(h:Ready v){y:Claim}:y∈(q0m v).Confirms↔y∈v.Confirms\/y∈(q0m v).Accepts/\confB (viewV (q0m v)) (q0m v).Node.toNat (q0u (allM (q0m v)) y)=true:=by have hs:=(q7r 200 v h (by omega)).1;obtain⟨_,_,_,_,h5,_⟩:=qb0 200 v;show y∈confC (q1t 200 v) (q1t 200 v).Confirms (q1t 200 v).Accepts↔_;rw[qfx _ _ _ (q0v.1 hs.confs).1 hs.avc,h5];rfl
theorem qte{v:Voter}(h:Ready v):∀x∈known (q0m v),canB (q0m v) x=false:=fun x hx=>y5y (q7r 200 v h (by omega)).2 x hx
theorem Ready.withS{v:Voter}(h:Ready v){s:Int}(h1:1<=s)(h2:s<=1000000):Ready {v with Seq:=s}:=⟨h.node,⟨h1,h2⟩,h.tr,h.votes,h.accs,h.confs,h.cons,h.sub,h.heard⟩
theorem q3j(b v:Voter):∃s:Int,(s=v.Seq\/s=v.Seq+1)/\turnV b v={q0m v with Seq:=s}/\(s=v.Seq↔b.Trust=v.Trust/\b.Votes=v.Votes/\b.Accepts=(q0m v).Accepts):=by
 obtain⟨h1,h2,h3,h4,h5⟩:=q1y v;rw[turnV,h3,h4,h2];split;·rename_i h;exact⟨v.Seq,.inl rfl,by rw[<-h2],fun _=>h,fun _=>rfl⟩
 .rename_i h;exact⟨v.Seq+1,.inr rfl,rfl,fun e=>by omega,fun e=>absurd e h⟩
structure Step(v w:Voter):Prop where
 node:w.Node=v.Node
 seq:w.Seq=v.Seq\/w.Seq=v.Seq+1
 votes:∀x∈v.Votes,x∈w.Votes
 accs:∀x∈v.Accepts,x∈w.Accepts
 confs:∀x∈v.Confirms,x∈w.Confirms
 ready:w.Seq<=1000000->q23 w=true
 small:SmallV w
theorem Ready.smallS{v:Voter}(h:Ready v)(s:Int):SmallV {v with Seq:=s}:=⟨h.small.tr,h.small.votes,h.small.accs,h.small.confs,h.small.heard,h.small.msgs⟩
theorem qkq{b v u:Voter}(hu:Ready u)(hc:consC u.Votes=true)(hn:u.Node=v.Node)(hs:u.Seq=v.Seq)(hv:∀x∈v.Votes,x∈u.Votes)(ha:u.Accepts=v.Accepts)(hcf:u.Confirms=v.Confirms):Step v (turnV b u):=by obtain⟨s,h1,h2,_⟩:=q3j b u;obtain⟨g1,g2,g3,g4,g5⟩:=q1y u;have hr:=hu.settle;rw[h2];refine⟨g1.trans hn,by simp_all,fun x hx=>by simp_all,fun x hx=>q9a 200 u hu x (by simp_all),fun x hx=>(qav hu).2 (.inl (by simp_all)),fun hle=>?_,hr.smallS s⟩;have h3:=hu.seq;exact q0p.2 ⟨hr.withS (by omega) hle,by simp_all⟩
theorem qqr{v:Voter}(hv:q23 v=true):Step v v:=⟨rfl,.inl rfl,fun _ h=>h,fun _ h=>h,fun _ h=>h,fun _=>hv,(q0p.1 hv).1.small⟩
theorem y4c{v:Voter}(hv:q23 v=true){x:Claim}(h:(voteV v x).2=0):Step v (voteV v x).1/\(voteV v x).1.Heard=v.Heard/\(voteV v x).1.Trust=v.Trust:=by
 obtain⟨hr,hc⟩:=q0p.1 hv;unfold voteV at h⊢;split at h;·omega
 .rename_i h1;rw[if_neg h1];split at h;·omega
  .rename_i h2;rw[if_neg h2];split;·exact⟨qqr hv,rfl,rfl⟩
   .have hx:vcl x=true:=by simp_all
    have hm:=fun y=>qeo (y:=y) (q0v.1 hr.votes).1 hx;refine⟨qkq (hr.withV x) ?_ rfl rfl (fun y hy=>(hm y).2 (.inl hy)) rfl rfl,?_,?_⟩
    .have:consC (v.Votes++[x])=true:=by rw[qct hc,dT'];exact fun y hy hcc=>h2 ⟨y,by simp[hy],hcc⟩
     rw[q55]at this⊢;simp_all
    .obtain⟨s,_,h4,_⟩:=q3j v {v with Votes:=q0k (v.Votes++[x])};dsimp only;rw[h4];exact(q1y _).2.2.2.2
    .obtain⟨s,_,h4,_⟩:=q3j v {v with Votes:=q0k (v.Votes++[x])};dsimp only;rw[h4];exact(q1y _).2.2.1
theorem y5q{v:Voter}(hv:q23 v=true){t:Trust}(h:(declV v t).2=0):Step v (declV v t).1/\(declV v t).1.Heard=v.Heard:=by
 obtain⟨hr,hc⟩:=q0p.1 hv;unfold declV at h⊢;rw[if_neg (by simp_all)]at h⊢;split at h;·omega
 .rename_i h1;rw[if_neg h1];split;·exact⟨qqr hv,rfl⟩
  .refine⟨qkq (hr.withT ((q4t t).1 (by omega))) hc rfl rfl (fun _ h=>h) rfl rfl,?_⟩;obtain⟨s,_,h4,_⟩:=q3j v {v with Trust:=t};dsimp only;rw[h4];exact(q1y _).2.2.2.2
theorem q9h{v:Voter}(hv:q23 v=true){m:Message}(hm:msgB m=true)(hn:m.Node≠v.Node)(ho:oldB v.Heard m=false):hearV v m=(turnV v {v with Heard:=hearL m v.Heard},0):=by unfold hearV;simp_all
theorem qln{v:Voter}{m:Message}(h:(hearV v m).2=0):msgB m=true/\m.Node≠v.Node/\oldB v.Heard m=false:=by unfold hearV at h;grind
theorem qsf{v:Voter}(hv:q23 v=true){m:Message}(h:(hearV v m).2=0):Step v (hearV v m).1/\(hearV v m).1.Heard=hearL m v.Heard:=by obtain⟨hr,hc⟩:=q0p.1 hv;obtain⟨h1,h2,h3⟩:=qln h;rw[q9h hv h1 h2 h3];refine⟨qkq (hr.withH h1 h2) hc rfl rfl (fun _ h=>h) rfl rfl,?_⟩;obtain⟨s,_,h4,_⟩:=q3j v {v with Heard:=hearL m v.Heard};dsimp only;rw[h4];exact(q1y _).2.2.2.2
theorem qe3{n:Int}{t:Trust}(hn:inR n=true)(ht:valid t=true):qmx n t=(⟨n,1,t,[],[],[],[]⟩,0)/\q23 ⟨n,1,t,[],[],[],[]⟩=true:=by
 constructor;·rw[qmx,if_neg (by simp_all),if_neg (by rw[(q4t t).2 ht];simp)]
 .rw[q0p];exact⟨⟨hn,⟨by simp,by simp⟩,ht,rfl,rfl,rfl,by rfl,(fun x hx=>by omega),rfl⟩,by rfl⟩
theorem qyk:∀(l:List Message)(ms:List Member)(k:Nat),(l.Pairwise fun a b=>a.Node.toNat≠b.Node.toNat)->k<ms.length->(l.foldl seeM ms)[k]?=(match l.find? (fun m=>decide (m.Node.toNat=k))with|some m=>some ⟨true,m.Trust⟩|none=>ms[k]?)
 |[],ms,k,_,_=>rfl|m::l,ms,k,hd,hk=>by
  have hd:=List.pairwise_cons.1 hd;rw[List.foldl_cons,qyk l _ k hd.2 (by simpa[seeM]using hk),List.find?_cons];by_cases e:m.Node.toNat=k
  .have:l.find? (fun m=>decide (m.Node.toNat=k))=none:=List.find?_eq_none.2 fun x hx=>by grind
   simp[this,e,seeM,hk]
  .simp only[e,decide_false];cases hf:l.find? (fun m=>decide (m.Node.toNat=k))with|some y=>rfl|none=>exact List.getElem?_set_ne e
section
variable {n : Int} {t : Trust} {l : List Message} (hn : inR n = true) (hl : q3g n none l = true)
include hl in
theorem qhu : l.Pairwise fun a b => a.Node.toNat ≠ b.Node.toNat := by
 obtain ⟨h1, _, h3⟩ := q22.1 hl;refine List.Pairwise.imp_of_mem (fun {a b} ha hb hab => ?_) h3;have g1 := q4c (q25.1 (h1 a ha).1).1;have g2 := q4c (q25.1 (h1 b hb).1).1;omega
include hl in
theorem y3h {a b : Message} (ha : a ∈ l) (hb : b ∈ l) (h : a.Node = b.Node) : a = b := by
 obtain ⟨i, hi, rfl⟩ := List.mem_iff_getElem.1 ha;obtain ⟨j, hj, rfl⟩ := List.mem_iff_getElem.1 hb;have hp := List.pairwise_iff_getElem.1 (qhu hl);rcases Nat.lt_trichotomy i j with c | c | c
 .exact absurd (by rw [h]) (hp i j hi hj c)
 .subst c; rfl
 .exact absurd (by rw [h]) (hp j i hj hi c)
include hn in
theorem qkx : (decl (viewC n t l)).testBit n.toNat = true /\ tr (viewC n t l) n.toNat = t := by
 have hg : (viewC n t l).Members[n.toNat]? = some ⟨true, t⟩ := by
  rw [viewC, List.getElem?_set_self (by rw [q9z]; simpa using (q4c hn).2)]
 exact ⟨q4r.2 ⟨(q4c hn).2, _, hg, rfl⟩, by unfold tr; rw [hg]; rfl⟩
include hl in
theorem y3q {k : Nat} (hk : k < 10) (hne : k ≠ n.toNat) : (viewC n t l).Members[k]? = match l.find? (fun m => decide (m.Node.toNat = k)) with | some m => some ⟨true, m.Trust⟩ | none => some ⟨false, ⟨0, [], []⟩⟩ := by
 rw [viewC, List.getElem?_set_ne (fun e => hne e.symm), qyk _ _ _ (qhu hl) (by simpa using hk)];cases l.find? (fun m => decide (m.Node.toNat = k)) with
 | some m => rfl
 | none =>
  show (List.replicate 10 (⟨false, ⟨0, [], []⟩⟩ : Member))[k]? = _;rw [List.getElem?_replicate, if_pos hk]
include hn hl in
theorem qdv {m : Message} (hm : m ∈ l) : (decl (viewC n t l)).testBit m.Node.toNat = true /\ tr (viewC n t l) m.Node.toNat = m.Trust := by
 obtain ⟨g1, g2⟩ := (q22.1 hl).1 m hm;have hb := q4c (q25.1 g1).1;have hb' := q4c hn;have hg : (viewC n t l).Members[m.Node.toNat]? = some ⟨true, m.Trust⟩ := by
  rw [y3q hl hb.2 (by omega)];cases hf : l.find? (fun k => decide (k.Node.toNat = m.Node.toNat)) with
  | none =>
   have := List.find?_eq_none.1 hf m hm;simp at this
  | some y =>
   have h1 := List.mem_of_find?_eq_some hf;have h2 := List.find?_some hf;rw [dT'] at h2;have hy := q4c (q25.1 ((q22.1 hl).1 y h1).1).1;have : y = m := y3h hl h1 hm (by omega);subst this; rfl
 exact ⟨q4r.2 ⟨hb.2, _, hg, rfl⟩, by unfold tr; rw [hg]; rfl⟩
end
theorem qc9{p:Message->Bool}:∀(l:List Message)(s i:Nat),(whoF p s l).testBit i=true↔s.testBit i=true\/∃m∈l,p m=true/\m.Node.toNat=i|[],s,i=>by simp[whoF]|m::l,s,i=>by rw[q8t,qc9 l];cases hp:p m with|true=>simp only[if_true];rw[Nat.testBit_or,Bool.or_eq_true,bit,qef,dT'];grind|false=>simp_all
theorem qf9{l:List Message}{x:Claim}{i:Nat}:(votes l x).testBit i=true↔∃m∈l,x∈m.Votes/\m.Node.toNat=i:=by show(whoF _ 0 l).testBit i=true↔_;rw[qc9];simp
theorem q68{l:List Message}{x:Claim}{i:Nat}:(q0u l x).testBit i=true↔∃m∈l,x∈m.Accepts/\m.Node.toNat=i:=by show(whoF _ 0 l).testBit i=true↔_;rw[qc9];simp
theorem qh3{v:Voter}{m:Message}(h:m∈allM v):m∈v.Heard\/m=say v:=by
 rcases List.mem_append.1 h with h|h;·exact .inl h
 simp_all
theorem qy7{l:List Message}{m:Message}:oldB l m=true↔∃x∈l,x.Node=m.Node/\m.Seq<=x.Seq:=by simp[oldB]
def atV(S:List Voter)(b:Nat):Voter:=S.getD b q4s
theorem q1x{S:List Voter}{b:Nat}(h:b<S.length):S[b]?=some (atV S b):=by unfold atV;simp_all
theorem q67{S:List Voter}{b:Nat}(h:b<S.length)(x:Voter)(c:Nat):atV (S.set b x) c=if b=c then x else atV S c:=by unfold atV;grind
def SubC(a b:List Claim):Prop:=∀x∈a,x∈b
theorem q85:∀{A B:List Claim},A.Nodup->SubC A B->A.length<=B.length|[],_,_,_=>Nat.zero_le _|a::A,B,hn,h=>by obtain⟨h1,h2⟩:=List.nodup_cons.1 hn;have ha:=h a (by simp);have:=q85 (B:=B.erase a) h2 fun x hx=>(List.mem_erase_of_ne (fun(e:x=a)=>h1 (by rw[<-e];exact hx))).2 (h x (by simp[hx]));grind
theorem qhp{l:List Claim}(h:plainC l=true):l.Nodup:=List.Pairwise.imp (fun{a b}(hab:ltc a b)=>fun(e:a=b)=>q6w a (by simp_all)) (q0v.1 h).2
theorem y02{A B:List Claim}(h:plainC A=true)(hs:SubC A B):A.length<=B.length:=q85 (qhp h) hs
theorem qvq{A B:List Claim}(h:plainC A=true)(h':plainC B=true)(hs:SubC A B)(hne:A≠B):A.length<B.length:=by
 rcases Nat.lt_or_ge A.length B.length with g|g;·exact g
 .refine absurd (qhe h h' fun x=>⟨hs x,fun hx=>?_⟩) hne;cases hd:decide (x∈A)with
  |true=>simp_all
  |false=>have hx':x∉A:=of_decide_eq_false hd;have:=q85 (A:=x::A) (B:=B) (List.nodup_cons.2 ⟨hx',qhp h⟩) (fun y hy=>by
    rcases List.mem_cons.1 hy with e|hy;·subst e;exact hx
    .exact hs y hy);grind
structure Settled(v:Voter):Prop where
 none:∀x∈known v,canB v x=false
 conf:∀y∈v.Accepts,confB (viewV v) v.Node.toNat (q0u (allM v) y)=true->y∈v.Confirms
theorem y51(p:Message->Bool)(l:List Message)(m m':Message)(h1:m'.Node=m.Node)(h2:p m'=p m):who p (l++[m'])=who p (l++[m]):=by simp only[who,List.foldl_append,List.foldl_cons,List.foldl_nil,h1,h2]
theorem y8u(v:Voter)(s:Int)(x:Claim):votes (allM {v with Seq:=s}) x=votes (allM v) x:=y51 _ _ _ _ rfl rfl
theorem qe9(v:Voter)(s:Int)(x:Claim):q0u (allM {v with Seq:=s}) x=q0u (allM v) x:=y51 _ _ _ _ rfl rfl
theorem y8d(v:Voter)(s:Int):known {v with Seq:=s}=known v:=by simp[known,allM,q5w,say]
theorem ycz(v:Voter)(s:Int)(x:Claim):canB {v with Seq:=s} x=canB v x:=by unfold canB;rw[y8u,qe9];rfl
theorem y0o{v:Voter}(h:Settled v)(s:Int):Settled {v with Seq:=s}:=by
 refine⟨fun x hx=>?_,fun y hy hc=>?_⟩;·rw[y8d]at hx;rw[ycz];exact h.none x hx
 .rw[qe9]at hc;exact h.conf y hy hc
theorem qr7{b u:Voter}(hu:Ready u):Settled (turnV b u):=by obtain⟨s,_,h2,_⟩:=q3j b u;rw[h2];exact y0o ⟨qte hu,fun y hy hc=>(qav hu).2 (.inr ⟨hy,hc⟩)⟩ s
structure Lay where
 N:Nat
 G:Nat->Prop
 T:Nat->Trust->Prop
 Cl:Claim->Prop
structure Told(P:Lay)(S:List Voter)(m:Message):Prop where
 node:0<=m.Node/\m.Node.toNat<P.N
 ins:uses m.Trust<2^P.N
 cl:∀y,y∈m.Votes\/y∈m.Accepts->P.Cl y
 good:∀a:Nat,P.G a->m.Node=(a:Int)->P.T a m.Trust/\SubC m.Votes (atV S a).Votes/\SubC m.Accepts (atV S a).Accepts/\m.Seq<=(atV S a).Seq/\(m.Seq=(atV S a).Seq->m=say (atV S a))
def WitC(P:Lay)(S:List Voter)(b:Nat)(y:Claim):Prop:=∃U:Nat,U.testBit b=true/\(∀k,U.testBit k=true->k<P.N)/\∀k,U.testBit k=true->P.G k->y∈(atV S k).Accepts/\∃t,P.T k t/\sat U t=true
structure MtB(P:Lay)(q:Nat)(S:List Voter)(b:Nat):Prop where
 valid:q23 (atV S b)=true
 node:(atV S b).Node=(b:Int)tru:P.G b->P.T b (atV S b).Trust
 ins:uses (atV S b).Trust<2^P.N
 seq:(atV S b).Seq<=((q+(atV S b).Accepts.length:Nat):Int)cl:∀y,y∈(atV S b).Votes\/y∈(atV S b).Accepts->P.Cl y
 set:Settled (atV S b)told:∀m∈(atV S b).Heard,Told P S m
 conf:P.G b->∀y∈(atV S b).Confirms,WitC P S b y
structure MtI(P:Lay)(q:Nat)(S:List Voter):Prop where
 len:S.length=P.N
 all:∀b,b<P.N->MtB P q S b
structure Up(P:Lay)(S:List Voter)(b:Nat)(u:Voter):Prop where
 ready:Ready u
 cons:consC u.Votes=true
 node:u.Node=(b:Int)seq:u.Seq=(atV S b).Seq
 votes:SubC (atV S b).Votes u.Votes
 accs:u.Accepts=(atV S b).Accepts
 confs:u.Confirms=(atV S b).Confirms
 tru:P.G b->P.T b u.Trust
 ins:uses u.Trust<2^P.N
 cl:∀y∈u.Votes,P.Cl y
 told:∀m∈u.Heard,Told P S m
theorem qhf{Cl:Claim->Prop}:∀(n:Nat)(v:Voter),(∀m∈allM v,∀y,y∈m.Votes\/y∈m.Accepts->Cl y)->∀y∈(q1t n v).Accepts,Cl y|0,v,h,y,hy=>h (say v) (by simp[allM]) y (.inr hy)|n+1,v,h,y,hy=>by rw[q1t]at hy;cases hx:nextV v with|none=>rw[hx]at hy;exact h (say v) (by simp[allM]) y (.inr hy)|some x=>
   rw[hx]at hy;obtain⟨h1,_⟩:=q8s hx;have hcx:Cl x:=by have:=(q1b.1 h1).2;unfold q5w at this;grind
   refine qhf n (withA v x) (fun m hm z hz=>?_) y hy;rcases qh3 hm with g|g;·exact h m (by simp[allM];exact .inl g) z hz
   .subst g;rcases hz with hz|hz;·exact h (say v) (by simp[allM]) z (.inl hz)
    .have hz:z∈q0k (v.Accepts++[x]):=hz;rw[q1b,List.mem_append,List.mem_singleton]at hz;rcases hz.2 with g|g;·exact h (say v) (by simp[allM]) z (.inr g)
     simp_all
structure Turn(v w:Voter):Prop where
 node:w.Node=v.Node
 seq:v.Seq<=w.Seq
 votes:SubC v.Votes w.Votes
 accs:SubC v.Accepts w.Accepts
 same:w.Seq=v.Seq->say w=say v
theorem Turn.refl(v:Voter):Turn v v:=⟨rfl,Int.le_refl _,fun _ h=>h,fun _ h=>h,fun _=>rfl⟩
theorem Up.turn{P:Lay}{S:List Voter}{b:Nat}{u:Voter}(h:Up P S b u)(hn:(atV S b).Node=(b:Int)):Turn (atV S b) (turnV (atV S b) u):=by
 obtain⟨s,h1,h2,h3⟩:=q3j (atV S b) u;obtain⟨g1,g2,g3,g4,g5⟩:=q1y u;have hsq:=h.seq;rw[h2];refine⟨by show(q0m u).Node=_;rw[g1,h.node,hn],by grind,fun x hx=>?_,fun x hx=>?_,fun e=>?_⟩;·show x∈(q0m u).Votes;rw[g4];exact h.votes x hx
 .exact q9a 200 u h.ready x (by rw[h.accs];omega)
 .have e:s=u.Seq:=by simp_all
  obtain⟨e1,e2,e3⟩:=h3.1 e;simp only[say];rw[g1,g3,g4,<-e1,<-e2,<-e3,h.node,hn,e,hsq]
theorem qq5{P:Lay}{S:List Voter}{b:Nat}{w:Voter}(hb:b<S.length)(hw:Turn (atV S b) w){m:Message}(h:Told P S m):Told P (S.set b w) m:=by
 refine⟨h.node,h.ins,h.cl,fun a ha hm=>?_⟩;obtain⟨q1,q2,q3,q4,q5⟩:=h.good a ha hm;rw[q67 hb];by_cases e:b=a
 .subst e;rw[if_pos rfl];have:=hw.seq;refine⟨q1,fun x hx=>hw.votes x (q2 x hx),fun x hx=>hw.accs x (q3 x hx),by omega,fun he=>?_⟩;have e1:w.Seq=(atV S b).Seq:=by omega
  rw[q5 (by omega),hw.same e1]
 grind
theorem y4o{S:List Voter}{b:Nat}{w:Voter}(hb:b<S.length)(hw:Turn (atV S b) w)(k:Nat){x:Claim}(hx:x∈(atV S k).Accepts):x∈(atV (S.set b w) k).Accepts:=by
 rw[q67 hb];by_cases e:b=k;·subst e;rw[if_pos rfl];exact hw.accs x hx
 simp_all
theorem y14{S:List Voter}{b:Nat}{w:Voter}(hb:b<S.length)(hw:Turn (atV S b) w)(k:Nat){x:Claim}(hx:x∈(atV S k).Votes):x∈(atV (S.set b w) k).Votes:=by
 rw[q67 hb];by_cases e:b=k;·subst e;rw[if_pos rfl];exact hw.votes x hx
 simp_all
theorem qs5{P:Lay}{S:List Voter}{b:Nat}{w:Voter}(hb:b<S.length)(hw:Turn (atV S b) w){d:Nat}{y:Claim}:WitC P S d y->WitC P (S.set b w) d y:=by rintro⟨U,h1,h2,h3⟩;exact⟨U,h1,h2,fun k hk hg=>⟨y4o hb hw k (h3 k hk hg).1,(h3 k hk hg).2⟩⟩
theorem ydc{P:Lay}(_hN:P.N<=10){q q':Nat}{S:List Voter}(hS:MtI P q S){b:Nat}(hb:b<P.N)(hq:q<=100000){u:Voter}(hu:Up P S b u)(hq':q'=q+1\/q'=q/\u.Trust=(atV S b).Trust/\u.Votes=(atV S b).Votes):MtI P q' (S.set b (turnV (atV S b) u))/\Turn (atV S b) (turnV (atV S b) u):=by
 have hl:=hS.len;have B:=hS.all b hb;obtain⟨hbr,_⟩:=q0p.1 B.valid;have ht:=hu.turn B.node;have hbs:b<S.length:=by omega
 refine⟨⟨by grind,?_⟩,ht⟩;obtain⟨s,h1,h2,h3⟩:=q3j (atV S b) u;obtain⟨g1,g2,g3,g4,g5⟩:=q1y u;have hr:=hu.ready.settle;have hsq:=hu.seq;have hset:=qr7 (b:=atV S b) hu.ready;have hsub:SubC (atV S b).Accepts (q0m u).Accepts:=fun x hx=>q9a 200 u hu.ready x (by rw[hu.accs];omega);have hle:=y02 hbr.accs hsub;have hal:=hr.alen;have hbq:=B.seq;generalize hw:turnV (atV S b) u=w at*;have eN:w.Node=(b:Int):=by rw[h2];show(q0m u).Node=_;rw[g1,hu.node]
 have eT:w.Trust=u.Trust:=by simp_all
 have eV:w.Votes=u.Votes:=by simp_all
 have eA:w.Accepts=(q0m u).Accepts:=by rw[h2]
 have eC:w.Confirms=(q0m u).Confirms:=by rw[h2]
 have eH:w.Heard=u.Heard:=by simp_all
 have eS:w.Seq=s:=by rw[h2]
 have hseq:s<=((q'+(q0m u).Accepts.length:Nat):Int):=by
  rcases hq' with e|⟨e,e1,e2⟩;·omega
  .rcases h1 with g|g;·omega
   .have hne:(atV S b).Accepts≠(q0m u).Accepts:=fun ea=>by grind
    have:=qvq hbr.accs hr.accs hsub hne;omega
 have hs1:1<=s:=by have:=hu.ready.seq;omega
 have hs2:s<=1000000:=by rcases hq' with e|⟨e,_,_⟩<;>omega
 have hval:q23 w=true:=by rw[h2];exact q0p.2 ⟨hr.withS hs1 hs2,by show consC (q0m u).Votes=true;rw[g4];exact hu.cons⟩
 have hwr:=(q0p.1 hval).1;have hown:∀m∈w.Heard,Told P (S.set b w) m:=fun m hm=>qq5 hbs ht (hu.told m (by simp_all));intro d hd;by_cases e:b=d
 .subst e;have ew:atV (S.set b w) b=w:=by rw[q67 hbs,if_pos rfl]
  refine⟨by simp_all,by simp_all,fun hg=>by rw[ew,eT];exact hu.tru hg,by rw[ew,eT];exact hu.ins,by simp_all,?_,by simp_all,by simp_all,fun hg y hy=>?_⟩
  .rw[ew];rintro y(hy|hy);·exact hu.cl y (by simp_all)
   .rw[eA]at hy;refine qhf (Cl:=P.Cl) 200 u (fun m hm z hz=>?_) y hy;rcases qh3 hm with g|g;·exact(hu.told m g).cl z hz
    .subst g;rcases hz with hz|hz;·exact hu.cl z hz
     .have hz:z∈u.Accepts:=hz;rw[hu.accs]at hz;exact B.cl z (.inr hz)
  .rw[ew,eC]at hy;rcases(qav hu.ready).1 hy with g|⟨g,hc⟩;·rw[hu.confs]at g;exact qs5 hbs ht (B.conf hg y g)
   .have hc':confB (viewV w) w.Node.toNat (q0u (allM w) y)=true:=by
     have:q0u (allM w) y=q0u (allM (q0m u)) y:=by rw[h2];exact qe9 _ _ _
     rw[this,h2];exact hc
    have hlt:=q3w hwr.all y;unfold confB at hc';have h0:q1q (viewV w) (q0u (allM w) y)≠0:=nz.2 ⟨_,hc'⟩;have hQ:=q7h (viewV w) hlt h0;have hbn:w.Node.toNat=b:=by omega
    rw[hbn]at hc';have one:∀k,(q1q (viewV w) (q0u (allM w) y)).testBit k=true->∃m∈allM w,y∈m.Accepts/\m.Node.toNat=k:=fun k hk=>by have hl:=q64 (viewV w) hlt k hk;rw[Nat.testBit_and,aT]at hl;exact q68.1 hl.1
    refine⟨_,hc',fun k hk=>?_,fun k hk hgk=>?_⟩
    .obtain⟨m,hm,_,hmn⟩:=one k hk;rcases qh3 hm with g|g;·have:=(hown m g).node;omega
     .subst g;have:(say w).Node=(b:Int):=eN;omega
    .have hs:=hQ.2.2 k hk;obtain⟨m,hm,hma,hmn⟩:=one k hk;rcases qh3 hm with g|g;·have hmN:=(hown m g).node;obtain⟨q1,q2,q3,_,_⟩:=(hown m g).good k hgk (by omega);have t:=(qdv hwr.node hwr.heard (t:=w.Trust) g).2;rw[hmn]at t;have t:tr (viewV w) k=m.Trust:=t;rw[t]at hs;exact⟨q3 y hma,_,q1,hs⟩
     .subst g;have hk':k=b:=hmn.symm.trans hbn;subst hk';have t:=(qkx hwr.node (t:=w.Trust) (l:=w.Heard)).2;have t:tr (viewV w) w.Node.toNat=w.Trust:=t;rw[hbn]at t;rw[t]at hs;rw[ew];exact⟨hma,_,by rw[eT];exact hu.tru hgk,hs⟩
 .have ed:atV (S.set b w) d=atV S d:=by rw[q67 hbs,if_neg e]
  have D:=hS.all d hd;have hqq:q<=q':=by rcases hq' with e|⟨e,_,_⟩<;>omega
  have:=D.seq;refine⟨by rw[ed];exact D.valid,by rw[ed];exact D.node,fun hg=>by rw[ed];exact D.tru hg,by rw[ed];exact D.ins,by grind,by rw[ed];exact D.cl,by rw[ed];exact D.set,fun m hm=>?_,fun hg y hy=>?_⟩;·rw[ed]at hm;exact qq5 hbs ht (D.told m hm)
  .rw[ed]at hy;exact qs5 hbs ht (D.conf hg y hy)
structure Own(P:Lay)(I:Nat):Prop where
 sub:∀k,I.testBit k=true->P.G k/\k<P.N
 sat:∀k t,I.testBit k=true->P.T k t->sat I t=true
def WitA(P:Lay)(I:Nat)(V:Nat->List Claim)(y:Claim):Prop:=∃U:Nat,(∃a,I.testBit a=true/\U.testBit a=true)/\∀k,I.testBit k=true->U.testBit k=true->y∈V k/\∃t,P.T k t/\sat U t=true
def AcI(P:Lay)(I:Nat)(S:List Voter):Prop:=∀k y,I.testBit k=true->y∈(atV S k).Accepts->WitA P I (fun k=>(atV S k).Votes) y
theorem WitA.mono{P:Lay}{I:Nat}{V W:Nat->List Claim}(h:∀k,SubC (V k) (W k)){y:Claim}:WitA P I V y->WitA P I W y:=by rintro⟨U,h1,h2⟩;exact⟨U,h1,fun k hk hu=>⟨h k y (h2 k hk hu).1,(h2 k hk hu).2⟩⟩
theorem qtc{P:Lay}(hN:P.N<=10){I:Nat}(hO:Own P I){S:List Voter}(hA:AcI P I S){b:Nat}(hb:I.testBit b=true){u:Voter}(hu:Up P S b u):∀(n:Nat)(v:Voter),Ready v->v.Node=u.Node->v.Trust=u.Trust->v.Votes=u.Votes->v.Heard=u.Heard->(∀y∈v.Accepts,WitA P I (fun k=>if k=b then u.Votes else(atV S k).Votes) y)->∀y∈(q1t n v).Accepts,WitA P I (fun k=>if k=b then u.Votes else(atV S k).Votes) y|0,v,_,_,_,_,_,h,y,hy=>h y hy|n+1,v,hr,eN,eT,eV,eH,h,y,hy=>by rw[q1t]at hy;cases hx:nextV v with|none=>simp_all|some x=>
   rw[hx]at hy;obtain⟨h1,h2,h3,h4⟩:=q8s hx;have hv:=q7a h1;have hGb:=hO.sub b hb;have hbn:v.Node.toNat=b:=by rw[eN,hu.node,tN]
   have hwx:WitA P I (fun k=>if k=b then u.Votes else(atV S k).Votes) x:=by
    by_cases hex:∃k,I.testBit k=true/\x∈(atV S k).Accepts
    .obtain⟨k,hk,hxk⟩:=hex;refine(hA k x hk hxk).mono fun j z hz=>?_;by_cases e:j=b;·subst e;rw[if_pos rfl];exact hu.votes z hz
     .rw[if_neg e];exact hz
    .have hacc:∀k,I.testBit k=true->(q0u (allM v) x).testBit k=true->False:=fun k hk ha=>by
      obtain⟨m,hm,hxm,hmn⟩:=q68.1 ha;rcases qh3 hm with g|g;·rw[eH]at g;have T:=hu.told m g;have:=T.node;exact hex ⟨k,hk,(T.good k (hO.sub k hk).1 (by omega)).2.2.1 x hxm⟩
      .subst g;exact h2 hxm
     have hown:=qkx hr.node (t:=v.Trust) (l:=v.Heard);rw[hbn]at hown;have hto:tr (viewV v) b=u.Trust:=hown.2.trans eT;unfold accB at h4;rw[Bool.or_eq_true,hbn]at h4;rcases h4 with h4|h4
     .exfalso;unfold blk at h4;rw[aT,Bool.not_eq_true']at h4;have hs:=hO.sat b u.Trust hb (hu.tru hGb.1);have:Sub I (ndiff 1023 (q0u (allM v) x)|||2^b):=fun k hk=>by
       rw[Nat.testBit_or,q0d,Bool.or_eq_true,aT,Bool.not_eq_true'];left;have hk10:k<10:=by have:=(hO.sub k hk).2;omega
       refine⟨?_,?_⟩;·rw[show(1023:Nat)=2^10-1 from rfl,Nat.testBit_two_pow_sub_one];simp;omega
       .cases ha:(q0u (allM v) x).testBit k with|false=>rfl|true=>exact absurd (hacc k hk ha) id
      have:=qkp this hs;rw[hto,this]at h4;cases h4.2
     .have l1:=qiy hr.all x;have l2:=q3w hr.all x;have hlt:votes (allM v) x|||q0u (allM v) x<1024:=Nat.or_lt_two_pow (n:=10) l1 l2;have h0:q1q (viewV v) (votes (allM v) x|||q0u (allM v) x)≠0:=nz.2 ⟨_,h4⟩;have hQ:=q7h (viewV v) hlt h0;refine⟨_,⟨b,hb,h4⟩,fun k hk hku=>?_⟩;have hs:=hQ.2.2 k hku;have hl:=q64 (viewV v) hlt k hku;rw[Nat.testBit_and,aT,Nat.testBit_or,Bool.or_eq_true]at hl;rcases hl.1 with g|g
      .obtain⟨m,hm,hxm,hmn⟩:=qf9.1 g;rcases qh3 hm with g|g;·have g':=g;rw[eH]at g;have T:=hu.told m g;have hne:=(hr.msg m g').2;have:=T.node;obtain⟨q1,q2,_⟩:=T.good k (hO.sub k hk).1 (by omega);have t:=(qdv hr.node hr.heard (t:=v.Trust) g').2;rw[hmn]at t;have t:tr (viewV v) k=m.Trust:=t;rw[t]at hs;have hkb:k≠b:=fun e=>hne (by rw[eN,hu.node];omega);exact⟨by dsimp only;rw[if_neg hkb];exact q2 x hxm,_,q1,hs⟩
       .subst g;have hk':k=b:=hmn.symm.trans hbn;subst hk';rw[hto]at hs;have hxm:x∈v.Votes:=hxm;rw[eV]at hxm;exact⟨by dsimp only;rw[if_pos rfl];exact hxm,_,hu.tru hGb.1,hs⟩
      .exact absurd (hacc k hk g) id
   refine qtc hN hO hA hb hu n (withA v x) (hr.withA hv h3) eN eT eV eH (fun z hz=>?_) y hy;rcases(qeo hr.avc hv).1 hz with g|g;·exact h z g
   simp_all
theorem ye2{P:Lay}(hN:P.N<=10){I:Nat}(hO:Own P I){S:List Voter}(hA:AcI P I S){b:Nat}(hb:b<S.length)(hn:(atV S b).Node=(b:Int)){u:Voter}(hu:Up P S b u):AcI P I (S.set b (turnV (atV S b) u)):=by
 have ht:=hu.turn hn;obtain⟨s,h1,h2,h3⟩:=q3j (atV S b) u;obtain⟨g1,g2,g3,g4,g5⟩:=q1y u;intro k y hk hy;have hmono:∀j,SubC (atV S j).Votes (atV (S.set b (turnV (atV S b) u)) j).Votes:=fun j z hz=>y14 hb ht j hz;rw[q67 hb]at hy;by_cases e:b=k
 .subst e;rw[if_pos rfl,h2]at hy;have hy:y∈(q1t 200 u).Accepts:=hy;have:=qtc hN hO hA hk hu 200 u hu.ready rfl rfl rfl rfl (fun z hz=>(hA b z hk (by rw[hu.accs]at hz;exact hz)).mono fun j x hx=>by
   by_cases e:j=b;·subst e;rw[if_pos rfl];exact hu.votes x hx
   .rw[if_neg e];exact hx) y hy;refine this.mono fun j z hz=>?_;rw[q67 hb];grind
 .rw[if_neg e]at hy;exact(hA k y hk hy).mono hmono
section
variable {P : Lay} (hN : P.N <= 10) {q : Nat} {S : List Voter} (hS : MtI P q S) {I : Nat}
include hS
variable (hO : Own P I)
include hO
variable (hC : ∀ a b, P.G a -> a < P.N -> I.testBit b = true -> a ≠ b -> oldB (atV S b).Heard (say (atV S a)) = true)
include hC
include hN
end
def insB(t:Trust)(n:Nat):Bool:=decide (uses t<2^n)
def q81(n:Nat)(l:List Message):Bool:=l.all fun x=>decide (x.Node<(n:Int))&&insB x.Trust n
def q82(n:Nat):Nat->List Voter->Bool|_,[]=>true|k,v::r=>decide (v.Node=(k:Int))&&(q23 v&&(insB v.Trust n&&(q81 n v.Heard&&q82 n (k+1) r)))
abbrev q6o(m:Meeting):Prop:=1<=m.Voters.length/\m.Voters.length<=10/\(0<=m.Ill/\m.Ill<((2^m.Voters.length:Nat):Int))/\(0<=m.Stopped/\m.Stopped<((2^m.Voters.length:Nat):Int))/\m.Ill.toNat&&&m.Stopped.toNat=0
def q4b(m:Meeting):Bool:=decide (q6o m)&&q82 m.Voters.length 0 m.Voters
structure SmallMt(m:Meeting):Prop where
 len:m.Voters.length<1000000
 voters:∀v∈m.Voters,SmallV v
theorem shlN{n:Nat}(h:n<=10):shlI .i64 1 (n:Int)=((2^n:Nat):Int):=by rw[shl1 (by omega) (by omega),tN]
theorem q7q{n:Nat}(h:n<=10):2^n<=1024:=Nat.pow_le_pow_right (by decide) h
theorem qf3{t:Trust}(ht:Small t){n:Nat}(hn:n<=10):z3z t (n:Int)=some (insB t n):=by apply yhu;rw[q0f (by omega),qyx t ht,bS,shlN hn];unfold ltB insB;congr 1;grind
theorem y7l{m:Message}(hm:SmallM m){n:Nat}(hn:n<=10):z79 m (n:Int)=some (!(decide (m.Node<(n:Int))&&insB m.Trust n),(n:Int)):=by
 apply yh1;by_cases h:m.Node<(n:Int);·rw[show leB (n:Int) m.Node=false by unfold leB;simp;omega,cF,qf3 hm.tr hn];grind
 .rw[show leB (n:Int) m.Node=true by unfold leB;simp;omega,cT];grind
theorem qys(l:List Message)(hl:l.length<1000000)(hm:∀m∈l,SmallM m){n:Nat}(hn:n<=10):∀(suf:List Message)(i:Nat),l.drop i=suf->∃r:Int,z02 l ((l.length:Nat):Int) (i:Int) (n:Int)=some (r,(n:Int))/\leB 0 r=!q81 n suf
 |[],i,h=>by refine⟨-1,y67 _ _ _ _ _ ?_,by rfl⟩;rw[q0b h];rfl|y::suf,i,h=>by
  have hlt:=q09 h;obtain⟨r,h1,h2⟩:=qys l hl hm hn suf (i+1) (q01 h);have hf:=y7l (hm y (List.mem_of_mem_drop (i:=i) (by simp_all))) hn;by_cases hy:(decide (y.Node<(n:Int))&&insB y.Trust n)=true;·refine⟨r,y67 _ _ _ _ _ ?_,by rw[h2];simp[q81,hy]⟩;rw[q05 h,cT,q03 h,hf,bS,hy,q02 (by omega)];grind
  .refine⟨i,y67 _ _ _ _ _ ?_,by rw[Bool.not_eq_true]at hy;simp[q81,hy,leB]⟩;rw[Bool.not_eq_true]at hy;rw[q05 h,cT,q03 h,hf,bS,hy];rfl
theorem y7b(l:List Message)(hl:l.length<1000000)(hm:∀m∈l,SmallM m){n:Nat}(hn:n<=10):z0f l (n:Int)=some (!q81 n l,(n:Int)):=by apply ygu;obtain⟨r,h1,h2⟩:=qys l hl hm hn l 0 rfl;have h3:z0l l (n:Int)=_:=yhx _ _ _ h1;simp_all
theorem y5r{n:Nat}(hn:n<=10)(l:List Voter)(hl:l.length<1000000)(hv:∀v∈l,SmallV v)(a7:List Voter)(a9 a11:Int):∀(suf:List Voter)(i:Nat),l.drop i=suf->z2w l ((l.length:Nat):Int) (i:Int) a7 a9 a11 (n:Int)=some (q82 n i suf)
 |[],i,h=>by apply yan;rw[q0b h];rfl|y::suf,i,h=>by
  have hlt:=q09 h;have hy:=hv y (List.mem_of_mem_drop (i:=i) (by simp_all));have ih:=y5r hn l hl hv a7 a9 a11 suf (i+1) (q01 h);apply yan;rw[q05 h,cT,q03 h,qcc hy,bS,qf3 hy.tr hn,bS,y7b _ hy.heard hy.msgs hn,bS,q02 (by omega),ih,q82];by_cases e:y.Node=(i:Int);·rw[e,q0i];cases q23 y<;>cases insB y.Trust n<;>cases q81 n y.Heard<;>simp
  .rw[q1f e];grind
theorem q54{z:Int}{n:Nat}:leB ((2^n:Nat):Int) z=!decide (z<((2^n:Nat):Int)):=by unfold leB;grind
theorem qiq{z:Int}:ltB z 0=!decide (0<=z):=by unfold ltB;grind
theorem qjd{m:Meeting}(h:SmallMt m):z6p m=some (q4b m):=by
 apply ykg;unfold q4b;by_cases h1:1<=m.Voters.length;case neg=>rw[q04 (by omega),cT,decide_eq_false (p:=q6o m) (fun g=>h1 g.1)];rfl
 rw[q00 (by omega),cF];by_cases h2:m.Voters.length<=10;case neg=>rw[q04 (by omega),cT,decide_eq_false (p:=q6o m) (fun g=>h2 g.2.1)];rfl
 have l1:z2w m.Voters ((m.Voters.length:Nat):Int) 0 m.Voters m.Stopped m.Ill ((m.Voters.length:Nat):Int)=_:=y5r h2 m.Voters h.len h.voters m.Voters m.Stopped m.Ill m.Voters 0 rfl;have hp:=q7q h2;rw[q00 (by omega),cF,q0f (by omega),q0f (by omega),shlN h2,q54,q54,qiq,qiq,l1];by_cases h3:0<=m.Ill;case neg=>grind
 by_cases h4:m.Ill<((2^m.Voters.length:Nat):Int);case neg=>grind
 by_cases h5:0<=m.Stopped;case neg=>grind
 by_cases h6:m.Stopped<((2^m.Voters.length:Nat):Int);case neg=>grind
 have ha:andI .i64 m.Ill m.Stopped=((m.Ill.toNat&&&m.Stopped.toNat:Nat):Int):=by have:=q57 (a:=m.Ill.toNat) (b:=m.Stopped.toNat) (by omega) (by omega);grind
 rw[ha,decide_eq_true h3,decide_eq_true h4,decide_eq_true h5,decide_eq_true h6];simp only[nT,cF];by_cases h7:m.Ill.toNat&&&m.Stopped.toNat=0;·rw[decide_eq_true (p:=q6o m) ⟨h1,h2,⟨h3,h4⟩,⟨h5,h6⟩,h7⟩,h7,show(((0:Nat):Nat):Int)=0 from rfl,q0i,cF];rfl
 .rw[q1f (by omega),cT,decide_eq_false (p:=q6o m) (fun g=>h7 g.2.2.2.2)];rfl
theorem qwv{n:Nat}(hn:n<=10)(l:List Message)(hl:l.length<1000000)(hm:∀m∈l,SmallM m){a2 a14:List Voter}{a4 a6 a16 a18 a20 a22 a24:Int}{a26:List Int}{a28:List Trust}{a30 a32 a34:List Claim}{a36:List Message}{R:Bool}(hR:z3r (n:Int) a2 a4 (addI .i64 a6 1) a14 a16 a18=some R):∀(suf:List Message)(i:Nat),l.drop i=suf->z4m (n:Int) a2 a4 a6 l ((l.length:Nat):Int) (i:Int) a14 a16 a18 a20 a22 a24 a26 a28 a30 a32 a34 a36=some (q81 n suf&&R)
 |[],i,h=>by apply yak;rw[q0b h,cF,hR];rfl|y::suf,i,h=>by
  have hlt:=q09 h;have hy:=hm y (List.mem_of_mem_drop (i:=i) (by simp_all));apply yak;rw[q05 h,cT,q03 h,q0f (by omega),q9s _ hy.tr,bS,shlN hn,q54,q02 (by omega),qwv hn l hl hm hR suf (i+1) (q01 h)];have e1:leB (n:Int) y.Node=!decide (y.Node<(n:Int)):=by unfold leB;grind
  have e2:decide (((uses y.Trust:Nat):Int)<((2^n:Nat):Int))=insB y.Trust n:=by unfold insB;grind
  rw[e1,e2];simp only[q81,List.all_cons];cases decide (y.Node<(n:Int))<;>cases insB y.Trust n<;>simp
theorem y5k{n:Nat}(hn:n<=10)(l:List Voter)(hl:l.length<1000000)(hv:∀v∈l,SmallV v)(a8:List Voter)(a10 a12:Int):∀(suf:List Voter)(i:Nat),l.drop i=suf->z3r (n:Int) l ((l.length:Nat):Int) (i:Int) a8 a10 a12=some (q82 n i suf)
 |[],i,h=>by apply yb1;rw[q0b h];rfl|y::suf,i,h=>by
  have hlt:=q09 h;have hy:=hv y (List.mem_of_mem_drop (i:=i) (by simp_all));have ih:=y5k hn l hl hv a8 a10 a12 suf (i+1) (q01 h);have hd:=hy.heard;have l2:z4m (n:Int) l ((l.length:Nat):Int) (i:Int) y.Heard ((y.Heard.length:Nat):Int) 0 a8 a10 a12 y.Node y.Seq y.Trust.Threshold y.Trust.Nodes y.Trust.Inner y.Votes y.Accepts y.Confirms y.Heard=_:=qwv hn y.Heard hd hy.msgs (by rw[q02 (by omega)];omega) y.Heard 0 rfl;have e2:decide (((uses y.Trust:Nat):Int)<((2^n:Nat):Int))=insB y.Trust n:=by unfold insB;grind
  apply yb1;rw[q05 h,cT,q03 h,qcv hy,bS,q0f (by omega),q9s _ hy.tr,bS,shlN hn,q54,e2,l2,q82];by_cases e:y.Node=(i:Int);·rw[e,q0i];cases q23 y<;>cases insB y.Trust n<;>simp
  .rw[q1f e];cases q23 y<;>simp[e]
theorem qk7{m:Meeting}(h:SmallMt m):z7j m=some (q4b m):=by
 apply yjj;unfold q4b;by_cases h1:1<=m.Voters.length;case neg=>rw[q04 (by omega),cT,decide_eq_false (p:=q6o m) (fun g=>h1 g.1)];rfl
 rw[q00 (by omega),cF];by_cases h2:m.Voters.length<=10;case neg=>rw[q04 (by omega),cT,decide_eq_false (p:=q6o m) (fun g=>h2 g.2.1)];rfl
 have l1:z3r ((m.Voters.length:Nat):Int) m.Voters ((m.Voters.length:Nat):Int) 0 m.Voters m.Stopped m.Ill=_:=y5k h2 m.Voters h.len h.voters m.Voters m.Stopped m.Ill m.Voters 0 rfl;have hp:=q7q h2;rw[q00 (by omega),cF,q0f (by omega),q0f (by omega),shlN h2,q54,q54,qiq,qiq,l1];by_cases h3:0<=m.Ill;case neg=>grind
 by_cases h4:m.Ill<((2^m.Voters.length:Nat):Int);case neg=>grind
 by_cases h5:0<=m.Stopped;case neg=>grind
 by_cases h6:m.Stopped<((2^m.Voters.length:Nat):Int);case neg=>grind
 have ha:andI .i64 m.Ill m.Stopped=((m.Ill.toNat&&&m.Stopped.toNat:Nat):Int):=by have:=q57 (a:=m.Ill.toNat) (b:=m.Stopped.toNat) (by omega) (by omega);grind
 rw[ha,decide_eq_true h3,decide_eq_true h4,decide_eq_true h5,decide_eq_true h6];simp only[nT,cF];by_cases h7:m.Ill.toNat&&&m.Stopped.toNat=0;·rw[decide_eq_true (p:=q6o m) ⟨h1,h2,⟨h3,h4⟩,⟨h5,h6⟩,h7⟩,h7,show(((0:Nat):Nat):Int)=0 from rfl,q0i,cF];rfl
 .rw[q1f (by omega),cT,decide_eq_false (p:=q6o m) (fun g=>h7 g.2.2.2.2)];rfl
def pairK(k:Int):Bool:=decide (k=2\/k=5)
def mGone(m:Meeting)(p:Play):Bool:=if pairK p.Kind=true then has (m.Ill.toNat|||m.Stopped.toNat) p.To else has m.Stopped.toNat p.From
def mAsk(m:Meeting)(p:Play):Int:=if q4b m=false\/p.Kind<1\/5<p.Kind\/p.From<0\/(m.Voters.length:Int)<=p.From then 1 else if pairK p.Kind=true/\(p.To<0\/(m.Voters.length:Int)<=p.To\/p.To=p.From)then 1 else if has m.Ill.toNat p.From≠decide (p.Kind=5)then 13 else if mGone m p=true then 13 else 0
noncomputable def mChg(m:Meeting)(p:Play):Int×Voter×Int:=if p.Kind=1 then(p.From,(voteV (atV m.Voters p.From.toNat) p.Claim).1,(voteV (atV m.Voters p.From.toNat) p.Claim).2)else if p.Kind=2 then(p.To,(hearV (atV m.Voters p.To.toNat) (say (atV m.Voters p.From.toNat))).1,(hearV (atV m.Voters p.To.toNat) (say (atV m.Voters p.From.toNat))).2)else if p.Kind=3 then if verr p.Trust≠0 then(0,atV m.Voters p.From.toNat,verr p.Trust)else if insB p.Trust m.Voters.length=false then(0,atV m.Voters p.From.toNat,5)else(p.From,(declV (atV m.Voters p.From.toNat) p.Trust).1,(declV (atV m.Voters p.From.toNat) p.Trust).2)else if p.Kind=5 then if p.Message.Node≠p.From then(0,atV m.Voters p.From.toNat,8)else if msgB p.Message=false then(0,atV m.Voters p.From.toNat,1)else if insB p.Message.Trust m.Voters.length=false then(0,atV m.Voters p.From.toNat,5)else(p.To,(hearV (atV m.Voters p.To.toNat) p.Message).1,(hearV (atV m.Voters p.To.toNat) p.Message).2)else(p.From,atV m.Voters p.From.toNat,0)
def qjo:Meeting:=⟨[],0,0⟩
noncomputable def stepM(m:Meeting)(p:Play):Meeting×Int:=if mAsk m p≠0 then(qjo,mAsk m p)else if(mChg m p).2.2≠0 then(qjo,(mChg m p).2.2)else(⟨m.Voters.set (mChg m p).1.toNat (mChg m p).2.1,if p.Kind=4 then((m.Stopped.toNat|||2^p.From.toNat:Nat):Int)else m.Stopped,m.Ill⟩,0)
structure SmallP(p:Play):Prop where
 tr:Small p.Trust
 msg:SmallM p.Message
theorem ycw(k:Int):z3v k=some (pairK k):=by
 apply yhc;unfold pairK;by_cases h:k=2;·subst h;rfl
 .rw[q11 h,cF];simp[eqB,h]
theorem q2u{m:Meeting}:q4b m=true↔(1<=m.Voters.length/\m.Voters.length<=10/\(0<=m.Ill/\m.Ill<((2^m.Voters.length:Nat):Int))/\(0<=m.Stopped/\m.Stopped<((2^m.Voters.length:Nat):Int))/\m.Ill.toNat&&&m.Stopped.toNat=0)/\q82 m.Voters.length 0 m.Voters=true:=by unfold q4b;simp
theorem q1l{n:Nat}:∀{l:List Voter}{k:Nat},q82 n k l=true↔∀i,i<l.length->(atV l i).Node=((k+i:Nat):Int)/\q23 (atV l i)=true/\uses (atV l i).Trust<2^n/\∀x∈(atV l i).Heard,x.Node<(n:Int)/\uses x.Trust<2^n
 |[],k=>by simp[q82]|v::r,k=>by
  have ih:=q1l (n:=n) (l:=r) (k:=k+1);have hh:q81 n v.Heard=true↔∀x∈v.Heard,x.Node<(n:Int)/\uses x.Trust<2^n:=by unfold q81 insB;simp
  rw[q82,aT,aT,aT,aT,ih,hh,dT',insB,dT'];constructor;·rintro⟨h1,h2,h3,h4,h5⟩i hi;cases i with|zero=>exact⟨h1,h2,h3,h4⟩|succ i=>have:=h5 i (by simp_all);rw[show k+(i+1)=k+1+i by omega];exact this
  .intro h;obtain⟨h1,h2,h3,h4⟩:=h 0 (by simp);refine⟨h1,h2,h3,h4,fun i hi=>?_⟩;have:=h (i+1) (by simp_all);rw[show k+1+i=k+(i+1)by omega];exact this
theorem yd0{m:Meeting}(h:SmallMt m)(p:Play):z7q m p=some (mAsk m p):=by apply yf4;rw[qjd h,bS];unfold mAsk;cases hv:q4b m with|false=>rfl|true=>
  obtain⟨⟨_,h2,⟨h3,h4⟩,⟨h5,h6⟩,_⟩,_⟩:=q2u.1 hv;have hp:=q7q h2;simp only[nT,cF,Bool.true_eq_false,false_or];by_cases k1:p.Kind<1;·rw[q04 k1,if_pos (.inl k1)];rfl
  by_cases k2:5<p.Kind;·rw[q00 (by omega),q04 k2,if_pos (.inr (.inl k2))];rfl
  by_cases k3:p.From<0;·rw[q00 (by omega),q00 (by omega),q04 k3,if_pos (.inr (.inr (.inl k3)))];rfl
  by_cases k4:(m.Voters.length:Int)<=p.From;·rw[q00 (by omega),q00 (by omega),q00 (by omega),show leB ((m.Voters.length:Nat):Int) p.From=true by unfold leB;simp_all,if_pos (.inr (.inr (.inr k4)))];rfl
  rw[q00 (by omega),q00 (by omega),q00 (by omega),show leB ((m.Voters.length:Nat):Int) p.From=false by unfold leB;simp_all,if_neg (by omega),ycw,bS];have e1:z0q m.Ill p.From=some (has m.Ill.toNat p.From):=by have:=q1d (s:=m.Ill.toNat) (by omega) p.From;grind
  have e2:z0q m.Stopped p.From=some (has m.Stopped.toNat p.From):=by have:=q1d (s:=m.Stopped.toNat) (by omega) p.From;grind
  have e3:z0q (orI .i64 m.Ill m.Stopped) p.To=some (has (m.Ill.toNat|||m.Stopped.toNat) p.To):=by have ho:=q2i (a:=m.Ill.toNat) (b:=m.Stopped.toNat) (by omega) (by omega);rw[Int.toNat_of_nonneg h3,Int.toNat_of_nonneg h5]at ho;rw[ho];exact q1d (Nat.or_lt_two_pow (n:=10) (by omega) (by omega)) p.To
  have e4:eqB p.Kind 5=decide (p.Kind=5):=rfl;rw[e1,e2,e3,e4];unfold mGone;simp only[bS,cF];cases hk:pairK p.Kind with|true=>
   simp only[cT,true_and,if_true];by_cases t1:p.To<0;·rw[q04 t1,if_pos (.inl t1)];rfl
   by_cases t2:(m.Voters.length:Int)<=p.To;·rw[q00 (by omega),show leB ((m.Voters.length:Nat):Int) p.To=true by unfold leB;simp;omega,if_pos (.inr (.inl t2))];rfl
   by_cases t3:p.To=p.From;·rw[q00 (by omega),show leB ((m.Voters.length:Nat):Int) p.To=false by unfold leB;simp;omega,t3,q0o,if_pos (.inr (.inr rfl))];rfl
   rw[q00 (by omega),show leB ((m.Voters.length:Nat):Int) p.To=false by unfold leB;simp;omega,q11 t3,if_neg (by omega)];grind|false=>grind
theorem q4j{m:Meeting}{p:Play}(h:mAsk m p=0):q4b m=true/\1<=p.Kind/\p.Kind<=5/\0<=p.From/\p.From<(m.Voters.length:Int)/\(pairK p.Kind=true->0<=p.To/\p.To<(m.Voters.length:Int)/\p.To≠p.From/\has (m.Ill.toNat|||m.Stopped.toNat) p.To=false)/\has m.Ill.toNat p.From=decide (p.Kind=5)/\(pairK p.Kind=false->has m.Stopped.toNat p.From=false):=by
 unfold mAsk at h;split at h;·cases h
 .rename_i h1;split at h;·cases h
  .rename_i h2;split at h;·cases h
   .rename_i h3;split at h;·cases h
    .rename_i h4;have hv:q4b m=true:=by simp_all
     refine⟨hv,by omega,by omega,by omega,by omega,fun hk=>?_,by simp_all,fun hk=>?_⟩;·unfold mGone at h4;simp_all
     .unfold mGone at h4;simp_all
theorem ydg{m:Meeting}(h:SmallMt m){p:Play}(hp:SmallP p)(ha:mAsk m p=0):z73 m p=some (mChg m p):=by
 obtain⟨hv,k1,k2,f1,f2,ht,_,_⟩:=q4j ha;obtain⟨⟨_,h2,_⟩,hvs⟩:=q2u.1 hv;have gf:m.Voters[p.From.toNat]?=some (atV m.Voters p.From.toNat):=q1x (by omega);have vf:=q1l.1 hvs p.From.toNat (by omega);have sf:=h.voters _ (List.mem_of_getElem? gf);have rf:=(q0p.1 vf.2.1).1;apply yft;rw[q0h f1 gf];unfold mChg;by_cases e1:p.Kind=1;·rw[if_pos e1,e1,q0o,cT,y5m sf,bS,q0x]
 rw[if_neg e1,q11 e1,cF];by_cases e2:p.Kind=2;·have ht:=ht (by rw[e2];rfl);have gt:m.Voters[p.To.toNat]?=some (atV m.Voters p.To.toNat):=q1x (by omega);have st:=h.voters _ (List.mem_of_getElem? gt);rw[if_pos e2,e2,q0o,cT,q0h ht.1 gt,y6w (q3k rf.tr).1 sf.votes sf.accs,bS,qra st (q12 rf.say),bS,q0x]
 rw[if_neg e2,q11 e2,cF];by_cases e3:p.Kind=3
 .rw[if_pos e3,e3,q0o,cT,q9b _ hp.tr,bS,q0x];by_cases z:verr p.Trust=0;·rw[z,q0i,cF,if_neg (by simp),qf3 hp.tr h2,bS,y2a sf hp.tr,bS,q0x];cases insB p.Trust m.Voters.length<;>simp
  .rw[q1f z,cT,if_pos z]
 rw[if_neg e3,q11 e3,cF];by_cases e5:p.Kind=5
 .have ht:=ht (by rw[e5];rfl);have gt:m.Voters[p.To.toNat]?=some (atV m.Voters p.To.toNat):=q1x (by omega);have st:=h.voters _ (List.mem_of_getElem? gt);rw[if_pos e5,e5,q0o,cT,q0h ht.1 gt,qdp hp.msg,bS,q0x,qf3 hp.msg.tr h2,bS,qra st hp.msg,bS,q0x];by_cases z:p.Message.Node=p.From;·rw[z,q0i,cF,if_neg (by simp)];cases msgB p.Message<;>cases insB p.Message.Trust m.Voters.length<;>simp
  .rw[q1f z,cT,if_pos z]
 rw[if_neg e5,q11 e5,cF,q0x]
theorem y3t{m:Meeting}{p:Play}(ha:mAsk m p=0)(h0:(mChg m p).2.2=0):(mChg m p).1=(if pairK p.Kind=true then p.To else p.From):=by
 obtain⟨hv,k1,k2,f1,f2,ht,_,_⟩:=q4j ha;unfold mChg at h0⊢;by_cases e1:p.Kind=1;·rw[if_pos e1,e1];rfl
 rw[if_neg e1]at h0⊢;by_cases e2:p.Kind=2;·rw[if_pos e2,e2];rfl
 rw[if_neg e2]at h0⊢;by_cases e3:p.Kind=3
 .rw[if_pos e3]at h0⊢;by_cases z:verr p.Trust=0
  .rw[if_neg (by simpa using z)]at h0⊢;by_cases y:insB p.Trust m.Voters.length=false;·rw[if_pos y]at h0;cases h0
   .rw[if_neg y,e3];rfl
  .rw[if_pos z]at h0;exact absurd h0 z
 rw[if_neg e3]at h0⊢;by_cases e5:p.Kind=5
 .rw[if_pos e5]at h0⊢;by_cases z:p.Message.Node=p.From
  .rw[if_neg (by simpa using z)]at h0⊢;by_cases y:msgB p.Message=false;·rw[if_pos y]at h0;cases h0
   .rw[if_neg y]at h0⊢;by_cases x:insB p.Message.Trust m.Voters.length=false;·rw[if_pos x]at h0;cases h0
    .rw[if_neg x,e5];rfl
  .rw[if_pos z]at h0;cases h0
 rw[if_neg e5];have:pairK p.Kind=false:=by unfold pairK;simp[e2,e5]
 simp_all
theorem qzm(l:List Voter)(hl:l.length<1000000):z3b l=some ((),l):=yh6 _ _ (by rw[q07 (by simp[q06];omega)];rfl)
theorem qyc{m:Meeting}(h:SmallMt m){p:Play}(hp:SmallP p):z69 m p=some (stepM m p):=by
 apply yel;rw[yd0 h,bS,stepM];by_cases ha:mAsk m p=0;case neg=>rw[q1f ha,cT,if_pos ha];rfl
 rw[ha,q0i,cF,if_neg (by simp),ydg h hp ha,bS];by_cases h0:(mChg m p).2.2=0;case neg=>rw[q1f h0,cT,if_pos h0];rfl
 obtain⟨hv,k1,k2,f1,f2,ht,_,_⟩:=q4j ha;obtain⟨⟨_,h2,_,⟨h5,h6⟩,_⟩,_⟩:=q2u.1 hv;have hpw:=q7q h2;have hat:=y3t ha h0;have hx:0<=(mChg m p).1/\(mChg m p).1<(m.Voters.length:Int):=by grind
 have gx:m.Voters[(mChg m p).1.toNat]?=some (atV m.Voters (mChg m p).1.toNat):=q1x (by omega);rw[h0,q0i,cF,if_neg (by simp),qzm _ h.len,bS];dsimp only;rw[q0h hx.1 gx];simp only[nthN,gx,q0x];by_cases e4:p.Kind=4
 .have hf:p.From=((p.From.toNat:Nat):Int):=by omega
  rw[if_pos e4,e4,q0o,cT,q0f f1];have hs:shlI .i64 1 p.From=((2^p.From.toNat:Nat):Int):=by rw[shl1 (by omega) (by omega)]
  have hpf:2^p.From.toNat<=2^10:=Nat.pow_le_pow_right (by decide) (by omega);have ho:orI .i64 m.Stopped ((2^p.From.toNat:Nat):Int)=((m.Stopped.toNat|||2^p.From.toNat:Nat):Int):=by have:=q2i (a:=m.Stopped.toNat) (b:=2^p.From.toNat) (by omega) (by omega);rw[Int.toNat_of_nonneg h5]at this;exact this
  grind
 .rw[if_neg e4,q11 e4,cF]
theorem qqz:∀t:Trust,Fits t->z5l t=some t:=by
 apply Trust.ind;intro t ih ht;have hsz:size t<1073741824:=ht;rw[q3a]at hsz;have l1:∀(suf:List Trust)(i:Nat)(acc:List Trust)(a8:Int)(a10:List Int)(a12:List Trust)(a14:Int)(a16:List Int)(a18:List Trust)(a20:Int)(a22:List Int),t.Inner.drop i=suf->acc.length<=i->z3y t.Inner ((t.Inner.length:Nat):Int) (i:Int) a8 a10 a12 a14 a16 a18 a20 a22 acc=some ⟨a20,a22,acc++suf⟩:=by intro suf;induction suf with|nil=>intro i acc a8 a10 a12 a14 a16 a18 a20 a22 h ha;apply yao;simp only[q0b h,cF,List.append_nil]|cons y suf ihs=>intro i acc a8 a10 a12 a14 a16 a18 a20 a22 h ha;have hlt:=q09 h;have hy:y∈t.Inner:=List.mem_of_mem_drop (by rw[h];exact List.mem_cons_self);apply yao;simp only[q05 h,cT,q03 h,ih y hy (ht.mem hy),bS,q02 (show i<4611686018427387904 by omega),Trust.etaM];rw[q07 (by simp[q06];omega),ihs (i+1) (acc++[y]) _ _ _ _ _ _ _ _ (q01 h) (by simp;omega)];simp
 apply ygy;have h1:z1k t.Nodes=some ((),t.Nodes):=ybo _ _ (by rw[q07 (by simp[q06];omega)];rfl);rw[h1,bS,show(0:Int)=((0:Nat):Int)from rfl,l1 t.Inner 0 [] _ _ _ _ _ _ _ _ rfl (Nat.le_refl _)];simp
theorem qvp{m:Message}(ht:Fits m.Trust)(h1:m.Votes.length<1000000)(h2:m.Accepts.length<1000000):z3i m=some m:=by apply ygw;rw[qqz _ ht,bS,q3v _ h1,bS,q3v _ h2,bS,Trust.etaM]
theorem qt8(l:List Message)(hl:l.length<1000000)(hm:∀m∈l,z3i m=some m){a3 a15 a21:List Voter}{a5 a7 a17 a19 a23 a25:Int}(ha:a15.length<1000000){n s t:Int}{ns:List Int}{is:List Trust}{va aa ca:List Claim}{R:Meeting}:∀(suf:List Message)(i:Nat)(acc:List Message),l.drop i=suf->acc.length<=i->z2y a3 a5 (addI .i64 a7 1) (a15++[Voter.mk n s ⟨t,ns,is⟩ va aa ca (acc++suf)]) a17 a19 a21 a23 a25=some R->z3x a3 a5 a7 l ((l.length:Nat):Int) (i:Int) a15 a17 a19 a21 a23 a25 n s t ns is va aa ca acc=some R|[],i,acc,h,hac,hR=>by apply yc9;rw[q0b h,cF,q07 (by simp[q06];omega)];simp_all|m::suf,i,acc,h,hac,hR=>by have hlt:=q09 h;apply yc9;rw[q05 h,cT,q03 h,hm m (List.mem_of_mem_drop (i:=i) (by simp_all)),bS,q8q,q07 (by simp[q06];omega),q02 (by omega)];exact qt8 l hl hm ha suf (i+1) (acc++[m]) (q01 h) (by simp_all) (by simp_all)
structure FreshA(v:Voter):Prop where
 tr:Fits v.Trust
 votes:v.Votes.length<1000000
 accs:v.Accepts.length<1000000
 confs:v.Confirms.length<1000000
 heard:v.Heard.length<1000000
 msgs:∀m∈v.Heard,z3i m=some m
theorem qt5(l:List Voter)(hl:l.length<1000000)(hf:∀v∈l,FreshA v)(a10 a12 a16 a18:Int)(a14:List Voter):∀(suf:List Voter)(i:Nat)(acc:List Voter),l.drop i=suf->acc.length<=i->z2y l ((l.length:Nat):Int) (i:Int) acc a10 a12 a14 a16 a18=some ⟨acc++suf,a10,a12⟩
 |[],i,acc,h,ha=>by apply ya6;rw[q0b h,cF,List.append_nil]|y::suf,i,acc,h,ha=>by
  have hlt:=q09 h;have hy:=hf y (List.mem_of_mem_drop (i:=i) (by simp_all));apply ya6;rw[q05 h,cT,q03 h,qqz _ hy.tr,bS,q3v _ hy.votes,bS,q3v _ hy.accs,bS,q3v _ hy.confs,bS];dsimp only;refine qt8 y.Heard hy.heard hy.msgs (by omega) y.Heard 0 [] rfl (Nat.le_refl _) ?_;have hv:Voter.mk y.Node y.Seq ⟨y.Trust.Threshold,y.Trust.Nodes,y.Trust.Inner⟩ y.Votes y.Accepts y.Confirms ([]++y.Heard)=y:=by simp
  rw[hv,q02 (by omega),qt5 l hl hf a10 a12 a16 a18 a14 suf (i+1) (acc++[y]) (q01 h) (by simp_all)];simp
theorem y69{m:Meeting}(h:m.Voters.length<1000000)(hf:∀v∈m.Voters,FreshA v):z6u m=some m:=by apply yfk;have:=qt5 m.Voters h hf m.Stopped m.Ill 0 0 [] m.Voters 0 [] rfl (Nat.le_refl _);exact this
theorem y4a{m:Message}(h:msgB m=true):z3i m=some m:=qvp (q3k (q25.1 h).2.2.1).1 (q12 h).votes (q12 h).accs
theorem Ready.freshA{v:Voter}(h:Ready v):FreshA v:=⟨(q3k h.tr).1,by have:=h.vlen;omega,by have:=h.alen;omega,by have:=h.clen;omega,by have:=h.hlen;omega,fun m hm=>y4a (h.msg m hm).1⟩
theorem qis{S:List Voter}{b:Nat}(h:b<S.length):S.set b (atV S b)=S:=by
 apply List.ext_getElem?;intro i;rw[List.getElem?_set];by_cases e:b=i;·subst e;have:=q1x h;rw[if_pos rfl,if_pos h,this]
 simp_all
def Move(m:Meeting)(p:Play)(v u:Voter):Prop:=(p.Kind=1/\vcl p.Claim=true/\(∀y∈v.Votes++v.Accepts,¬Contra p.Claim y)/\u={v with Votes:=q0k (v.Votes++[p.Claim])})\/(p.Kind=2/\oldB v.Heard (say (atV m.Voters p.From.toNat))=false/\u={v with Heard:=hearL (say (atV m.Voters p.From.toNat)) v.Heard})\/(p.Kind=3/\valid p.Trust=true/\uses p.Trust<2^m.Voters.length/\u={v with Trust:=p.Trust})\/(p.Kind=5/\msgB p.Message=true/\p.Message.Node=p.From/\uses p.Message.Trust<2^m.Voters.length/\oldB v.Heard p.Message=false/\u={v with Heard:=hearL p.Message v.Heard})
def whoP(p:Play):Nat:=(if pairK p.Kind=true then p.To else p.From).toNat
noncomputable def stopP(m:Meeting)(p:Play):Int:=if p.Kind=4 then((m.Stopped.toNat|||2^p.From.toNat:Nat):Int)else m.Stopped
theorem qrf{m:Meeting}{p:Play}(h:(stepM m p).2=0):mAsk m p=0/\∃w,(stepM m p).1=⟨m.Voters.set (whoP p) w,stopP m p,m.Ill⟩/\(w=atV m.Voters (whoP p)/\(p.Kind=1->p.Claim∈w.Votes)/\p.Kind≠2/\p.Kind≠5\/∃u,Move m p (atV m.Voters (whoP p)) u/\w=turnV (atV m.Voters (whoP p)) u):=by
 unfold stepM at h⊢;by_cases ha:mAsk m p=0;case neg=>rw[if_pos ha]at h;exact absurd h ha
 rw[if_neg (by simpa using ha)]at h⊢;by_cases h0:(mChg m p).2.2=0;case neg=>rw[if_pos h0]at h;exact absurd h h0
 rw[if_neg (by simpa using h0)];have hat:=y3t ha h0;refine⟨ha,(mChg m p).2.1,by rw[whoP,<-hat];rfl,?_⟩;obtain⟨hv,k1,k2,f1,f2,ht,_,_⟩:=q4j ha;obtain⟨_,hvs⟩:=q2u.1 hv;unfold whoP;unfold mChg at h0⊢;by_cases e1:p.Kind=1
 .have hk:pairK p.Kind=false:=by rw[e1];rfl
  rw[if_pos e1]at h0⊢;dsimp only at h0⊢;rw[hk,if_neg (by simp)];unfold voteV at h0⊢;split at h0;·cases h0
  .rename_i g1;split at h0;·cases h0
   .rename_i g2;rw[if_neg g1,if_neg g2];split;·rename_i g3;exact .inl ⟨rfl,fun _=>g3,by omega,by omega⟩
    .refine .inr ⟨_,.inl ⟨e1,?_,fun y hy hc=>g2 ⟨y,hy,hc⟩,rfl⟩,rfl⟩;cases hx:vcl p.Claim with|true=>rfl|false=>exact absurd (.inr hx) g1
 rw[if_neg e1]at h0⊢;by_cases e2:p.Kind=2
 .have hk:pairK p.Kind=true:=by rw[e2];rfl
  rw[if_pos e2]at h0⊢;dsimp only at h0⊢;rw[hk,if_pos rfl];obtain⟨g1,g2,g3⟩:=qln h0;have vt:=q1l.1 hvs p.To.toNat (by have:=ht hk;omega);rw[q9h vt.2.1 g1 g2 g3];exact .inr ⟨_,.inr (.inl ⟨e2,g3,rfl⟩),rfl⟩
 rw[if_neg e2]at h0⊢;by_cases e3:p.Kind=3
 .have hk:pairK p.Kind=false:=by rw[e3];rfl
  rw[if_pos e3]at h0⊢;by_cases z:verr p.Trust=0;case neg=>rw[if_pos z]at h0;exact absurd h0 z
  rw[if_neg (by simpa using z)]at h0⊢;by_cases y:insB p.Trust m.Voters.length=false;case pos=>rw[if_pos y]at h0;cases h0
  rw[if_neg y]at h0⊢;dsimp only at h0⊢;rw[hk,if_neg (by simp)];have vf:=q1l.1 hvs p.From.toNat (by omega);have y':uses p.Trust<2^m.Voters.length:=by unfold insB at y;simpa using y
  unfold declV;rw[if_neg (by rw[vf.2.1];simp),if_neg (by simpa using z)];split;·exact .inl ⟨rfl,fun e=>absurd e e1,e2,by omega⟩
  .exact .inr ⟨_,.inr (.inr (.inl ⟨e3,(q4t _).1 z,y',rfl⟩)),rfl⟩
 rw[if_neg e3]at h0⊢;by_cases e5:p.Kind=5
 .have hk:pairK p.Kind=true:=by rw[e5];rfl
  rw[if_pos e5]at h0⊢;by_cases z:p.Message.Node=p.From;case neg=>rw[if_pos z]at h0;cases h0
  rw[if_neg (by simpa using z)]at h0⊢;by_cases y:msgB p.Message=false;case pos=>rw[if_pos y]at h0;cases h0
  rw[if_neg y]at h0⊢;by_cases x:insB p.Message.Trust m.Voters.length=false;case pos=>rw[if_pos x]at h0;cases h0
  rw[if_neg x]at h0⊢;dsimp only at h0⊢;rw[hk,if_pos rfl];obtain⟨g1,g2,g3⟩:=qln h0;have vt:=q1l.1 hvs p.To.toNat (by have:=ht hk;omega);have x':uses p.Message.Trust<2^m.Voters.length:=by unfold insB at x;simpa using x
  rw[q9h vt.2.1 g1 g2 g3];exact .inr ⟨_,.inr (.inr (.inr ⟨e5,g1,z,x',g3,rfl⟩)),rfl⟩
 rw[if_neg e5];have hk:pairK p.Kind=false:=by unfold pairK;simp[e2,e5]
 simp_all
structure PlayOk(P:Lay)(p:Play):Prop where
 vote:p.Kind=1->P.Cl p.Claim
 decl:p.Kind=3->P.T p.From.toNat p.Trust
 lie:p.Kind=5->∀y,y∈p.Message.Votes\/y∈p.Message.Accepts->P.Cl y
theorem y7g{P:Lay}{q:Nat}{S:List Voter}(hS:MtI P q S){a:Nat}(ha:a<P.N):Told P S (say (atV S a)):=by
 have A:=hS.all a ha;have hn:(say (atV S a)).Node=(a:Int):=A.node;refine⟨by omega,A.ins,A.cl,fun b hb he=>?_⟩;have:a=b:=by omega
 subst this;exact⟨A.tru hb,fun _ h=>h,fun _ h=>h,Int.le_refl _,fun _=>rfl⟩
theorem y64{P:Lay}{q:Nat}{S:List Voter}(hS:MtI P q S){b:Nat}(hb:b<P.N){m:Message}(hm:msgB m=true)(hne:m.Node≠(b:Int))(ht:Told P S m):Up P S b {atV S b with Heard:=hearL m (atV S b).Heard}:=by
 have B:=hS.all b hb;obtain⟨hr,hc⟩:=q0p.1 B.valid;refine⟨hr.withH hm (by rw[B.node];omega),hc,B.node,rfl,fun _ h=>h,rfl,rfl,B.tru,B.ins,fun y hy=>B.cl y (.inl hy),fun x hx=>?_⟩;rcases qka hx with e|e;·simp_all
 .exact B.told x e
theorem ye3{P:Lay}{q:Nat}{m:Meeting}(hS:MtI P q m.Voters){p:Play}(hp:PlayOk P p)(hG:∀a:Nat,P.G a->has m.Ill.toNat (a:Int)=false)(ha:mAsk m p=0){u:Voter}(hu:Move m p (atV m.Voters (whoP p)) u):Up P m.Voters (whoP p) u/\whoP p<P.N:=by
 obtain⟨hv,k1,k2,f1,f2,ht,hi,hg⟩:=q4j ha;have hl:=hS.len;have hwN:whoP p<P.N:=by unfold whoP;grind
 refine⟨?_,hwN⟩;have B:=hS.all _ hwN;obtain⟨hr,hc⟩:=q0p.1 B.valid;rcases hu with⟨e,x1,x2,rfl⟩|⟨e,x1,rfl⟩|⟨e,x1,x2,rfl⟩|⟨e,x1,x2,x3,x4,rfl⟩
 .have hmp:=fun y=>qeo (y:=y) (q0v.1 hr.votes).1 x1;refine⟨hr.withV p.Claim,?_,B.node,rfl,fun y hy=>(hmp y).2 (.inl hy),rfl,rfl,B.tru,B.ins,fun y hy=>?_,B.told⟩
  .have:consC ((atV m.Voters (whoP p)).Votes++[p.Claim])=true:=by rw[qct hc,dT'];exact fun y hy hcc=>x2 y (by simp[hy]) hcc
   rw[q55]at this⊢;simp_all
  .rcases(hmp y).1 hy with g|g;·exact B.cl y (.inl g)
   .rw[g];exact hp.vote e
 .have hk:pairK p.Kind=true:=by rw[e];rfl
  have h1:=ht hk;have hw:whoP p=p.To.toNat:=by unfold whoP;simp_all
  have A:=hS.all p.From.toNat (by omega);exact y64 hS hwN (q0p.1 A.valid).1.say (by show(atV m.Voters p.From.toNat).Node≠_;rw[A.node];omega) (y7g hS (by omega))
 .have hk:pairK p.Kind=false:=by rw[e];rfl
  have hw:whoP p=p.From.toNat:=by unfold whoP;simp_all
  exact⟨hr.withT x1,hc,B.node,rfl,fun _ h=>h,rfl,rfl,fun _=>by rw[hw];exact hp.decl e,by simp_all,fun y hy=>B.cl y (.inl hy),B.told⟩
 .have hk:pairK p.Kind=true:=by rw[e];rfl
  have h1:=ht hk;have hw:whoP p=p.To.toNat:=by unfold whoP;rw[hk];rfl
  refine y64 hS hwN x1 (by omega) ⟨by rw[x2];omega,by rw[<-hl];exact x3,hp.lie e,fun a ha he=>?_⟩;grind
theorem mt_up{P:Lay}{q:Nat}{S:List Voter}(hS:MtI P q S):MtI P (q+1) S:=⟨hS.len,fun b hb=>by have B:=hS.all b hb;have:=B.seq;exact⟨B.valid,B.node,B.tru,B.ins,by omega,B.cl,B.set,B.told,B.conf⟩⟩
theorem y20{P:Lay}(hN:P.N<=10){q:Nat}(hq:q<=100000){m:Meeting}(hS:MtI P q m.Voters){p:Play}(hp:PlayOk P p)(hG:∀a:Nat,P.G a->has m.Ill.toNat (a:Int)=false)(h:(stepM m p).2=0):MtI P (q+1) (stepM m p).1.Voters/\(∀b,b<P.N->Turn (atV m.Voters b) (atV (stepM m p).1.Voters b))/\∀I,Own P I->AcI P I m.Voters->AcI P I (stepM m p).1.Voters:=by
 obtain⟨ha,w,e,hw⟩:=qrf h;have hl:=hS.len;rw[e];dsimp only;rcases hw with⟨rfl,_⟩|⟨u,hu,rfl⟩
 .obtain⟨hv,k1,k2,f1,f2,ht,hi,hg⟩:=q4j ha;have hwN:whoP p<m.Voters.length:=by unfold whoP;grind
  rw[qis hwN];exact⟨mt_up hS,fun b _=>Turn.refl _,fun I _ hA=>hA⟩
 .obtain⟨hU,hwN⟩:=ye3 hS hp hG ha hu;obtain⟨h1,h2⟩:=ydc hN hS hwN hq hU (.inl rfl);refine⟨h1,fun b hb=>?_,fun I hO hA=>ye2 hN hO hA (by omega) (hS.all _ hwN).node hU⟩;rw[q67 (by omega)];by_cases e:whoP p=b;·simp_all
  .rw[if_neg e];exact Turn.refl _
theorem y7c{P:Lay}(hN:P.N<=10)(h1:1<=P.N){q:Nat}{m:Meeting}(hS:MtI P q m.Voters)(hb:(0<=m.Ill/\m.Ill<((2^P.N:Nat):Int))/\(0<=m.Stopped/\m.Stopped<((2^P.N:Nat):Int))/\m.Ill.toNat&&&m.Stopped.toNat=0):q4b m=true:=by have hl:=hS.len;refine q2u.2 ⟨⟨by omega,by omega,by simp_all,by simp_all,hb.2.2⟩,q1l.2 fun i hi=>?_⟩;have B:=hS.all i (by omega);rw[hl];refine⟨by rw[Nat.zero_add];exact B.node,B.valid,B.ins,fun x hx=>?_⟩;have T:=B.told x hx;have:=T.node;exact⟨by omega,T.ins⟩
theorem qxl{P:Lay}(hN:P.N<=10){q:Nat}{S:List Voter}(hS:MtI P q S):(∀v∈S,SmallV v)/\(∀v∈S,FreshA v)/\S.length<=10:=by
 have key:∀v∈S,Ready v:=fun v hv=>by obtain⟨i,hi⟩:=List.getElem?_of_mem hv;have hlt:i<S.length:=(List.getElem?_eq_some_iff.1 hi).1;have:=(q0p.1 (hS.all i (by have:=hS.len;omega)).valid).1;rw[q1x hlt]at hi;simp_all
 exact⟨fun v hv=>(key v hv).small,fun v hv=>(key v hv).freshA,by have:=hS.len;omega⟩
def Sets2(N:Nat)(m:Meeting):Prop:=(0<=m.Ill/\m.Ill<((2^N:Nat):Int))/\(0<=m.Stopped/\m.Stopped<((2^N:Nat):Int))/\m.Ill.toNat&&&m.Stopped.toNat=0
theorem qlv{m:Meeting}{p:Play}(h:(stepM m p).2=0){N:Nat}(hl:m.Voters.length=N)(hs:Sets2 N m):Sets2 N (stepM m p).1/\(stepM m p).1.Ill=m.Ill/\(stepM m p).1.Stopped.toNat=(if p.Kind=4 then m.Stopped.toNat|||2^p.From.toNat else m.Stopped.toNat):=by
 obtain⟨ha,w,e,_⟩:=qrf h;obtain⟨hv,k1,k2,f1,f2,ht,hi,hg⟩:=q4j ha;obtain⟨⟨_,l10,_⟩,_⟩:=q2u.1 hv;obtain⟨s1,s2,s3⟩:=hs;rw[e];unfold stopP;by_cases e4:p.Kind=4
 .have hk:pairK p.Kind=false:=by rw[e4];rfl
  have hi':m.Ill.toNat.testBit p.From.toNat=false:=by
   have:has m.Ill.toNat p.From=false:=by rw[hi,e4];rfl
   have hf:p.From=((p.From.toNat:Nat):Int):=by omega
   rw[hf,q2b (by omega)]at this;exact this
  simp only[if_pos e4];have h1:m.Stopped.toNat|||2^p.From.toNat<2^N:=Nat.or_lt_two_pow (by omega) (Nat.pow_lt_pow_right (by decide) (by omega));refine⟨⟨s1,⟨by show(0:Int)<=((m.Stopped.toNat|||2^p.From.toNat:Nat):Int);omega,by show((m.Stopped.toNat|||2^p.From.toNat:Nat):Int)<_;omega⟩,?_⟩,by first|trivial|rfl,by first|trivial|rfl⟩;show m.Ill.toNat&&&((m.Stopped.toNat|||2^p.From.toNat:Nat):Int).toNat=0;rw[tN];apply Nat.eq_of_testBit_eq;grind
 .simp only[if_neg e4];exact⟨⟨s1,s2,s3⟩,by simp,by simp⟩
structure Gone(v:Voter)(k:Nat):Prop where
 valid:q23 v=true
 seq:v.Seq<=(k:Int)+1
theorem Gone.step{v w:Voter}{k:Nat}(h:Gone v k)(hk:k<1000)(hs:Step v w):Gone w (k+1):=by have:=h.seq;have:=hs.seq;exact⟨hs.ready (by omega),by omega⟩
theorem Gone.up{v:Voter}{k:Nat}(h:Gone v k):Gone v (k+1):=⟨h.valid,by have:=h.seq;omega⟩
def noT:Trust:=⟨0,[],[]⟩
def noM:Message:=⟨0,0,noT,[],[]⟩
theorem qbi:Small noT:=by unfold Small noT;rw[q95];simp[sizes]
theorem qke:SmallM noM:=⟨qbi,by simp[noM],by simp[noM]⟩
theorem y3f(k:Int):Small ⟨1,[k],[]⟩:=by unfold Small;rw[q95];simp[sizes]
def qc8(c:Config)(k:Nat):Voter:=⟨(k:Int),1,tr c k,[],[],[],[]⟩
def q38(c:Config):List Voter:=(List.range c.Members.length).map (qc8 c)
theorem qn3(c:Config):(q38 c).length=c.Members.length:=by simp[q38]
theorem qs4(c:Config){k:Nat}(h:k<c.Members.length):atV (q38 c) k=qc8 c k:=by
 have:=q1x (S:=q38 c) (b:=k) (by rw[qn3];exact h);have h2:(q38 c)[k]?=some (qc8 c k):=by simp[q38,h]
 simp_all
theorem tr_at{c:Config}{i:Nat}{m:Member}(h:c.Members[i]?=some m):tr c i=m.Trust:=by unfold tr;simp_all
theorem qtl{N:Nat}{c:Config}(hc:ConfOk N c)(hd:∀m∈c.Members,m.Declared=true){k:Nat}(h:k<c.Members.length):valid (tr c k)=true/\uses (tr c k)<2^c.Members.length:=by
 have hget:c.Members[k]?=some c.Members[k]:=by simp
 have hm:=hc.mem _ (List.getElem_mem h);unfold MemOk at hm;rw[if_pos (hd _ (List.getElem_mem h))]at hm;rw[tr_at hget];exact⟨hm.1,qh0 _ hm.2⟩
theorem qxs{N:Nat}(hN:N<=10){c:Config}(hc:ConfOk N c)(hd:∀m∈c.Members,m.Declared=true)(a0:Int)(a10:List Member)(a12:List Voter)(a14 a16 a20 a22:Int):∀(r k:Nat),k+r=c.Members.length->z2v a0 c.Members ((c.Members.length:Nat):Int) (k:Int) a10 a12 a14 a16 ((List.range k).map (qc8 c)) a20 a22=some (⟨q38 c,a20,a22⟩,0)
 |0,k,h=>by apply yb8;rw[q00 (by omega),cF,show k=c.Members.length by omega];rfl|r+1,k,h=>by
  have hlt:k<c.Members.length:=by omega
  have hl:=hc.le;have hget:c.Members[k]?=some c.Members[k]:=by simp
  have ht:=tr_at hget;obtain⟨hv,hu⟩:=qtl hc hd hlt;have hk:inR (k:Int)=true:=by simp[inR];omega
  apply yb8;rw[q04 (by omega),cT,q0h (y:=c.Members[k]) (by omega) (by simp),hd _ (List.getElem_mem hlt),nT,cF,<-ht,y17 _ (q3e hv),(qe3 hk hv).1,bS,q0x,q07 (by simp[q06];omega),q02 (by omega)];have:=qxs hN hc hd a0 a10 a12 a14 a16 a20 a22 r (k+1) (by omega);rw[List.range_succ,List.map_append]at this;exact this
theorem qt0{N:Nat}(hN:N<=10){c:Config}(hc:ConfOk N c)(hd:∀m∈c.Members,m.Declared=true){ill:Nat}(hill:ill<2^c.Members.length):z6o c (ill:Int)=some (⟨q38 c,0,(ill:Int)⟩,0):=by have hl:=hc.le;have hp:=hc.pos;have hpw:=q7q (n:=c.Members.length) (by omega);have h0:cerr c=0:=q4f.2 (hc.valid hN);apply yj0;rw[qpo (hc.smallC hN),bS,h0,q0i,cF,q11 (by omega),cF,q00 (by omega),cF,q0f (by omega),shlN (by omega),q54,decide_eq_true (by omega)];exact qxs hN hc hd _ _ _ _ _ _ _ c.Members.length 0 (by omega)
theorem qoz(c:Config)(k:Nat):Settled (qc8 c k):=⟨fun x hx=>by simp[known,allM,q5w,qc8,say,q1b]at hx,fun y hy=>by cases hy⟩
theorem qx8{N:Nat}(hN:N<=10){c:Config}(hc:ConfOk N c)(hd:∀m∈c.Members,m.Declared=true){P:Lay}(hP:P.N=c.Members.length)(hT:∀b,b<P.N->P.G b->P.T b (tr c b)):MtI P 1 (q38 c):=by
 refine⟨by rw[qn3,hP],fun b hb=>?_⟩;have hb':b<c.Members.length:=by omega
 have hl:=hc.le;obtain⟨hv,hu⟩:=qtl hc hd hb';have hk:inR (b:Int)=true:=by simp[inR];omega
 rw[show MtB P 1 (q38 c) b=MtB P 1 (q38 c) b from rfl];have e:=qs4 c hb';refine⟨by rw[e];exact(qe3 hk hv).2,by rw[e];rfl,fun hg=>by rw[e];exact hT b hb hg,by rw[e,hP];exact hu,by rw[e];show(1:Int)<=_;omega,?_,by rw[e];exact qoz c b,fun m hm=>?_,fun _ y hy=>?_⟩;·rw[e];rintro y(h|h)<;>cases h
 .rw[e]at hm;cases hm
 .rw[e]at hy;cases hy
noncomputable def playM:List Play->Meeting->Meeting×List Int|[],m=>(m,[])|p::r,m=>((playM r (if(stepM m p).2=0 then(stepM m p).1 else m)).1,(stepM m p).2::(playM r (if(stepM m p).2=0 then(stepM m p).1 else m)).2)
def lay0(N:Nat):Lay:=⟨N,fun _=>False,fun _ _=>True,fun _=>True⟩
theorem ok0(N:Nat)(p:Play):PlayOk (lay0 N) p:=⟨fun _=>trivial,fun _=>trivial,fun _ _ _=>trivial⟩
theorem g0(N:Nat)(m:Meeting):∀a:Nat,(lay0 N).G a->has m.Ill.toNat (a:Int)=false:=fun _ h=>h.elim
structure GoodMt(N q:Nat)(m:Meeting):Prop where
 mt:MtI (lay0 N) q m.Voters
 sets:Sets2 N m
theorem GoodMt.small{N q:Nat}(hN:N<=10){m:Meeting}(h:GoodMt N q m):SmallMt m:=by obtain⟨h1,_,h3⟩:=qxl hN h.mt;exact⟨by omega,h1⟩
theorem GoodMt.fresh{N q:Nat}(hN:N<=10){m:Meeting}(h:GoodMt N q m):z6u m=some m:=by obtain⟨_,h2,h3⟩:=qxl hN h.mt;exact y69 (by omega) h2
theorem GoodMt.valid{N q:Nat}(hN:N<=10)(h1:1<=N){m:Meeting}(h:GoodMt N q m):q4b m=true:=y7c (P:=lay0 N) hN h1 h.mt h.sets
theorem GoodMt.len{N q:Nat}{m:Meeting}(h:GoodMt N q m):m.Voters.length=N:=h.mt.len
theorem GoodMt.step{N q:Nat}(hN:N<=10)(hq:q<=100000){m:Meeting}(h:GoodMt N q m){p:Play}(h0:(stepM m p).2=0):GoodMt N (q+1) (stepM m p).1:=⟨(y20 (P:=lay0 N) hN hq h.mt (ok0 N p) (g0 N m) h0).1,(qlv h0 h.len h.sets).1⟩
theorem GoodMt.up{N q:Nat}{m:Meeting}(h:GoodMt N q m):GoodMt N (q+1) m:=⟨mt_up h.mt,h.sets⟩
theorem qun{N:Nat}(hN:N<=10)(l:List Play)(hl:l.length<=400)(hp:∀p∈l,SmallP p)(a10:List Member)(a12:List Voter)(a14 a16:Int):∀(suf:List Play)(i q:Nat)(acc:List Int)(m:Meeting),l.drop i=suf->acc.length<=i->GoodMt N q m->q+suf.length<=1000->z40 acc l ((l.length:Nat):Int) (i:Int) a10 a12 a14 a16 m.Voters m.Stopped m.Ill=some ((playM suf m).1,acc++(playM suf m).2,0)
 |[],i,q,acc,m,h,ha,hm,hq=>by apply y9w;rw[q0b h,cF,show Meeting.mk m.Voters m.Stopped m.Ill=m from rfl,hm.fresh hN,bS,playM,List.append_nil]|p::suf,i,q,acc,m,h,ha,hm,hq=>by
  have hlt:=q09 h;rw[List.length_cons]at hq;have hps:=hp p (List.mem_of_mem_drop (i:=i) (by simp_all));apply y9w;rw[q05 h,cT,q03 h,show Meeting.mk m.Voters m.Stopped m.Ill=m from rfl,qyc (hm.small hN) hps,bS,q02 (by omega),playM];by_cases h0:(stepM m p).2=0;·have ih:=qun hN l hl hp a10 a12 a14 a16 suf (i+1) (q+1) (acc++[(stepM m p).2]) (stepM m p).1 (q01 h) (by simp_all) (hm.step hN (by omega) h0) (by omega);simp only[if_pos h0];rw[show eqB (stepM m p).2 0=true by rw[h0];rfl,cT,q07 (by simp[q06];omega),ih];simp
  .have ih:=qun hN l hl hp a10 a12 a14 a16 suf (i+1) (q+1) (acc++[(stepM m p).2]) m (q01 h) (by simp_all) hm.up (by omega);simp only[if_neg h0];rw[q11 h0,cF,q07 (by simp[q06];omega),ih];simp
theorem q8o{N:Nat}(hN:N<=10){c:Config}(hc:ConfOk N c)(hd:∀m∈c.Members,m.Declared=true){ill:Nat}(hill:ill<2^c.Members.length):GoodMt c.Members.length 1 ⟨q38 c,0,(ill:Int)⟩:=⟨qx8 hN hc hd rfl fun _ _ h=>h.elim,⟨by simp,by grind⟩,⟨by simp,by grind⟩,Nat.and_zero _⟩
noncomputable def runM(c:Config)(ill:Nat)(l:List Play):Meeting×List Int:=playM l ⟨q38 c,0,(ill:Int)⟩
theorem ycs{N:Nat}(hN:N<=10){c:Config}(hc:ConfOk N c)(hd:∀m∈c.Members,m.Declared=true){ill:Nat}(hill:ill<2^c.Members.length){l:List Play}(hl:l.length<=400)(hp:∀p∈l,SmallP p):z72 c (ill:Int) l=some ((runM c ill l).1,(runM c ill l).2,0):=by have hle:=hc.le;apply yjf;rw[qt0 hN hc hd hill,bS];dsimp only;rw[q0i,cF,q00 (by omega),cF];exact qun (N:=c.Members.length) (by omega) l hl hp _ _ _ _ l 0 1 [] ⟨q38 c,0,(ill:Int)⟩ rfl (Nat.le_refl _) (q8o hN hc hd hill) (by omega)
def sendP(a b:Nat):Play:=⟨2,(a:Int),(b:Int),⟨0,0⟩,noT,noM⟩
theorem qjh(a b:Nat):SmallP (sendP a b):=⟨qbi,qke⟩
noncomputable def sendM(m:Meeting)(a b:Nat):Meeting:=if(stepM m (sendP a b)).2=0 then(stepM m (sendP a b)).1 else m
noncomputable def sends(m:Meeting)(l:List (Nat×Nat)):Meeting:=l.foldl (fun m p=>sendM m p.1 p.2) m
def q3m(w:List Nat):List (Nat×Nat):=w.flatMap fun a=>w.map fun b=>(a,b)
def qnv(N:Nat)(m:Meeting):List Nat:=nodes (2^N-1-m.Ill.toNat)
def c3:Config:=⟨[⟨true,⟨2,[0,1,2],[]⟩⟩,⟨true,⟨2,[0,1,2],[]⟩⟩,⟨true,⟨2,[0,1,2],[]⟩⟩]⟩
def t3:Trust:=⟨2,[0,1,2],[]⟩
def x3:Claim:=⟨0,1⟩
def a0:Voter:=⟨0,1,t3,[],[],[],[]⟩
def b0:Voter:=⟨1,1,t3,[],[],[],[]⟩
def d0:Voter:=⟨2,1,t3,[],[],[],[]⟩
def a1:Voter:=⟨0,2,t3,[x3],[],[],[]⟩
def b1:Voter:=⟨1,2,t3,[x3],[],[],[]⟩
def b2:Voter:=⟨1,3,t3,[x3],[x3],[],[say a1]⟩
def a2:Voter:=⟨0,3,t3,[x3],[x3],[x3],[say b2]⟩
def b3:Voter:=⟨1,3,t3,[x3],[x3],[x3],[say a2]⟩
def p3:List Play:=[⟨1,0,0,x3,noT,noM⟩,⟨1,1,0,x3,noT,noM⟩,⟨2,0,1,⟨0,0⟩,noT,noM⟩,⟨2,1,0,⟨0,0⟩,noT,noM⟩,⟨2,0,1,⟨0,0⟩,noT,noM⟩,⟨2,1,0,⟨0,0⟩,noT,noM⟩]
theorem q8y{b u:Voter}{A C:List Claim}{s:Int}(h1:(q0m u).Accepts=A)(h2:(q0m u).Confirms=C)(hs:(b.Trust=u.Trust/\b.Votes=u.Votes/\b.Accepts=A/\s=u.Seq)\/(¬(b.Trust=u.Trust/\b.Votes=u.Votes/\b.Accepts=A)/\s=u.Seq+1)):turnV b u=⟨u.Node,s,u.Trust,u.Votes,A,C,u.Heard⟩:=by
 obtain⟨g1,g2,g3,g4,g5⟩:=q1y u;have e:q0m u=⟨u.Node,u.Seq,u.Trust,u.Votes,A,C,u.Heard⟩:=by rw[<-g1,<-g2,<-g3,<-g4,<-g5,<-h1,<-h2]
 rw[turnV,e];grind
theorem qm2{m:Meeting}{p:Play}{k:Int}{w:Voter}(ha:mAsk m p=0)(hc:mChg m p=(k,w,0))(h4:p.Kind≠4):stepM m p=(⟨m.Voters.set k.toNat w,m.Stopped,m.Ill⟩,0):=by unfold stepM;simp_all
theorem y48{v w:Voter}{x:Claim}(h1:q23 v=true)(h2:vcl x=true)(h3:(v.Votes++v.Accepts)=[])(hw:turnV v {v with Votes:=q0k (v.Votes++[x])}=w):voteV v x=(w,0):=by have h5:v.Votes=[]:=(List.append_eq_nil_iff.1 h3).1;unfold voteV;simp_all
theorem ex1:stepM ⟨[a0,b0,d0],0,4⟩ ⟨1,0,0,x3,noT,noM⟩=(⟨[a1,b0,d0],0,4⟩,0):=by have hv:voteV a0 x3=(a1,0):=y48 (by rfl) (by rfl) rfl (q8y (A:=[]) (C:=[]) (s:=2) (by rfl) (by rfl) (.inr ⟨fun h=>by have:=h.2.1;revert this;decide+kernel,rfl⟩));exact qm2 (k:=0) (w:=a1) (by rfl) (by show((0:Int),(voteV a0 x3).1,(voteV a0 x3).2)=_;rw[hv]) (by decide)
theorem ex2:stepM ⟨[a1,b0,d0],0,4⟩ ⟨1,1,0,x3,noT,noM⟩=(⟨[a1,b1,d0],0,4⟩,0):=by have hv:voteV b0 x3=(b1,0):=y48 (by rfl) (by rfl) rfl (q8y (A:=[]) (C:=[]) (s:=2) (by rfl) (by rfl) (.inr ⟨fun h=>by have:=h.2.1;revert this;decide+kernel,rfl⟩));exact qm2 (k:=1) (w:=b1) (by rfl) (by show((1:Int),(voteV b0 x3).1,(voteV b0 x3).2)=_;rw[hv]) (by decide)
theorem ex3:stepM ⟨[a1,b1,d0],0,4⟩ ⟨2,0,1,⟨0,0⟩,noT,noM⟩=(⟨[a1,b2,d0],0,4⟩,0):=by
 have hv:hearV b1 (say a1)=(b2,0):=by rw[q9h (by rfl) (by rfl) (by decide+kernel) (by rfl),q8y (A:=[x3]) (C:=[]) (s:=3) (by rfl) (by rfl) (.inr ⟨fun h=>by have:=h.2.2;revert this;decide+kernel,rfl⟩)];rfl
 exact qm2 (k:=1) (w:=b2) (by rfl) (by show((1:Int),(hearV b1 (say a1)).1,(hearV b1 (say a1)).2)=_;rw[hv]) (by decide)
theorem ex4:stepM ⟨[a1,b2,d0],0,4⟩ ⟨2,1,0,⟨0,0⟩,noT,noM⟩=(⟨[a2,b2,d0],0,4⟩,0):=by
 have hv:hearV a1 (say b2)=(a2,0):=by rw[q9h (by rfl) (by rfl) (by decide+kernel) (by rfl),q8y (A:=[x3]) (C:=[x3]) (s:=3) (by rfl) (by rfl) (.inr ⟨fun h=>by have:=h.2.2;revert this;decide+kernel,rfl⟩)];rfl
 exact qm2 (k:=0) (w:=a2) (by rfl) (by show((0:Int),(hearV a1 (say b2)).1,(hearV a1 (say b2)).2)=_;rw[hv]) (by decide)
theorem ex5:stepM ⟨[a2,b2,d0],0,4⟩ ⟨2,0,1,⟨0,0⟩,noT,noM⟩=(⟨[a2,b3,d0],0,4⟩,0):=by
 have hv:hearV b2 (say a2)=(b3,0):=by rw[q9h (by rfl) (by rfl) (by decide+kernel) (by rfl),q8y (b:=b2) (u:={b2 with Heard:=hearL (say a2) b2.Heard}) (A:=[x3]) (C:=[x3]) (s:=3) (by rfl) (by rfl) (.inl ⟨rfl,rfl,rfl,rfl⟩)];rfl
 exact qm2 (k:=1) (w:=b3) (by rfl) (by show((1:Int),(hearV b2 (say a2)).1,(hearV b2 (say a2)).2)=_;rw[hv]) (by decide)
theorem ex6:stepM ⟨[a2,b3,d0],0,4⟩ ⟨2,1,0,⟨0,0⟩,noT,noM⟩=(qjo,9):=by rfl
theorem ydp:playM p3 ⟨[a0,b0,d0],0,4⟩=(⟨[a2,b3,d0],0,4⟩,[0,0,0,0,0,9]):=by simp only[p3,playM,ex1,ex2,ex3,ex4,ex5,ex6,if_true];rfl
theorem y6f:law20_awake=some true:=by
 have hc:ConfOk 3 c3:=(q4f.1 (by decide+kernel)).conf (by decide) (by decide);have hd:∀m∈c3.Members,m.Declared=true:=fun m hm=>by simp[c3]at hm;rw[hm]
 have hr:=ycs (N:=3) (by decide) hc hd (ill:=4) (by decide) (l:=p3) (by decide) (fun p hp=>by simp only[p3,List.mem_cons,List.not_mem_nil,or_false]at hp;rcases hp with rfl|rfl|rfl|rfl|rfl|rfl<;>exact⟨qbi,qke⟩);have hs:q38 c3=[a0,b0,d0]:=rfl;have he:runM c3 4 p3=(⟨[a2,b3,d0],0,4⟩,[0,0,0,0,0,9]):=by unfold runM;rw[hs];exact ydp
 rw[he]at hr;apply law20_awake_le;have h3:law20_three=some c3:=law20_three_le _ rfl;have hr':z72 c3 4 p3=some (⟨[a2,b3,d0],0,4⟩,[0,0,0,0,0,9],0):=hr;rw[h3,bS];show(z72 c3 4 p3).bind _=_;rw[hr',bS];have q1:z3a [x3] x3=some true:=by rw[qb8 _ (by decide)];rfl
 show((z3a [x3] x3).bind fun r=>bif r then(z3a [x3] x3).bind fun z=>some z else some false)=some true;simp_all
structure Kept(v w:Voter):Prop where
 votes:w.Votes=v.Votes
 tr:w.Trust=v.Trust
 accs:SubC v.Accepts w.Accepts
 confs:SubC v.Confirms w.Confirms
theorem Kept.refl(v:Voter):Kept v v:=⟨rfl,rfl,fun _ h=>h,fun _ h=>h⟩
def layW(c:Config)(G:Nat->Prop)(Cl:Claim->Prop):Lay:=⟨c.Members.length,G,fun k t=>t=tr c k,Cl⟩
structure Idle(c:Config)(gone:Nat)(q:Nat)(m:Meeting):Prop where
 mt:MtI (layW c (fun a=>a<c.Members.length) fun _=>True) q m.Voters
 good:GoodMt c.Members.length q m
 ill:m.Ill=0
 stop:∀k,gone.testBit k=true->m.Stopped.toNat.testBit k=true
 same:∀k,gone.testBit k=true->k<c.Members.length->atV m.Voters k=qc8 c k
theorem Idle.up{c:Config}{gone q:Nat}{m:Meeting}(h:Idle c gone q m):Idle c gone (q+1) m:=⟨mt_up h.mt,h.good.up,h.ill,h.stop,h.same⟩
theorem qsd{c:Config}{n:Nat}(hn:n<=10)(h1:1<=n)(hm:c.Members.length=n){l:List Int}:∀(k s:Nat)(i:Int),k<=100->s<2^n->q18 l i->∃(v:Nat)(j:Int),z85 (n:Int) (s:Int) (k:Int) l i c.Members=some ((v:Int),l,j)/\v<2^n/\q18 l j
 |0,s,i,hk,hs,h=>by
  have hp:=pow10 hn;have hp1:=Nat.two_pow_pos n;obtain⟨v,j,g1,g2,g3,g4⟩:=N_ok (n:=2) (by decide) (by decide) h;have hd:=q59 c;have hr:=q5j c (by omega);have hlt:ndiff (2^n-1) (decl c)<2^n:=q4n.2 fun i hi=>by rw[q0d]at hi;simp_all
  have hv:v=0\/v=1:=by omega
  have key:∀w:Nat,mulI .i64 ((ndiff (2^n-1) (decl c):Nat):Int) v=((w:Nat):Int)->w<2^n->∃(v:Nat)(j:Int),z85 (n:Int) (s:Int) ((0:Nat):Int) l i c.Members=some ((v:Int),l,j)/\v<2^n/\q18 l j:=by intro w hw hwl;refine⟨s|||w,j,?_,Nat.or_lt_two_pow hs hwl,g4⟩;apply y9j;rw[q00 (by omega),q0f (by omega),show Config.mk c.Members=c from rfl,hr];simp only[cF,bS];rw[g1];simp only[bS];rw[q4m hn,q5c (by omega) (by omega),hw,q2i (by omega) (by omega)]
  rcases hv with rfl|rfl;·refine key 0 ?_ hp1;rfl
  .refine key (ndiff (2^n-1) (decl c)) ?_ hlt;show mulI .i64 _ 1=_;unfold mulI;rw[Int.mul_one];exact wrap64 (by omega) (by omega)|k+1,s,i,hk,hs,h=>by have hp:=pow10 hn;obtain⟨v,j,g1,g2,g3,g4⟩:=N_ok (n:=(n:Int)) (by omega) (by omega) h;obtain⟨w,rfl⟩:=Int.eq_ofNat_of_zero_le g2;have hw:2^w<2^n:=Nat.pow_lt_pow_right (by decide) (by omega);obtain⟨v',j',k1,k2,k3⟩:=qsd hn h1 hm k (s|||2^w) j (by omega) (Nat.or_lt_two_pow hs hw) g4;refine⟨v',j',?_,k2,k3⟩;apply y9j;rw[q04 (by omega),g1];simp only[cT,bS];rw[q0f (by omega),shl1 (by omega) (by omega),tN,q2i (by omega) (by omega),q65 (by omega) (by omega)];simp_all
theorem y7e{m:Nat}{c:Config}(hc:ConfOk m c)(hm:m<=10){l:List Int}{i:Int}(h:q18 l i):∃(v:Nat)(j:Int),z9q c l i=some ((v:Int),l,j)/\v<2^c.Members.length/\q18 l j:=by
 have hle:=hc.le;have hpos:=hc.pos;obtain⟨p,j,g1,g2,g3⟩:=qu9 (ps:=[0,1,1,2,3]) (by decide) (by decide) h;have hpn:∃k:Nat,k<=100/\p=(k:Int):=by
  simp at g2;rcases g2 with rfl|rfl|rfl|rfl;·exact⟨0,by decide,rfl⟩
  .exact⟨1,by decide,rfl⟩
  .exact⟨2,by decide,rfl⟩
  .exact⟨3,by decide,rfl⟩
 obtain⟨k,hk,rfl⟩:=hpn;have hp1:=Nat.two_pow_pos c.Members.length;obtain⟨v,j',k1,k2,k3⟩:=qsd (c:=c) (n:=c.Members.length) (by omega) (by omega) rfl (l:=l) k 0 j hk hp1 g3;refine⟨v,j',?_,k2,k3⟩;apply yes;simp_all
def x5:Claim:=⟨5,3⟩
def Cl5(y:Claim):Prop:=y.Topic≠5\/y=x5
def layG(c:Config)(ill:Nat):Lay:=layW c (fun a=>a<c.Members.length/\ill.testBit a=false) Cl5
structure Vot(c:Config)(ill q:Nat)(V:Nat->Prop)(m:Meeting):Prop where
 mt:MtI (layG c ill) q m.Voters
 good:GoodMt c.Members.length q m
 ill:m.Ill=(ill:Int)stop:m.Stopped=0
 voted:∀k,V k->k<c.Members.length->x5∈(atV m.Voters k).Votes
theorem Vot.up{c:Config}{ill q:Nat}{V:Nat->Prop}{m:Meeting}(h:Vot c ill q V m):Vot c ill (q+1) V m:=⟨mt_up h.mt,h.good.up,h.ill,h.stop,h.voted⟩
theorem qvy{m:Meeting}(hl:m.Voters.length<1000000){v:Voter}{k:Nat}(hk:v.Node=(k:Int))(hlt:k<m.Voters.length):z5w m v=some ⟨m.Voters.set k v,m.Stopped,m.Ill⟩:=by apply yev;rw[q07 (by simp[q06];omega),List.nil_append,hk,q0h (y:=atV m.Voters k) (by omega) (by rw[tN];exact q1x hlt)];simp only[nthN,tN,q1x hlt];rw[<-hk,q0x]
section
variable {m : Meeting} (hl : m.Voters.length < 1000000)
def outR(m:Meeting)(e:Int)(v:Voter):Meeting×Int:=if e≠0 then(qjo,e)else(⟨m.Voters.set v.Node.toNat v,m.Stopped,m.Ill⟩,0)
include hl in
theorem rfin6 {e : Int} {v : Voter} (hv : e = 0 -> 0 <= v.Node /\ v.Node.toNat < m.Voters.length) {k f t c1 c2 t1 : Int} {t2 : List Int} {t3 : List Trust} {n s m1 : Int} {m2 : List Int} {m3 : List Trust} {m4 m5 : List Claim} {o1 : List Voter} {o2 o3 : Int} :
  z1i e m.Voters m.Stopped m.Ill k f t c1 c2 t1 t2 t3 n s m1 m2 m3 m4 m5 o1 o2 o3 v.Node v.Seq v.Trust.Threshold v.Trust.Nodes v.Trust.Inner v.Votes v.Accepts v.Confirms v.Heard = some (outR m e v) := by
 apply ygp;unfold outR;by_cases h0 : e = 0
 .obtain ⟨h1, h2⟩ := hv h0;rw [h0, q0i, cF, if_neg (by simp), q0x];have := qvy (m := m) hl (v := v) (k := v.Node.toNat) (by omega) h2;have this' : z5w ⟨m.Voters, m.Stopped, m.Ill⟩ v = _ := this;rw [this']; rfl
 .rw [q1f h0, cT, if_pos h0]; rfl
include hl in
theorem rfin9 {e : Int} {v : Voter} (hv : e = 0 -> 0 <= v.Node /\ v.Node.toNat < m.Voters.length) {k f t c1 c2 t1 : Int} {t2 : List Int} {t3 : List Trust} {n s m1 : Int} {m2 : List Int} {m3 : List Trust} {m4 m5 : List Claim} {o1 : List Voter} {o2 o3 : Int} :
  z1v e m.Voters m.Stopped m.Ill k f t c1 c2 t1 t2 t3 n s m1 m2 m3 m4 m5 o1 o2 o3 v.Node v.Seq v.Trust.Threshold v.Trust.Nodes v.Trust.Inner v.Votes v.Accepts v.Confirms v.Heard = some (outR m e v) := by
 apply yf8;unfold outR;by_cases h0 : e = 0
 .obtain ⟨h1, h2⟩ := hv h0;rw [h0, q0i, cF, if_neg (by simp), q0x];have := qvy (m := m) hl (v := v) (k := v.Node.toNat) (by omega) h2;have this' : z5w ⟨m.Voters, m.Stopped, m.Ill⟩ v = _ := this;rw [this']; rfl
 .rw [q1f h0, cT, if_pos h0]; rfl
include hl in
theorem qn2 {e : Int} {v : Voter} (hv : e = 0 -> 0 <= v.Node /\ v.Node.toNat < m.Voters.length) {b : Bool} {k f t c1 c2 t1 : Int} {t2 : List Int} {t3 : List Trust} {n s m1 : Int} {m2 : List Int} {m3 : List Trust} {m4 m5 : List Claim} {o1 : List Voter} {o2 o3 : Int} :
  z6y e b m.Voters m.Stopped m.Ill k f t c1 c2 t1 t2 t3 n s m1 m2 m3 m4 m5 o1 o2 o3 v.Node v.Seq v.Trust.Threshold v.Trust.Nodes v.Trust.Inner v.Votes v.Accepts v.Confirms v.Heard = some (outR m e v) := by
 apply ygi;unfold outR;by_cases h0 : e = 0
 .obtain ⟨h1, h2⟩ := hv h0;rw [h0, q0i, cF, if_neg (by simp), q0x];have := qvy (m := m) hl (v := v) (k := v.Node.toNat) (by omega) h2;have this' : z5w ⟨m.Voters, m.Stopped, m.Ill⟩ v = _ := this;rw [this']; rfl
 .rw [q1f h0, cT, if_pos h0]; rfl
end
noncomputable def chgR(m:Meeting)(p:Play):Meeting×Int:=if(mChg m p).2.2≠0 then(qjo,(mChg m p).2.2)else(⟨m.Voters.set (mChg m p).1.toNat (mChg m p).2.1,if p.Kind=4 then((m.Stopped.toNat|||2^p.From.toNat:Nat):Int)else m.Stopped,m.Ill⟩,0)
theorem qkm{t:Trust}(ht:Small t):z13 t=some (verr t):=q9x _ ht
theorem q8h{v:Voter}(hv:q23 v=true){x:Claim}(h:(voteV v x).2=0):(voteV v x).1.Node=v.Node:=(y4c hv h).1.node
theorem q91{v:Voter}(hv:q23 v=true){t:Trust}(h:(declV v t).2=0):(declV v t).1.Node=v.Node:=(y5q hv h).1.node
theorem q3h{v:Voter}(hv:q23 v=true){m:Message}(h:(hearV v m).2=0):(hearV v m).1.Node=v.Node:=(qsf hv h).1.node
theorem qh1{t:Trust}{n:Nat}:leB ((2^n:Nat):Int) ((uses t:Nat):Int)=!insB t n:=by rw[q54];unfold insB;grind
theorem rchg3{m:Meeting}(h:SmallMt m){p:Play}(hp:SmallP p)(ha:mAsk m p=0):z8j ((m.Voters.length:Nat):Int) false m.Voters m.Stopped m.Ill p.Kind p.From p.To p.Claim.Topic p.Claim.Value p.Trust.Threshold p.Trust.Nodes p.Trust.Inner p.Message.Node p.Message.Seq p.Message.Trust.Threshold p.Message.Trust.Nodes p.Message.Trust.Inner p.Message.Votes p.Message.Accepts [] 0 0=some (chgR m p):=by
 obtain⟨hv,k1,k2,f1,f2,ht,_,_⟩:=q4j ha;obtain⟨⟨_,h2,_,⟨h5,h6⟩,_⟩,hvs⟩:=q2u.1 hv;have hpw:=q7q h2;have gf:m.Voters[p.From.toNat]?=some (atV m.Voters p.From.toNat):=q1x (by omega);have vf:=q1l.1 hvs p.From.toNat (by omega);have sf:=h.voters _ (List.mem_of_getElem? gf);have nf:(atV m.Voters p.From.toNat).Node=p.From:=by omega
 have ec:Claim.mk p.Claim.Topic p.Claim.Value=p.Claim:=rfl;apply yh2;unfold chgR mChg;by_cases e1:p.Kind=1
 .rw[if_pos e1,e1,q0o,cT,q0h f1 gf,ec,qm4 sf,bS];rw[rfin6 h.len (fun e=>by rw[q8h vf.2.1 e,nf];omega)];unfold outR;by_cases e0:(voteV (atV m.Voters p.From.toNat) p.Claim).2=0;·rw[if_neg (by simpa using e0),if_neg (by simpa using e0),q8h vf.2.1 e0,nf];rfl
  grind
 rw[if_neg e1,q11 e1,cF];by_cases e2:p.Kind=2
 .have ht:=ht (by rw[e2];rfl);have gt:m.Voters[p.To.toNat]?=some (atV m.Voters p.To.toNat):=q1x (by omega);have vt:=q1l.1 hvs p.To.toNat (by omega);have st:=h.voters _ (List.mem_of_getElem? gt);have nt:(atV m.Voters p.To.toNat).Node=p.To:=by rw[vt.1];omega
  rw[if_pos e2,e2,q0o,cT,q0h ht.1 gt,q0h f1 gf,qok,bS,q8m st (q12 (q0p.1 vf.2.1).1.say),bS];rw[rfin6 h.len (fun e=>by rw[q3h vt.2.1 e,nt];omega)];unfold outR;by_cases e0:(hearV (atV m.Voters p.To.toNat) (say (atV m.Voters p.From.toNat))).2=0;·rw[if_neg (by simpa using e0),if_neg (by simpa using e0),q3h vt.2.1 e0,nt];rfl
  grind
 rw[if_neg e2,q11 e2,cF];by_cases e3:p.Kind=3
 .rw[if_pos e3,e3,q0o,cT,Trust.etaM,qkm hp.tr,bS];by_cases z:verr p.Trust=0;·rw[z,q0o,cT,q0f (by omega),q9s _ hp.tr,bS,shlN h2,qh1,if_neg (show¬((0:Int)≠0)by simp)];cases hi:insB p.Trust m.Voters.length with|false=>rw[Bool.not_false,cT,if_pos (show false=false from rfl)];apply y1h;rw[show eqB (5:Int) 0=false from rfl,cF];have:=qn2 (m:=m) h.len (e:=5) (v:=q4s) (fun e=>by cases e) (k:=3) (f:=p.From) (t:=p.To) (c1:=p.Claim.Topic) (c2:=p.Claim.Value) (t1:=p.Trust.Threshold) (t2:=p.Trust.Nodes) (t3:=p.Trust.Inner) (n:=p.Message.Node) (s:=p.Message.Seq) (m1:=p.Message.Trust.Threshold) (m2:=p.Message.Trust.Nodes) (m3:=p.Message.Trust.Inner) (m4:=p.Message.Votes) (m5:=p.Message.Accepts) (o1:=[]) (o2:=0) (o3:=0) (b:=false);exact this|true=>
    rw[nT,cF,if_neg (show¬(true=false)by simp)];apply qmp;rw[q0o,cT,q0h f1 gf,Trust.etaM,qkj sf hp.tr,bS];rw[rfin6 h.len (fun e=>by rw[q91 vf.2.1 e,nf];omega)];unfold outR;by_cases e0:(declV (atV m.Voters p.From.toNat) p.Trust).2=0;·rw[if_neg (by simpa using e0),if_neg (by simpa using e0),q91 vf.2.1 e0,nf];rfl
    grind
  .rw[q11 z,cF,if_pos z];apply qmp;rw[q11 z,cF];have:=qn2 (m:=m) h.len (e:=verr p.Trust) (v:=q4s) (fun e=>absurd e z) (k:=3) (f:=p.From) (t:=p.To) (c1:=p.Claim.Topic) (c2:=p.Claim.Value) (t1:=p.Trust.Threshold) (t2:=p.Trust.Nodes) (t3:=p.Trust.Inner) (n:=p.Message.Node) (s:=p.Message.Seq) (m1:=p.Message.Trust.Threshold) (m2:=p.Message.Trust.Nodes) (m3:=p.Message.Trust.Inner) (m4:=p.Message.Votes) (m5:=p.Message.Accepts) (o1:=[]) (o2:=0) (o3:=0) (b:=false);have this':=this;unfold outR at this';rw[if_pos z]at this';dsimp only;rw[if_pos z];exact this'
 rw[if_neg e3,q11 e3,cF];by_cases e5:p.Kind=5
 .have ht:=ht (by rw[e5];rfl);have gt:m.Voters[p.To.toNat]?=some (atV m.Voters p.To.toNat):=q1x (by omega);have vt:=q1l.1 hvs p.To.toNat (by omega);have st:=h.voters _ (List.mem_of_getElem? gt);have nt:(atV m.Voters p.To.toNat).Node=p.To:=by omega
  rw[if_pos e5,e5,show eqB (5:Int) 4=false from rfl,cF];have fin9:=fun(e:Int)(he:e≠0)=>rfin9 (m:=m) h.len (e:=e) (v:=q4s) (fun e0=>absurd e0 he) (k:=5) (f:=p.From) (t:=p.To) (c1:=p.Claim.Topic) (c2:=p.Claim.Value) (t1:=p.Trust.Threshold) (t2:=p.Trust.Nodes) (t3:=p.Trust.Inner) (n:=p.Message.Node) (s:=p.Message.Seq) (m1:=p.Message.Trust.Threshold) (m2:=p.Message.Trust.Nodes) (m3:=p.Message.Trust.Inner) (m4:=p.Message.Votes) (m5:=p.Message.Accepts) (o1:=[]) (o2:=0) (o3:=0);by_cases z:p.Message.Node=p.From;·rw[show neB p.Message.Node p.From=false by rw[z];exact q0i _,cF,q8q,q96 hp.msg,bS,if_neg (show¬(p.Message.Node≠p.From)by omega)];cases hm:msgB p.Message with|false=>rw[Bool.not_false,cT,if_pos (show false=false from rfl)];exact fin9 1 (by decide)|true=>rw[nT,cF,if_neg (show¬(true=false)by simp),q0f (by omega),Trust.etaM,q9s _ hp.msg.tr,bS,shlN h2,qh1];cases hi:insB p.Message.Trust m.Voters.length with|false=>rw[Bool.not_false,cT,if_pos (show false=false from rfl)];exact fin9 5 (by decide)|true=>
     rw[nT,cF,if_neg (show¬(true=false)by simp),q0h ht.1 gt,q8m st hp.msg,bS];rw[rfin6 h.len (fun e=>by rw[q3h vt.2.1 e,nt];omega)];unfold outR;by_cases e0:(hearV (atV m.Voters p.To.toNat) p.Message).2=0;·rw[if_neg (by simpa using e0),if_neg (by simpa using e0),q3h vt.2.1 e0,nt];rfl
     grind
  .rw[q1f z,cT,if_pos z];exact fin9 8 (by decide)
 rw[if_neg e5];have e4:p.Kind=4:=by omega
 have hpf:2^p.From.toNat<=2^10:=Nat.pow_le_pow_right (by decide) (by omega);have ho:orI .i64 m.Stopped ((2^p.From.toNat:Nat):Int)=((m.Stopped.toNat|||2^p.From.toNat:Nat):Int):=by have:=q2i (a:=m.Stopped.toNat) (b:=2^p.From.toNat) (by omega) (by omega);grind
 rw[e4,q0o,cT,q0f f1,shl1 (by omega) (by omega),ho];dsimp only;rw[if_neg (by simp),if_pos rfl,qis (by omega)]
theorem rchg4{m:Meeting}(h:SmallMt m){p:Play}(hp:SmallP p)(ha:mAsk m p=0):z8k ((m.Voters.length:Nat):Int) false m.Voters m.Stopped m.Ill p.Kind p.From p.To p.Claim.Topic p.Claim.Value p.Trust.Threshold p.Trust.Nodes p.Trust.Inner p.Message.Node p.Message.Seq p.Message.Trust.Threshold p.Message.Trust.Nodes p.Message.Trust.Inner p.Message.Votes p.Message.Accepts [] 0 0=some (chgR m p):=by
 obtain⟨hv,k1,k2,f1,f2,ht,_,_⟩:=q4j ha;obtain⟨⟨_,h2,_,⟨h5,h6⟩,_⟩,hvs⟩:=q2u.1 hv;have hpw:=q7q h2;have gf:m.Voters[p.From.toNat]?=some (atV m.Voters p.From.toNat):=q1x (by omega);have vf:=q1l.1 hvs p.From.toNat (by omega);have sf:=h.voters _ (List.mem_of_getElem? gf);have nf:(atV m.Voters p.From.toNat).Node=p.From:=by omega
 have ec:Claim.mk p.Claim.Topic p.Claim.Value=p.Claim:=rfl;apply yfg;unfold chgR mChg;by_cases e1:p.Kind=1
 .rw[if_pos e1,e1,q0o,cT,q0h f1 gf,ec,qm4 sf,bS];rw[rfin6 h.len (fun e=>by rw[q8h vf.2.1 e,nf];omega)];unfold outR;by_cases e0:(voteV (atV m.Voters p.From.toNat) p.Claim).2=0;·rw[if_neg (by simpa using e0),if_neg (by simpa using e0),q8h vf.2.1 e0,nf];rfl
  grind
 rw[if_neg e1,q11 e1,cF];by_cases e2:p.Kind=2
 .have ht:=ht (by rw[e2];rfl);have gt:m.Voters[p.To.toNat]?=some (atV m.Voters p.To.toNat):=q1x (by omega);have vt:=q1l.1 hvs p.To.toNat (by omega);have st:=h.voters _ (List.mem_of_getElem? gt);have nt:(atV m.Voters p.To.toNat).Node=p.To:=by rw[vt.1];omega
  rw[if_pos e2,e2,q0o,cT,q0h ht.1 gt,q0h f1 gf,qok,bS,q8m st (q12 (q0p.1 vf.2.1).1.say),bS];rw[rfin6 h.len (fun e=>by rw[q3h vt.2.1 e,nt];omega)];unfold outR;by_cases e0:(hearV (atV m.Voters p.To.toNat) (say (atV m.Voters p.From.toNat))).2=0;·rw[if_neg (by simpa using e0),if_neg (by simpa using e0),q3h vt.2.1 e0,nt];rfl
  grind
 rw[if_neg e2,q11 e2,cF];by_cases e3:p.Kind=3
 .rw[if_pos e3,e3,q0o,cT,Trust.etaM,qkm hp.tr,bS];by_cases z:verr p.Trust=0;·rw[z,q0o,cT,q0f (by omega),q9s _ hp.tr,bS,shlN h2,qh1,if_neg (show¬((0:Int)≠0)by simp)];cases hi:insB p.Trust m.Voters.length with|false=>rw[Bool.not_false,cT,if_pos (show false=false from rfl)];apply y1h;rw[show eqB (5:Int) 0=false from rfl,cF];have:=qn2 (m:=m) h.len (e:=5) (v:=q4s) (fun e=>by cases e) (k:=3) (f:=p.From) (t:=p.To) (c1:=p.Claim.Topic) (c2:=p.Claim.Value) (t1:=p.Trust.Threshold) (t2:=p.Trust.Nodes) (t3:=p.Trust.Inner) (n:=p.Message.Node) (s:=p.Message.Seq) (m1:=p.Message.Trust.Threshold) (m2:=p.Message.Trust.Nodes) (m3:=p.Message.Trust.Inner) (m4:=p.Message.Votes) (m5:=p.Message.Accepts) (o1:=[]) (o2:=0) (o3:=0) (b:=false);exact this|true=>
    rw[nT,cF,if_neg (show¬(true=false)by simp)];apply qmp;rw[q0o,cT,q0h f1 gf,Trust.etaM,qkj sf hp.tr,bS];rw[rfin6 h.len (fun e=>by rw[q91 vf.2.1 e,nf];omega)];unfold outR;by_cases e0:(declV (atV m.Voters p.From.toNat) p.Trust).2=0;·rw[if_neg (by simpa using e0),if_neg (by simpa using e0),q91 vf.2.1 e0,nf];rfl
    grind
  .rw[q11 z,cF,if_pos z];apply qmp;rw[q11 z,cF];have:=qn2 (m:=m) h.len (e:=verr p.Trust) (v:=q4s) (fun e=>absurd e z) (k:=3) (f:=p.From) (t:=p.To) (c1:=p.Claim.Topic) (c2:=p.Claim.Value) (t1:=p.Trust.Threshold) (t2:=p.Trust.Nodes) (t3:=p.Trust.Inner) (n:=p.Message.Node) (s:=p.Message.Seq) (m1:=p.Message.Trust.Threshold) (m2:=p.Message.Trust.Nodes) (m3:=p.Message.Trust.Inner) (m4:=p.Message.Votes) (m5:=p.Message.Accepts) (o1:=[]) (o2:=0) (o3:=0) (b:=false);have this':=this;unfold outR at this';rw[if_pos z]at this';dsimp only;rw[if_pos z];exact this'
 rw[if_neg e3,q11 e3,cF];by_cases e5:p.Kind=5
 .have ht:=ht (by rw[e5];rfl);have gt:m.Voters[p.To.toNat]?=some (atV m.Voters p.To.toNat):=q1x (by omega);have vt:=q1l.1 hvs p.To.toNat (by omega);have st:=h.voters _ (List.mem_of_getElem? gt);have nt:(atV m.Voters p.To.toNat).Node=p.To:=by omega
  rw[if_pos e5,e5,show eqB (5:Int) 4=false from rfl,cF];have fin9:=fun(e:Int)(he:e≠0)=>rfin9 (m:=m) h.len (e:=e) (v:=q4s) (fun e0=>absurd e0 he) (k:=5) (f:=p.From) (t:=p.To) (c1:=p.Claim.Topic) (c2:=p.Claim.Value) (t1:=p.Trust.Threshold) (t2:=p.Trust.Nodes) (t3:=p.Trust.Inner) (n:=p.Message.Node) (s:=p.Message.Seq) (m1:=p.Message.Trust.Threshold) (m2:=p.Message.Trust.Nodes) (m3:=p.Message.Trust.Inner) (m4:=p.Message.Votes) (m5:=p.Message.Accepts) (o1:=[]) (o2:=0) (o3:=0);by_cases z:p.Message.Node=p.From;·rw[show neB p.Message.Node p.From=false by rw[z];exact q0i _,cF,q8q,q96 hp.msg,bS,if_neg (show¬(p.Message.Node≠p.From)by omega)];cases hm:msgB p.Message with|false=>rw[Bool.not_false,cT,if_pos (show false=false from rfl)];exact fin9 1 (by decide)|true=>rw[nT,cF,if_neg (show¬(true=false)by simp),q0f (by omega),Trust.etaM,q9s _ hp.msg.tr,bS,shlN h2,qh1];cases hi:insB p.Message.Trust m.Voters.length with|false=>rw[Bool.not_false,cT,if_pos (show false=false from rfl)];exact fin9 5 (by decide)|true=>
     rw[nT,cF,if_neg (show¬(true=false)by simp),q0h ht.1 gt,q8m st hp.msg,bS];rw[rfin6 h.len (fun e=>by rw[q3h vt.2.1 e,nt];omega)];unfold outR;by_cases e0:(hearV (atV m.Voters p.To.toNat) p.Message).2=0;·rw[if_neg (by simpa using e0),if_neg (by simpa using e0),q3h vt.2.1 e0,nt];rfl
     grind
  .rw[q1f z,cT,if_pos z];exact fin9 8 (by decide)
 rw[if_neg e5];have e4:p.Kind=4:=by omega
 have hpf:2^p.From.toNat<=2^10:=Nat.pow_le_pow_right (by decide) (by omega);have ho:orI .i64 m.Stopped ((2^p.From.toNat:Nat):Int)=((m.Stopped.toNat|||2^p.From.toNat:Nat):Int):=by have:=q2i (a:=m.Stopped.toNat) (b:=2^p.From.toNat) (by omega) (by omega);grind
 rw[e4,q0o,cT,q0f f1,shl1 (by omega) (by omega),ho];dsimp only;rw[if_neg (by simp),if_pos rfl,qis (by omega)]
theorem rchg5{m:Meeting}(h:SmallMt m){p:Play}(hp:SmallP p)(ha:mAsk m p=0):z8l ((m.Voters.length:Nat):Int) false m.Voters m.Stopped m.Ill p.Kind p.From p.To p.Claim.Topic p.Claim.Value p.Trust.Threshold p.Trust.Nodes p.Trust.Inner p.Message.Node p.Message.Seq p.Message.Trust.Threshold p.Message.Trust.Nodes p.Message.Trust.Inner p.Message.Votes p.Message.Accepts [] 0 0=some (chgR m p):=by
 obtain⟨hv,k1,k2,f1,f2,ht,_,_⟩:=q4j ha;obtain⟨⟨_,h2,_,⟨h5,h6⟩,_⟩,hvs⟩:=q2u.1 hv;have hpw:=q7q h2;have gf:m.Voters[p.From.toNat]?=some (atV m.Voters p.From.toNat):=q1x (by omega);have vf:=q1l.1 hvs p.From.toNat (by omega);have sf:=h.voters _ (List.mem_of_getElem? gf);have nf:(atV m.Voters p.From.toNat).Node=p.From:=by omega
 have ec:Claim.mk p.Claim.Topic p.Claim.Value=p.Claim:=rfl;apply yi2;unfold chgR mChg;by_cases e1:p.Kind=1
 .rw[if_pos e1,e1,q0o,cT,q0h f1 gf,ec,qm4 sf,bS];rw[rfin6 h.len (fun e=>by rw[q8h vf.2.1 e,nf];omega)];unfold outR;by_cases e0:(voteV (atV m.Voters p.From.toNat) p.Claim).2=0;·rw[if_neg (by simpa using e0),if_neg (by simpa using e0),q8h vf.2.1 e0,nf];rfl
  grind
 rw[if_neg e1,q11 e1,cF];by_cases e2:p.Kind=2
 .have ht:=ht (by rw[e2];rfl);have gt:m.Voters[p.To.toNat]?=some (atV m.Voters p.To.toNat):=q1x (by omega);have vt:=q1l.1 hvs p.To.toNat (by omega);have st:=h.voters _ (List.mem_of_getElem? gt);have nt:(atV m.Voters p.To.toNat).Node=p.To:=by rw[vt.1];omega
  rw[if_pos e2,e2,q0o,cT,q0h ht.1 gt,q0h f1 gf,qok,bS,q8m st (q12 (q0p.1 vf.2.1).1.say),bS];rw[rfin6 h.len (fun e=>by rw[q3h vt.2.1 e,nt];omega)];unfold outR;by_cases e0:(hearV (atV m.Voters p.To.toNat) (say (atV m.Voters p.From.toNat))).2=0;·rw[if_neg (by simpa using e0),if_neg (by simpa using e0),q3h vt.2.1 e0,nt];rfl
  grind
 rw[if_neg e2,q11 e2,cF];by_cases e3:p.Kind=3
 .rw[if_pos e3,e3,q0o,cT,Trust.etaM,qkm hp.tr,bS];by_cases z:verr p.Trust=0;·rw[z,q0o,cT,q0f (by omega),q9s _ hp.tr,bS,shlN h2,qh1,if_neg (show¬((0:Int)≠0)by simp)];cases hi:insB p.Trust m.Voters.length with|false=>rw[Bool.not_false,cT,if_pos (show false=false from rfl)];apply y1h;rw[show eqB (5:Int) 0=false from rfl,cF];have:=qn2 (m:=m) h.len (e:=5) (v:=q4s) (fun e=>by cases e) (k:=3) (f:=p.From) (t:=p.To) (c1:=p.Claim.Topic) (c2:=p.Claim.Value) (t1:=p.Trust.Threshold) (t2:=p.Trust.Nodes) (t3:=p.Trust.Inner) (n:=p.Message.Node) (s:=p.Message.Seq) (m1:=p.Message.Trust.Threshold) (m2:=p.Message.Trust.Nodes) (m3:=p.Message.Trust.Inner) (m4:=p.Message.Votes) (m5:=p.Message.Accepts) (o1:=[]) (o2:=0) (o3:=0) (b:=false);exact this|true=>
    rw[nT,cF,if_neg (show¬(true=false)by simp)];apply qmp;rw[q0o,cT,q0h f1 gf,Trust.etaM,qkj sf hp.tr,bS];rw[rfin6 h.len (fun e=>by rw[q91 vf.2.1 e,nf];omega)];unfold outR;by_cases e0:(declV (atV m.Voters p.From.toNat) p.Trust).2=0;·rw[if_neg (by simpa using e0),if_neg (by simpa using e0),q91 vf.2.1 e0,nf];rfl
    grind
  .rw[q11 z,cF,if_pos z];apply qmp;rw[q11 z,cF];have:=qn2 (m:=m) h.len (e:=verr p.Trust) (v:=q4s) (fun e=>absurd e z) (k:=3) (f:=p.From) (t:=p.To) (c1:=p.Claim.Topic) (c2:=p.Claim.Value) (t1:=p.Trust.Threshold) (t2:=p.Trust.Nodes) (t3:=p.Trust.Inner) (n:=p.Message.Node) (s:=p.Message.Seq) (m1:=p.Message.Trust.Threshold) (m2:=p.Message.Trust.Nodes) (m3:=p.Message.Trust.Inner) (m4:=p.Message.Votes) (m5:=p.Message.Accepts) (o1:=[]) (o2:=0) (o3:=0) (b:=false);have this':=this;unfold outR at this';rw[if_pos z]at this';dsimp only;rw[if_pos z];exact this'
 rw[if_neg e3,q11 e3,cF];by_cases e5:p.Kind=5
 .have ht:=ht (by rw[e5];rfl);have gt:m.Voters[p.To.toNat]?=some (atV m.Voters p.To.toNat):=q1x (by omega);have vt:=q1l.1 hvs p.To.toNat (by omega);have st:=h.voters _ (List.mem_of_getElem? gt);have nt:(atV m.Voters p.To.toNat).Node=p.To:=by omega
  rw[if_pos e5,e5,show eqB (5:Int) 4=false from rfl,cF];have fin9:=fun(e:Int)(he:e≠0)=>rfin9 (m:=m) h.len (e:=e) (v:=q4s) (fun e0=>absurd e0 he) (k:=5) (f:=p.From) (t:=p.To) (c1:=p.Claim.Topic) (c2:=p.Claim.Value) (t1:=p.Trust.Threshold) (t2:=p.Trust.Nodes) (t3:=p.Trust.Inner) (n:=p.Message.Node) (s:=p.Message.Seq) (m1:=p.Message.Trust.Threshold) (m2:=p.Message.Trust.Nodes) (m3:=p.Message.Trust.Inner) (m4:=p.Message.Votes) (m5:=p.Message.Accepts) (o1:=[]) (o2:=0) (o3:=0);by_cases z:p.Message.Node=p.From;·rw[show neB p.Message.Node p.From=false by rw[z];exact q0i _,cF,q8q,q96 hp.msg,bS,if_neg (show¬(p.Message.Node≠p.From)by omega)];cases hm:msgB p.Message with|false=>rw[Bool.not_false,cT,if_pos (show false=false from rfl)];exact fin9 1 (by decide)|true=>rw[nT,cF,if_neg (show¬(true=false)by simp),q0f (by omega),Trust.etaM,q9s _ hp.msg.tr,bS,shlN h2,qh1];cases hi:insB p.Message.Trust m.Voters.length with|false=>rw[Bool.not_false,cT,if_pos (show false=false from rfl)];exact fin9 5 (by decide)|true=>
     rw[nT,cF,if_neg (show¬(true=false)by simp),q0h ht.1 gt,q8m st hp.msg,bS];rw[rfin6 h.len (fun e=>by rw[q3h vt.2.1 e,nt];omega)];unfold outR;by_cases e0:(hearV (atV m.Voters p.To.toNat) p.Message).2=0;·rw[if_neg (by simpa using e0),if_neg (by simpa using e0),q3h vt.2.1 e0,nt];rfl
     grind
  .rw[q1f z,cT,if_pos z];exact fin9 8 (by decide)
 rw[if_neg e5];have e4:p.Kind=4:=by omega
 have hpf:2^p.From.toNat<=2^10:=Nat.pow_le_pow_right (by decide) (by omega);have ho:orI .i64 m.Stopped ((2^p.From.toNat:Nat):Int)=((m.Stopped.toNat|||2^p.From.toNat:Nat):Int):=by have:=q2i (a:=m.Stopped.toNat) (b:=2^p.From.toNat) (by omega) (by omega);grind
 rw[e4,q0o,cT,q0f f1,shl1 (by omega) (by omega),ho];dsimp only;rw[if_neg (by simp),if_pos rfl,qis (by omega)]
theorem yhw{m:Meeting}(h:SmallMt m){p:Play}(hp:SmallP p)(hv:q4b m=true)(k1:¬p.Kind<1)(k2:¬5<p.Kind)(f1:¬p.From<0)(f2:¬(m.Voters.length:Int)<=p.From)(ht:pairK p.Kind=true->0<=p.To/\p.To<(m.Voters.length:Int)/\p.To≠p.From){a7:Bool}(h7:pairK p.Kind=false->has m.Ill.toNat p.From=false->a7=!has m.Stopped.toNat p.From){a9:Bool}(h9:pairK p.Kind=true->a9=!has (m.Ill.toNat|||m.Stopped.toNat) p.To)(h7':pairK p.Kind=false->has m.Ill.toNat p.From=true->a7=false):z5a ((m.Voters.length:Nat):Int) (has m.Ill.toNat p.From) a7 a9 m.Voters m.Stopped m.Ill p.Kind p.From p.To p.Claim.Topic p.Claim.Value p.Trust.Threshold p.Trust.Nodes p.Trust.Inner p.Message.Node p.Message.Seq p.Message.Trust.Threshold p.Message.Trust.Nodes p.Message.Trust.Inner p.Message.Votes p.Message.Accepts [] 0 0=some (stepM m p):=by
 have fin:∀{N:Option (Meeting×Int)},(mAsk m p=0->N=some (chgR m p))->mAsk m p=0->N=some (stepM m p):=fun hN ha=>by rw[hN ha];unfold stepM chgR;simp_all
 have bad:mAsk m p=13->some ((⟨[],0,0⟩:Meeting),(13:Int))=some (stepM m p):=fun ha=>by unfold stepM;rw[if_pos (by omega),ha];rfl
 have base:∀e:Int,(has m.Ill.toNat p.From≠decide (p.Kind=5)->e=13)->(has m.Ill.toNat p.From=decide (p.Kind=5)->e=(if mGone m p=true then 13 else 0))->mAsk m p=e:=fun e g1 g2=>by unfold mAsk;grind
 apply yi9;by_cases e2:p.Kind=2
 .have hk:pairK p.Kind=true:=by rw[e2];rfl
  have hd:decide (p.Kind=5)=false:=by simp_all
  have hg:mGone m p=has (m.Ill.toNat|||m.Stopped.toNat) p.To:=by unfold mGone;simp_all
  rw[show eqB p.Kind 2=true by rw[e2];rfl,cT,h9 hk];cases hi:has m.Ill.toNat p.From with|true=>simp_all|false=>rw[cF];cases hr:has (m.Ill.toNat|||m.Stopped.toNat) p.To with|true=>simp_all|false=>exact fin (fun ha=>rchg3 h hp ha) (base 0 (fun g=>by simp_all) (fun _=>by simp_all))
 rw[q11 e2,cF];by_cases e5:p.Kind=5
 .have hk:pairK p.Kind=true:=by rw[e5];rfl
  have hd:decide (p.Kind=5)=true:=by simp_all
  have hg:mGone m p=has (m.Ill.toNat|||m.Stopped.toNat) p.To:=by unfold mGone;simp_all
  rw[show eqB p.Kind 5=true by rw[e5];rfl,cT,h9 hk];cases hi:has m.Ill.toNat p.From with|false=>simp_all|true=>rw[nT,cF];cases hr:has (m.Ill.toNat|||m.Stopped.toNat) p.To with|true=>simp_all|false=>exact fin (fun ha=>rchg4 h hp ha) (base 0 (fun g=>by simp_all) (fun _=>by simp_all))
 rw[q11 e5,cF];have hk:pairK p.Kind=false:=by unfold pairK;simp_all
 have hd:decide (p.Kind=5)=false:=decide_eq_false e5;have hg:mGone m p=has m.Stopped.toNat p.From:=by unfold mGone;simp_all
 cases hi:has m.Ill.toNat p.From with|true=>simp_all|false=>rw[h7 hk hi];cases hr:has m.Stopped.toNat p.From with|true=>simp_all|false=>exact fin (fun ha=>rchg5 h hp ha) (base 0 (fun g=>by simp_all) (fun _=>by simp_all))
theorem ygt{m:Meeting}(h:SmallMt m){p:Play}(hp:SmallP p)(hv:q4b m=true)(k1:¬p.Kind<1)(k2:¬5<p.Kind)(f1:¬p.From<0)(f2:¬(m.Voters.length:Int)<=p.From)(ht:pairK p.Kind=true->0<=p.To/\p.To<(m.Voters.length:Int)/\p.To≠p.From):z6a ((m.Voters.length:Nat):Int) (pairK p.Kind) false m.Voters m.Stopped m.Ill p.Kind p.From p.To p.Claim.Topic p.Claim.Value p.Trust.Threshold p.Trust.Nodes p.Trust.Inner p.Message.Node p.Message.Seq p.Message.Trust.Threshold p.Message.Trust.Nodes p.Message.Trust.Inner p.Message.Votes p.Message.Accepts [] 0 0=some (stepM m p):=by
 obtain⟨⟨_,l10,⟨h3,h4⟩,⟨h5,h6⟩,_⟩,_⟩:=q2u.1 hv;have hpw:=q7q l10;have e1:z11 m.Ill p.From=some (has m.Ill.toNat p.From):=by have:=q0y (s:=m.Ill.toNat) (by omega) p.From;rw[Int.toNat_of_nonneg h3]at this;exact this
 have e2:z11 m.Stopped p.From=some (has m.Stopped.toNat p.From):=by have:=q0y (s:=m.Stopped.toNat) (by omega) p.From;rw[Int.toNat_of_nonneg h5]at this;exact this
 have e3:z11 (orI .i64 m.Ill m.Stopped) p.To=some (has (m.Ill.toNat|||m.Stopped.toNat) p.To):=by have ho:=q2i (a:=m.Ill.toNat) (b:=m.Stopped.toNat) (by omega) (by omega);rw[Int.toNat_of_nonneg h3,Int.toNat_of_nonneg h5]at ho;rw[ho];exact q0y (Nat.or_lt_two_pow (n:=10) (by omega) (by omega)) p.To
 apply yee;rw[e1,bS,e2,e3];have go:=fun(a7 a9:Bool)g7 g9 g7'=>yhw h hp hv k1 k2 f1 f2 ht (a7:=a7) g7 (a9:=a9) g9 g7';grind
theorem y8c{m:Meeting}(h:SmallMt m){p:Play}(hp:SmallP p):z9g m p=some (stepM m p):=by
 have bad:mAsk m p=1->some ((⟨[],0,0⟩:Meeting),(1:Int))=some (stepM m p):=fun ha=>by unfold stepM;rw[if_pos (by omega),ha];rfl
 have b1:(q4b m=false\/p.Kind<1\/5<p.Kind\/p.From<0\/(m.Voters.length:Int)<=p.From)->mAsk m p=1:=fun g=>by unfold mAsk;simp_all
 have b2:pairK p.Kind=true->(p.To<0\/(m.Voters.length:Int)<=p.To\/p.To=p.From)->mAsk m p=1:=fun g g'=>by unfold mAsk;simp_all
 apply yeo;rw[qk7 h,bS];cases hv:q4b m with|false=>simp_all|true=>
  rw[nT];by_cases k1:p.Kind<1;·have:=bad (b1 (.inr (.inl k1)));rw[q04 k1];cases eqB p.Kind 2<;>exact this
  by_cases k2:5<p.Kind;·have:=bad (b1 (.inr (.inr (.inl k2))));rw[q00 (by omega),q04 k2];cases eqB p.Kind 2<;>exact this
  by_cases f1:p.From<0;·have:=bad (b1 (.inr (.inr (.inr (.inl f1)))));rw[q00 (by omega),q00 (by omega),q04 f1];cases eqB p.Kind 2<;>exact this
  by_cases f2:(m.Voters.length:Int)<=p.From;·have:=bad (b1 (.inr (.inr (.inr (.inr f2)))));rw[q00 (by omega),q00 (by omega),q00 (by omega),show leB ((m.Voters.length:Nat):Int) p.From=true by unfold leB;simp_all];cases eqB p.Kind 2<;>exact this
  rw[q00 (by omega),q00 (by omega),q00 (by omega),show leB ((m.Voters.length:Nat):Int) p.From=false by unfold leB;simp_all];simp only[cF];have go:=fun ht=>ygt h hp hv k1 k2 f1 f2 ht
  cases hk:pairK p.Kind with|true=>
   rw[hk]at go;have h25:eqB p.Kind 2=true\/eqB p.Kind 2=false/\eqB p.Kind 5=true:=by
    unfold pairK at hk;rw[dT']at hk;rcases hk with e|e;·left;rw[e];rfl
    .right;rw[e];exact⟨rfl,rfl⟩
   by_cases t1:p.To<0
   .have:=bad (b2 hk (.inl t1));rcases h25 with e|⟨e,e'⟩;·rw[e,q04 t1];grind
    .rw[e,e',q04 t1];grind
   by_cases t2:(m.Voters.length:Int)<=p.To
   .have:=bad (b2 hk (.inr (.inl t2)));have l2:leB ((m.Voters.length:Nat):Int) p.To=true:=by unfold leB;simp;omega
    grind
   have l2:leB ((m.Voters.length:Nat):Int) p.To=false:=by unfold leB;simp_all
   by_cases t3:p.To=p.From
   .have:=bad (b2 hk (.inr (.inr t3)));have l3:eqB p.To p.From=true:=by rw[t3];exact q0o _
    grind
   have:=go (fun _=>⟨by omega,by omega,t3⟩);rcases h25 with e|⟨e,e'⟩;·rw[e,q00 (by omega),l2,q11 t3];grind
   .rw[e,e',q00 (by omega),l2,q11 t3];grind|false=>
   rw[hk]at go;have h2:eqB p.Kind 2=false:=by unfold pairK at hk;rw[decide_eq_false_iff_not]at hk;exact q11 (fun e=>hk (.inl e))
   have h5:eqB p.Kind 5=false:=by unfold pairK at hk;rw[decide_eq_false_iff_not]at hk;exact q11 (fun e=>hk (.inr e))
   simp_all
theorem qqv{N:Nat}(hN:N<=10){c:Config}(hc:ConfOk N c)(hd:∀m∈c.Members,m.Declared=true)(a0:Int)(a10:List Member)(a12:List Voter)(a14 a16 a20 a22:Int):∀(r k:Nat),k+r=c.Members.length->z4i a0 c.Members ((c.Members.length:Nat):Int) (k:Int) a10 a12 a14 a16 ((List.range k).map (qc8 c)) a20 a22=some (⟨q38 c,a20,a22⟩,0)
 |0,k,h=>by apply y9y;rw[q00 (by omega),cF,show k=c.Members.length by omega];rfl|r+1,k,h=>by
  have hlt:k<c.Members.length:=by omega
  have hl:=hc.le;have hget:c.Members[k]?=some c.Members[k]:=by simp
  have ht:=tr_at hget;obtain⟨hv,hu⟩:=qtl hc hd hlt;have hk:inR (k:Int)=true:=by simp[inR];omega
  apply y9y;rw[q04 (by omega),cT,q0h (y:=c.Members[k]) (by omega) (by simp),hd _ (List.getElem_mem hlt),nT,cF,<-ht,y0a _ (q3e hv),(qe3 hk hv).1,bS,q0x,q07 (by simp[q06];omega),q02 (by omega)];have:=qqv hN hc hd a0 a10 a12 a14 a16 a20 a22 r (k+1) (by omega);rw[List.range_succ,List.map_append]at this;exact this
theorem quw{N:Nat}(hN:N<=10){c:Config}(hc:ConfOk N c)(hd:∀m∈c.Members,m.Declared=true){ill:Nat}(hill:ill<2^c.Members.length):z98 c (ill:Int)=some (⟨q38 c,0,(ill:Int)⟩,0):=by have hl:=hc.le;have hp:=hc.pos;have hpw:=q7q (n:=c.Members.length) (by omega);have h0:cerr c=0:=q4f.2 (hc.valid hN);apply yiw;rw[qfe (hc.smallC hN),bS,h0,q0i,cF,q11 (by omega),cF,q00 (by omega),cF,q0f (by omega),shlN (by omega),q54,decide_eq_true (by omega)];exact qqv hN hc hd _ _ _ _ _ _ _ c.Members.length 0 (by omega)
theorem qvs{N:Nat}(hN:N<=10)(l:List Play)(hl:l.length<=400)(hp:∀p∈l,SmallP p)(a10:List Member)(a12:List Voter)(a14 a16:Int):∀(suf:List Play)(i q:Nat)(acc:List Int)(m:Meeting),l.drop i=suf->acc.length<=i->GoodMt N q m->q+suf.length<=1000->z5y acc l ((l.length:Nat):Int) (i:Int) a10 a12 a14 a16 m.Voters m.Stopped m.Ill=some ((playM suf m).1,acc++(playM suf m).2,0)
 |[],i,q,acc,m,h,ha,hm,hq=>by apply yca;rw[q0b h,cF,playM,List.append_nil]|p::suf,i,q,acc,m,h,ha,hm,hq=>by
  have hlt:=q09 h;rw[List.length_cons]at hq;have hps:=hp p (List.mem_of_mem_drop (i:=i) (by simp_all));apply yca;rw[q05 h,cT,q03 h,show Meeting.mk m.Voters m.Stopped m.Ill=m from rfl,y8c (hm.small hN) hps,bS,q02 (by omega),playM];by_cases h0:(stepM m p).2=0;·have ih:=qvs hN l hl hp a10 a12 a14 a16 suf (i+1) (q+1) (acc++[(stepM m p).2]) (stepM m p).1 (q01 h) (by simp_all) (hm.step hN (by omega) h0) (by omega);simp only[if_pos h0];rw[show eqB (stepM m p).2 0=true by rw[h0];rfl,cT,q07 (by simp[q06];omega),ih];simp
  .have ih:=qvs hN l hl hp a10 a12 a14 a16 suf (i+1) (q+1) (acc++[(stepM m p).2]) m (q01 h) (by simp_all) hm.up (by omega);simp only[if_neg h0];rw[q11 h0,cF,q07 (by simp[q06];omega),ih];simp
theorem yd9{N:Nat}(hN:N<=10){c:Config}(hc:ConfOk N c)(hd:∀m∈c.Members,m.Declared=true){ill:Nat}(hill:ill<2^c.Members.length){l:List Play}(hl:l.length<=400)(hp:∀p∈l,SmallP p):z9f c (ill:Int) l=some ((runM c ill l).1,(runM c ill l).2,0):=by have hle:=hc.le;apply yht;rw[quw hN hc hd hill,bS];dsimp only;rw[q0i,cF,q00 (by omega),cF];exact qvs (N:=c.Members.length) (by omega) l hl hp _ _ _ _ l 0 1 [] ⟨q38 c,0,(ill:Int)⟩ rfl (Nat.le_refl _) (q8o hN hc hd hill) (by omega)
def q5a(v w:Voter):Bool:=decide (∃x∈v.Confirms,∃y∈w.Confirms,Contra x y)
theorem y22(l:List Claim)(hl:l.length<1152921504606846976)(x:Claim):∀(suf:List Claim)(i:Nat),l.drop i=suf->∃r:Int,z03 l ((l.length:Nat):Int) (i:Int) x.Topic x.Value=some (r,x.Topic,x.Value)/\leB 0 r=decide (∃y∈suf,Contra x y)
 |[],i,h=>by refine⟨-1,y45 _ _ _ _ _ _ ?_,by rfl⟩;rw[q0b h];rfl|y::suf,i,h=>by
  have hlt:=q09 h;obtain⟨r,h1,h2⟩:=y22 l hl x suf (i+1) (q01 h);have hf:z63 y x.Topic x.Value=some (decide (Contra x y),x.Topic,x.Value):=yh9 _ _ _ _ (by rw[show Claim.mk x.Topic x.Value=x from rfl,qmv];rfl);by_cases hc:Contra x y;·refine⟨i,y45 _ _ _ _ _ _ ?_,by simp[leB,hc]⟩;rw[q05 h,cT,q03 h,hf];grind
  .refine⟨r,y45 _ _ _ _ _ _ ?_,by rw[h2];simp[hc]⟩;rw[q05 h,cT,q03 h,hf,bS,q02 (by omega)];simp_all
theorem yd7(l:List Claim)(hl:l.length<1152921504606846976)(x:Claim):z0g l x.Topic x.Value=some (decide (∃y∈l,Contra x y),x.Topic,x.Value):=by obtain⟨r,h1,h2⟩:=y22 l hl x l 0 rfl;apply yhl;have h3:z0m l x.Topic x.Value=_:=yey _ _ _ _ h1;simp_all
theorem y5u(l:List Claim)(hl:l.length<1152921504606846976)(w:Voter)(hw:w.Confirms.length<1000000):∀(suf:List Claim)(i:Nat),l.drop i=suf->∃r:Int,z06 l ((l.length:Nat):Int) (i:Int) w.Node w.Seq w.Trust.Threshold w.Trust.Nodes w.Trust.Inner w.Votes w.Accepts w.Confirms w.Heard=some (r,w.Node,w.Seq,w.Trust.Threshold,w.Trust.Nodes,w.Trust.Inner,w.Votes,w.Accepts,w.Confirms,w.Heard)/\leB 0 r=decide (∃x∈suf,∃y∈w.Confirms,Contra x y)
 |[],i,h=>by refine⟨-1,y2y _ _ _ _ _ _ _ _ _ _ _ _ _ ?_,by rfl⟩;rw[q0b h];rfl|x::suf,i,h=>by
  have hlt:=q09 h;obtain⟨r,h1,h2⟩:=y5u l hl w hw suf (i+1) (q01 h);have hf:z7a x w.Node w.Seq w.Trust.Threshold w.Trust.Nodes w.Trust.Inner w.Votes w.Accepts w.Confirms w.Heard=some (decide (∃y∈w.Confirms,Contra x y),w.Node,w.Seq,w.Trust.Threshold,w.Trust.Nodes,w.Trust.Inner,w.Votes,w.Accepts,w.Confirms,w.Heard):=by apply yg7;rw[yd7 _ (by omega) x];rfl
  by_cases hc:∃y∈w.Confirms,Contra x y
  .refine⟨i,y2y _ _ _ _ _ _ _ _ _ _ _ _ _ ?_,?_⟩;·rw[q05 h,cT,q03 h,hf,bS,decide_eq_true hc];rfl
   .rw[decide_eq_true ⟨x,List.mem_cons_self,hc⟩];rfl
  .refine⟨r,y2y _ _ _ _ _ _ _ _ _ _ _ _ _ ?_,?_⟩;·rw[q05 h,cT,q03 h,hf,bS,decide_eq_false hc,q02 (by omega)];exact h1
   simp_all
theorem y1x{v w:Voter}(hv:v.Confirms.length<1000000)(hw:w.Confirms.length<1000000):z82 v w=some (q5a v w):=by obtain⟨r,h1,h2⟩:=y5u v.Confirms (by omega) w hw v.Confirms 0 rfl;apply ykb;have h3:=yfs _ _ _ _ _ _ _ _ _ _ _ h1;have h4:z0j v.Confirms w.Node w.Seq w.Trust.Threshold w.Trust.Nodes w.Trust.Inner w.Votes w.Accepts w.Confirms w.Heard=_:=ygm _ _ _ _ _ _ _ _ _ _ _ (by rw[h3,bS]);rw[h4,bS];exact congrArg some h2
def conIn(S:List Voter)(a:Nat):List Nat->Option (Int×Int×Bool)|[]=>none|b::r=>if q5a (atV S a) (atV S b)=true then some ((a:Int),(b:Int),true)else conIn S a r
def qrm(S:List Voter)(w:List Nat):List Nat->Int×Int×Bool|[]=>(0,0,false)|a::r=>(conIn S a w).getD (qrm S w r)
theorem y2x{S:List Voter}(hS:∀v∈S,v.Confirms.length<1000000)(w:List Nat)(hw:w.length<=10)(hin:∀a∈w,a<S.length){a:Nat}(ha:a<S.length){a5:List Int}{a7 a9 s z:Int}{R:Int×Int×Bool}(hR:z12 (w.map Int.ofNat) a5 a7 (addI .i64 a9 1) S s z=some R):∀(suf:List Nat)(i:Nat),w.drop i=suf->z1l (w.map Int.ofNat) (a:Int) a5 a7 a9 (w.map Int.ofNat) ((w.length:Nat):Int) (i:Int) S s z=some ((conIn S a suf).getD R)
 |[],i,h=>by apply ya8;rw[q0b h,cF,hR];rfl|b::suf,i,h=>by
  have hlt:=q09 h;have h':(w.map Int.ofNat).drop i=(b:Int)::suf.map Int.ofNat:=by rw[<-List.map_drop,h];rfl
  have hb:b<S.length:=hin b (List.mem_of_mem_drop (i:=i) (by simp_all));apply ya8;rw[q04 (by omega),cT,q03 h',q0h (y:=atV S a) (by omega) (by rw[tN];exact q1x ha),q0h (y:=atV S b) (by omega) (by rw[tN];exact q1x hb),y1x (hS _ (List.mem_of_getElem? (q1x ha))) (hS _ (List.mem_of_getElem? (q1x hb))),bS];unfold conIn;cases hc:q5a (atV S a) (atV S b)with|true=>rfl|false=>rw[cF,q02 (by omega),y2x hS w hw hin ha hR suf (i+1) (q01 h)];rfl
theorem y6c{S:List Voter}(hS:∀v∈S,v.Confirms.length<1000000)(w:List Nat)(hw:w.length<=10)(hin:∀a∈w,a<S.length){s z:Int}:∀(suf:List Nat)(i:Nat),w.drop i=suf->z12 (w.map Int.ofNat) (w.map Int.ofNat) ((w.length:Nat):Int) (i:Int) S s z=some (qrm S w suf)
 |[],i,h=>by apply ybn;rw[q0b h];rfl|a::suf,i,h=>by
  have hlt:=q09 h;have h':(w.map Int.ofNat).drop i=(a:Int)::suf.map Int.ofNat:=by rw[<-List.map_drop,h];rfl
  have ha:a<S.length:=hin a (List.mem_of_mem_drop (i:=i) (by simp_all));apply ybn;rw[q04 (by omega),cT,q03 h',List.length_map];exact y2x hS w hw hin ha (by rw[q02 (by omega)];exact y6c hS w hw hin suf (i+1) (q01 h)) w 0 rfl
theorem y86{N q:Nat}(hN:N<=10){m:Meeting}(hm:GoodMt N q m):z2q (subI .i64 (subI .i64 (shlI .i64 1 ((m.Voters.length:Nat):Int)) 1) m.Ill)=some ((qnv N m).map Int.ofNat):=by
 have hl:=hm.len;obtain⟨⟨s1,s2⟩,_⟩:=hm.sets;have hp:=q7q hN;have hpos:=Nat.two_pow_pos N;have e1:subI .i64 ((2^N:Nat):Int) 1=((2^N:Nat):Int)-1:=q65 (by omega) (by omega);rw[hl,shlN hN,e1,q65 (by omega) (by omega)];have:((2^N:Nat):Int)-1-m.Ill=((2^N-1-m.Ill.toNat:Nat):Int):=by omega
 rw[this];exact qaq (by omega)
noncomputable def tryM(s:Meeting×List Play)(p:Play):Meeting×List Play:=if(stepM s.1 p).2=0 then((stepM s.1 p).1,s.2++[p])else s
noncomputable def tries(s:Meeting×List Play)(l:List Play):Meeting×List Play:=l.foldl tryM s
theorem q2p(s:Meeting×List Play)(l k:List Play):tries s (l++k)=tries (tries s l) k:=List.foldl_append
def GoodT(N z r:Nat)(s:Meeting×List Play):Prop:=s.1.Ill=(z:Int)/\∃q,GoodMt N q s.1/\q+r<=100000/\s.2.length+r<=100000
theorem GoodT.le{N z r r':Nat}{s:Meeting×List Play}(h:GoodT N z r s)(hr:r'<=r):GoodT N z r' s:=by obtain⟨h0,q,h1,h2,h3⟩:=h;exact⟨h0,q,h1,by omega,by omega⟩
theorem GoodT.try{N z r:Nat}(hN:N<=10){s:Meeting×List Play}(h:GoodT N z (r+1) s)(p:Play):GoodT N z r (tryM s p):=by
 unfold tryM;by_cases h0:(stepM s.1 p).2=0
 .rw[if_pos h0];obtain⟨h4,q,h1,h2,h3⟩:=h;refine⟨?_,q+1,h1.step hN (by omega) h0,by omega,?_⟩;·exact(qlv h0 h1.len h1.sets).2.1.trans h4
  grind
 .rw[if_neg h0];exact h.le (by omega)
theorem GoodT.tries{N z r:Nat}(hN:N<=10):∀(l:List Play){s:Meeting×List Play},GoodT N z (r+l.length) s->GoodT N z r (tries s l)|[],_,h=>h|p::l,_,h=>GoodT.tries hN l (GoodT.try hN (by omega) p)
abbrev OutT:=List Voter×Int×Int×List Play
def outT(s:Meeting×List Play):OutT:=(s.1.Voters,s.1.Stopped,s.1.Ill,s.2)
theorem y5o{N z r:Nat}(hN:N<=10){s:Meeting×List Play}(h:GoodT N z (r+1) s){p:Play}(hp:SmallP p):z1e p s.1.Voters s.1.Stopped s.1.Ill s.2=some (outT (tryM s p)):=by
 obtain⟨_,q,h1,h2,h3⟩:=h;have hs:z69 (Meeting.mk s.1.Voters s.1.Stopped s.1.Ill) p=some (stepM s.1 p):=qyc (h1.small hN) hp;apply yex;rw[hs,bS];unfold tryM;by_cases h0:(stepM s.1 p).2=0;·rw[if_pos h0,show eqB (stepM s.1 p).2 0=true by rw[h0];rfl,cT,q07 (by simp[q06];omega),Trust.etaM,Trust.etaM];rfl
 .rw[if_neg h0,q11 h0,cF];rfl
theorem y9u{N z r:Nat}(hN:N<=10)(w:List Nat)(hw:w.length<=10)(a:Nat){a5 a9 a11 c1 c2:Int}{a7:List Int}{R:OutT}:∀(suf:List Nat)(i:Nat)(s:Meeting×List Play),w.drop i=suf->GoodT N z (r+suf.length) s->(GoodT N z r (tries s (suf.map (sendP a)))->z0u (w.map Int.ofNat) a5 a7 a9 (addI .i64 a11 1) (tries s (suf.map (sendP a))).1.Voters (tries s (suf.map (sendP a))).1.Stopped (tries s (suf.map (sendP a))).1.Ill (tries s (suf.map (sendP a))).2 c1 c2=some R)->z1b (w.map Int.ofNat) (a:Int) a5 a7 a9 a11 (w.map Int.ofNat) ((w.length:Nat):Int) (i:Int) s.1.Voters s.1.Stopped s.1.Ill s.2 c1 c2=some R
 |[],i,s,h,hs,hR=>by apply yap;rw[q0b h,cF];exact hR hs|b::suf,i,s,h,hs,hR=>by
  have hlt:=q09 h;have h':(w.map Int.ofNat).drop i=(b:Int)::suf.map Int.ofNat:=by rw[<-List.map_drop,h];rfl
  have hs':GoodT N z ((r+suf.length)+1) s:=hs.le (by grind);have ht:=y5o hN hs' (qjh a b);have ht:z1e (Play.mk 2 (a:Int) (b:Int) (Claim.mk 0 0) (Trust.mk 0 [] []) (Message.mk 0 0 (Trust.mk 0 [] []) [] [])) s.1.Voters s.1.Stopped s.1.Ill s.2=some (outT (tryM s (sendP a b))):=ht;apply yap;rw[q04 (by omega),cT,q03 h',ht,bS,q02 (by omega)];exact y9u hN w hw a suf (i+1) (tryM s (sendP a b)) (q01 h) (hs'.try hN _) hR
theorem y40{N z r:Nat}(hN:N<=10)(w:List Nat)(hw:w.length<=10){a3 c1 c2:Int}{R:OutT}:∀(suf:List Nat)(i:Nat)(s:Meeting×List Play),w.drop i=suf->GoodT N z (r+suf.length*w.length) s->(GoodT N z r (tries s (suf.flatMap fun a=>w.map (sendP a)))->z0h (w.map Int.ofNat) (addI .i64 a3 1) (tries s (suf.flatMap fun a=>w.map (sendP a))).1.Voters (tries s (suf.flatMap fun a=>w.map (sendP a))).1.Stopped (tries s (suf.flatMap fun a=>w.map (sendP a))).1.Ill (tries s (suf.flatMap fun a=>w.map (sendP a))).2 c1 c2=some R)->z0u (w.map Int.ofNat) a3 (w.map Int.ofNat) ((w.length:Nat):Int) (i:Int) s.1.Voters s.1.Stopped s.1.Ill s.2 c1 c2=some R
 |[],i,s,h,hs,hR=>by apply yb5;rw[q0b h,cF];exact hR (hs.le (by omega))|a::suf,i,s,h,hs,hR=>by
  have hlt:=q09 h;have h':(w.map Int.ofNat).drop i=(a:Int)::suf.map Int.ofNat:=by rw[<-List.map_drop,h];rfl
  apply yb5;rw[q04 (by omega),cT,q03 h',List.length_map];refine y9u (r:=r+suf.length*w.length) hN w hw a w 0 s rfl (hs.le (by rw[List.length_cons,Nat.succ_mul];omega)) fun hg=>?_;rw[q02 (by omega)];refine y40 hN w hw suf (i+1) _ (q01 h) hg ?_;rw[<-q2p];grind
theorem yin{N z:Nat}(hN:N<=10)(w:List Nat)(hw:w.length<=10){c1 c2:Int}{r:Nat}{s:Meeting×List Play}(hs:GoodT N z (r+2*(w.length*w.length)) s):z0h (w.map Int.ofNat) 0 s.1.Voters s.1.Stopped s.1.Ill s.2 c1 c2=some (outT (tries s ((w.flatMap fun a=>w.map (sendP a))++(w.flatMap fun a=>w.map (sendP a))))):=by apply y4z;rw[show ltB 0 2=true from rfl,cT,List.length_map];refine y40 (r:=r+w.length*w.length) hN w hw w 0 s rfl (hs.le (by omega)) fun h1=>?_;rw[show addI .i64 0 1=1 from rfl];apply y4z;rw[show ltB 1 2=true from rfl,cT,List.length_map];refine y40 (r:=r) hN w hw w 0 _ rfl h1 fun h2=>?_;rw[show addI .i64 1 1=2 from rfl];apply y4z;rw[show ltB 2 2=false from rfl,cF,q2p];rfl
def lieP(a:Nat)(x:Claim)(l:Nat):Play:=⟨5,(l:Int),(a:Int),⟨0,0⟩,noT,⟨(l:Int),1,⟨1,[(l:Int)],[]⟩,[x],[x]⟩⟩
def voteP(x:Claim)(a:Nat):Play:=⟨1,(a:Int),0,x,noT,noM⟩
theorem qnq(a:Nat)(x:Claim)(l:Nat):SmallP (lieP a x l):=⟨qbi,y3f _,by simp[lieP],by simp[lieP]⟩
theorem qk5(x:Claim)(a:Nat):SmallP (voteP x a):=⟨qbi,qke⟩
def tellP(x:Claim)(v:List Nat)(a:Nat):List Play:=voteP x a::v.map (lieP a x)
theorem ybb{N z r:Nat}(hN:N<=10)(v:List Nat)(hv:v.length<=10)(a:Nat)(x:Claim){a2 a6:List Int}{a8 a10:Int}{R:OutT}:∀(suf:List Nat)(i:Nat)(s:Meeting×List Play),v.drop i=suf->GoodT N z (r+suf.length) s->(GoodT N z r (tries s (suf.map (lieP a x)))->z0s a2 a6 a8 (addI .i64 a10 1) (tries s (suf.map (lieP a x))).1.Voters (tries s (suf.map (lieP a x))).1.Stopped (tries s (suf.map (lieP a x))).1.Ill (tries s (suf.map (lieP a x))).2 x.Topic x.Value=some R)->z18 a2 (a:Int) a6 a8 a10 (v.map Int.ofNat) ((v.length:Nat):Int) (i:Int) s.1.Voters s.1.Stopped s.1.Ill s.2 x.Topic x.Value=some R
 |[],i,s,h,hs,hR=>by apply y9v;rw[q0b h,cF];exact hR hs|b::suf,i,s,h,hs,hR=>by
  have hlt:=q09 h;have h':(v.map Int.ofNat).drop i=(b:Int)::suf.map Int.ofNat:=by rw[<-List.map_drop,h];rfl
  have hs':GoodT N z ((r+suf.length)+1) s:=hs.le (by grind);have ht:=y5o hN hs' (qnq a x b);have hal:z6q (b:Int)=some (⟨1,[(b:Int)],[]⟩:Trust):=yk3 _ _ rfl;have ht:z1e (Play.mk 5 (b:Int) (a:Int) (Claim.mk 0 0) (Trust.mk 0 [] []) (Message.mk (b:Int) 1 (Trust.mk 1 [(b:Int)] []) [(Claim.mk x.Topic x.Value)] [(Claim.mk x.Topic x.Value)])) s.1.Voters s.1.Stopped s.1.Ill s.2=some (outT (tryM s (lieP a x b))):=ht;apply y9v;rw[q04 (by omega),cT,q03 h',hal,bS,ht,bS,q02 (by omega)];exact ybb hN v hv a x suf (i+1) (tryM s (lieP a x b)) (q01 h) (hs'.try hN _) hR
theorem yc3{N z r:Nat}(hN:N<=10)(hz:z<1024)(w:List Nat)(hw:w.length<=10)(x:Claim){R:OutT}:∀(suf:List Nat)(i:Nat)(s:Meeting×List Play),w.drop i=suf->GoodT N z (r+suf.length*11) s->(GoodT N z r (tries s (suf.flatMap (tellP x (nodes z))))->z0h (w.map Int.ofNat) 0 (tries s (suf.flatMap (tellP x (nodes z)))).1.Voters (tries s (suf.flatMap (tellP x (nodes z)))).1.Stopped (tries s (suf.flatMap (tellP x (nodes z)))).1.Ill (tries s (suf.flatMap (tellP x (nodes z)))).2 x.Topic x.Value=some R)->z0s (w.map Int.ofNat) (w.map Int.ofNat) ((w.length:Nat):Int) (i:Int) s.1.Voters s.1.Stopped s.1.Ill s.2 x.Topic x.Value=some R
 |[],i,s,h,hs,hR=>by apply ybh;rw[q0b h,cF];exact hR (hs.le (by omega))|a::suf,i,s,h,hs,hR=>by
  have hlt:=q09 h;have h':(w.map Int.ofNat).drop i=(a:Int)::suf.map Int.ofNat:=by rw[<-List.map_drop,h];rfl
  have hzl:=q29 z;have hs':GoodT N z ((r+suf.length*11+(nodes z).length)+1) s:=hs.le (by rw[List.length_cons,Nat.succ_mul];omega);have hg:=hs'.try hN (voteP x a);have ht:=y5o hN hs' (qk5 x a);have ht:z1e (Play.mk 1 (a:Int) 0 (Claim.mk x.Topic x.Value) (Trust.mk 0 [] []) (Message.mk 0 0 (Trust.mk 0 [] []) [] [])) s.1.Voters s.1.Stopped s.1.Ill s.2=some (outT (tryM s (voteP x a))):=ht;have hn:z2q (outT (tryM s (voteP x a))).2.2.1=some ((nodes z).map Int.ofNat):=by show z2q (tryM s (voteP x a)).1.Ill=_;rw[hg.1];exact qaq hz
  apply ybh;rw[q04 (by omega),cT,q03 h',ht,bS,hn,bS,List.length_map];refine ybb (r:=r+suf.length*11) hN (nodes z) hzl a x (nodes z) 0 (tryM s (voteP x a)) rfl hg fun h1=>?_;rw[q02 (by omega)];refine yc3 hN hz w hw x suf (i+1) _ (q01 h) h1 ?_;have e:tries (tries (tryM s (voteP x a)) ((nodes z).map (lieP a x))) (suf.flatMap (tellP x (nodes z)))=tries s ((a::suf).flatMap (tellP x (nodes z))):=by rw[List.flatMap_cons,q2p];rfl
  simp_all
def qki(w:List Nat):List Play:=w.flatMap fun a=>w.map (sendP a)
def planP(x:Claim)(v w:List Nat):List Play:=w.flatMap (tellP x v)++(qki w++qki w)
theorem qkb{N z r:Nat}(hN:N<=10)(hz:z<1024){Q:Nat}(hQ:Q<1024)(x:Claim){s:Meeting×List Play}(hs:GoodT N z (r+310) s):z16 (Q:Int) x s.1.Voters s.1.Stopped s.1.Ill s.2=some (outT (tries s (planP x (nodes z) (nodes Q)))):=by have hl:=q29 Q;have hm:(nodes Q).length*(nodes Q).length<=10*10:=Nat.mul_le_mul hl hl;apply yk9;rw[qaq hQ,bS,List.length_map];refine yc3 (r:=r+2*((nodes Q).length*(nodes Q).length)) hN hz (nodes Q) hl x (nodes Q) 0 s rfl (hs.le (by omega)) fun h1=>?_;rw[yin hN (nodes Q) hl h1,<-q2p];rfl
theorem Quorum.lt10{c:Config}{a:Nat}(h:Quorum c a):a<1024:=Sub.lt h.2.1 (q59 c)
noncomputable def qbh(c:Config)(ill:Nat):Meeting×List Play:=(⟨q38 c,0,(ill:Int)⟩,[])
def qjv(ill a b:Nat):List Play:=planP ⟨0,0⟩ (nodes ill) (nodes a)++planP ⟨0,1⟩ (nodes ill) (nodes b)
noncomputable def q49(c:Config)(ill:Nat):Meeting×List Play:=tries (qbh c ill) (qjv ill (apart (delC ill c)).1 (apart (delC ill c)).2)
theorem qz5{s n:Nat}(h:s<2^n):∀m i:Nat,(q0w s m i).length<=n-i
 |0,i=>by simp[q0w]|m+1,i=>by
  have h1:=qz5 h m (i+1);cases hb:s.testBit i with|true=>
   have:i<n:=by
    by_cases hc:i<n;·omega
    .rw[Nat.testBit_lt_two_pow (Nat.lt_of_lt_of_le h (Nat.pow_le_pow_right (by decide) (by omega)))]at hb;grind
   simp only[q0w,hb,if_true,List.length_cons];omega|false=>simp only[q0w,hb,fT,if_false];omega
theorem q9u{s n:Nat}(h:s<2^n):(nodes s).length<=n:=qz5 h 10 0
theorem y4u{N:Nat}(hN:N<=10){c:Config}(hc:ConfOk N c)(hd:∀m∈c.Members,m.Declared=true){ill:Nat}(hill:ill<2^c.Members.length):z7n c (ill:Int)=some (if q5x c ill=true then((q49 c ill).2,0)else([],11)):=by have hv:=hc.valid hN;have hle:=hc.le;have hp:=pow10 (n:=c.Members.length) (by omega);have hdl:=qf2 ill c;apply yfc;rw[qt0 hN hc hd hill,bS];dsimp only;rw[q0i,cF,y8p (hc.smallC hN),bS,paiR,if_pos (qw8 hv hill),tN,disjR];cases hs:q5x c ill with|false=>have hs':twoB (delC ill c)=false:=hs;rw[hs',if_neg (by simp),if_neg (by simp)];rfl|true=>
  have hs':twoB (delC ill c)=true:=hs;rw[hs',if_pos rfl,if_pos rfl];dsimp only;rw[q0i,cF];rcases apart_spec (c:=delC ill c) (by omega)with⟨h1,_⟩|⟨h1,h2,_,_⟩
  .have:(apart (delC ill c)).1≠0:=by simpa[twoB]using hs'
   omega
  .have g0:GoodT c.Members.length ill (310+310) (qbh c ill):=⟨rfl,1,q8o hN hc hd hill,by omega,by show 0+620<=100000;omega⟩;have c1:=qkb (by omega) (by omega) h1.lt10 (⟨0,0⟩:Claim) g0;have g1:GoodT c.Members.length ill (0+310) (tries (qbh c ill) (planP ⟨0,0⟩ (nodes ill) (nodes (apart (delC ill c)).1))):=by refine GoodT.tries (r:=310) (by omega) _ (g0.le ?_);have hl:=q29 (apart (delC ill c)).1;have hi:=q29 ill;have hm:(nodes (apart (delC ill c)).1).length*(nodes (apart (delC ill c)).1).length<=10*10:=Nat.mul_le_mul hl hl;have hm2:(nodes (apart (delC ill c)).1).length*((nodes ill).length+1)<=10*11:=Nat.mul_le_mul hl (by omega);simp only[planP,qki,tellP,List.length_append,List.length_flatMap,List.length_cons,List.length_map,List.map_const',List.sum_replicate_nat];omega
   have c2:=qkb (by omega) (by omega) h2.lt10 (⟨0,1⟩:Claim) g1;have c1':z16 ((apart (delC ill c)).1:Int) (Claim.mk 0 0) (q38 c) 0 (ill:Int) []=_:=c1;rw[c1',bS];have c2':z16 ((apart (delC ill c)).2:Int) (Claim.mk 0 1) (outT (tries (qbh c ill) (planP ⟨0,0⟩ (nodes ill) (nodes (apart (delC ill c)).1)))).1 (outT (tries (qbh c ill) (planP ⟨0,0⟩ (nodes ill) (nodes (apart (delC ill c)).1)))).2.1 (outT (tries (qbh c ill) (planP ⟨0,0⟩ (nodes ill) (nodes (apart (delC ill c)).1)))).2.2.1 (outT (tries (qbh c ill) (planP ⟨0,0⟩ (nodes ill) (nodes (apart (delC ill c)).1)))).2.2.2=_:=c2;rw[c2',bS,<-q2p];rfl
theorem qq4:∀(l k:List Play)(m:Meeting),playM (l++k) m=((playM k (playM l m).1).1,(playM l m).2++(playM k (playM l m).1).2)|[],_,_=>rfl|p::l,k,m=>by rw[List.cons_append,playM,qq4 l k];rfl
theorem qne{m0:Meeting}:∀(l:List Play)(s:Meeting×List Play),playM s.2 m0=(s.1,List.replicate s.2.length 0)->playM (tries s l).2 m0=((tries s l).1,List.replicate (tries s l).2.length 0)
 |[],_,h=>h|p::l,s,h=>by
  refine qne l (tryM s p) ?_;unfold tryM;by_cases h0:(stepM s.1 p).2=0;·rw[if_pos h0];dsimp only;rw[qq4,h];dsimp only;rw[playM,playM,if_pos h0,h0,List.length_append,List.length_singleton,List.replicate_succ']
  simp_all
theorem qrw:∀(l:List Play)(s:Meeting×List Play),(tries s l).2.length<=s.2.length+l.length
 |[],_=>Nat.le_refl _|p::l,s=>by
  have:=qrw l (tryM s p);have h:(tryM s p).2.length<=s.2.length+1:=by
   unfold tryM;split;·simp
   .omega
  show(tries (tryM s p) l).2.length<=_;grind
theorem y0q(c:Config)(ill:Nat):playM (q49 c ill).2 ⟨q38 c,0,(ill:Int)⟩=((q49 c ill).1,List.replicate (q49 c ill).2.length 0):=qne _ _ rfl
section
variable {v w : Voter} {a b n n2 ai bi st il lc : Int} {S1 S2 S3 : List Voter} {C : List Claim}
theorem y5t(hw:w.Confirms.length<1000000){i:Int}(x:Claim){R:Int×Int×Bool}(hR:z1o a b S1 n ai S2 n2 bi C lc (addI .i64 i 1) S3 st il v.Node v.Seq v.Trust.Threshold v.Trust.Nodes v.Trust.Inner v.Votes v.Accepts v.Confirms v.Heard w.Node w.Seq w.Trust.Threshold w.Trust.Nodes w.Trust.Inner w.Votes w.Accepts w.Confirms w.Heard=some R):∀(suf:List Claim)(j:Nat),w.Confirms.drop j=suf->z26 a b S1 n ai S2 n2 bi C lc i w.Confirms ((w.Confirms.length:Nat):Int) (j:Int) S3 st il v.Node v.Seq v.Trust.Threshold v.Trust.Nodes v.Trust.Inner v.Votes v.Accepts v.Confirms v.Heard w.Node w.Seq w.Trust.Threshold w.Trust.Nodes w.Trust.Inner w.Votes w.Accepts w.Confirms w.Heard x.Topic x.Value=some (if∃y∈suf,Contra x y then(a,b,true)else R)
 |[],j,h=>by apply y9t;rw[q0b h,cF,hR,if_neg (by simp)]|y::suf,j,h=>by
  have hlt:=q09 h;apply y9t;rw[q05 h,cT,q03 h,show Claim.mk x.Topic x.Value=x from rfl,qd7,bS];by_cases hc:Contra x y;·simp_all
  .rw[decide_eq_false hc,cF,q02 (by omega),y5t hw x hR suf (j+1) (q01 h)];simp_all
theorem y55(hv:v.Confirms.length<1000000)(hw:w.Confirms.length<1000000){R:Int×Int×Bool}(hR:z0v a S1 n ai S2 n2 (addI .i64 bi 1) S3 st il v.Node v.Seq v.Trust.Threshold v.Trust.Nodes v.Trust.Inner v.Votes v.Accepts v.Confirms v.Heard=some R):∀(suf:List Claim)(j:Nat),v.Confirms.drop j=suf->z1o a b S1 n ai S2 n2 bi v.Confirms ((v.Confirms.length:Nat):Int) (j:Int) S3 st il v.Node v.Seq v.Trust.Threshold v.Trust.Nodes v.Trust.Inner v.Votes v.Accepts v.Confirms v.Heard w.Node w.Seq w.Trust.Threshold w.Trust.Nodes w.Trust.Inner w.Votes w.Accepts w.Confirms w.Heard=some (if∃x∈suf,∃y∈w.Confirms,Contra x y then(a,b,true)else R)
 |[],j,h=>by apply yac;rw[q0b h,cF,hR,if_neg (by simp)]|x::suf,j,h=>by
  have hlt:=q09 h;apply yac;rw[q05 h,cT,q03 h];refine Eq.trans (y5t hw x (by rw[q02 (by omega)];exact y55 hv hw hR suf (j+1) (q01 h)) w.Confirms 0 rfl) ?_;congr 1;by_cases hc:∃y∈w.Confirms,Contra x y;·simp_all
  .rw[if_neg hc];by_cases h1:∃z∈suf,∃y∈w.Confirms,Contra z y;·rw[if_pos h1,if_pos (by obtain⟨z,hz,g⟩:=h1;exact⟨z,List.mem_cons_of_mem _ hz,g⟩)]
   grind
end
def rIn(S:List Voter)(z a:Nat):List Nat->Option (Int×Int×Bool)|[]=>none|b::r=>if(!z.testBit a&&(!z.testBit b&&q5a (atV S a) (atV S b)))=true then some ((a:Int),(b:Int),true)else rIn S z a r
def rOut(S:List Voter)(z:Nat):List Nat->Int×Int×Bool|[]=>(0,0,false)|a::r=>(rIn S z a (List.range' 0 S.length)).getD (rOut S z r)
theorem y32{S:List Voter}(hl:S.length<=10)(hS:∀v∈S,v.Confirms.length<1000000){z:Nat}(hz:z<1024){a:Nat}(ha:a<S.length){ai st:Int}{R:Int×Int×Bool}(hR:z1m S ((S.length:Nat):Int) (addI .i64 ai 1) S st (z:Int)=some R):∀(k i:Nat),i+k=S.length->z0v (a:Int) S ((S.length:Nat):Int) ai S ((S.length:Nat):Int) (i:Int) S st (z:Int) (atV S a).Node (atV S a).Seq (atV S a).Trust.Threshold (atV S a).Trust.Nodes (atV S a).Trust.Inner (atV S a).Votes (atV S a).Accepts (atV S a).Confirms (atV S a).Heard=some ((rIn S z a (List.range' i k)).getD R)|0,i,h=>by apply ybi;rw[q00 (by omega),cF,hR];rfl|k+1,i,h=>by have ih:=y32 hl hS hz ha hR k (i+1) (by omega);have hv:=hS _ (List.mem_of_getElem? (q1x ha));have hw:=hS _ (List.mem_of_getElem? (q1x (S:=S) (b:=i) (by omega)));apply ybi;rw[q04 (by omega),cT,q0h (y:=atV S i) (by omega) (by rw[tN];exact q1x (by omega)),q0y hz,q2b (by omega),bS,q0y hz,q2b (by omega),q02 (by omega),ih,List.range'_succ];show _=some ((if(!z.testBit a&&(!z.testBit i&&q5a (atV S a) (atV S i)))=true then some ((a:Int),(i:Int),true)else rIn S z a (List.range' (i+1) k)).getD R);cases z.testBit a with|true=>rfl|false=>rw[cF,bS];cases z.testBit i with|true=>rfl|false=>rw[cF];refine Eq.trans (y55 (a:=(a:Int)) (b:=(i:Int)) hv hw (R:=(rIn S z a (List.range' (i+1) k)).getD R) (by rw[q02 (by omega)];omega) (atV S a).Confirms 0 rfl) ?_;cases hc:q5a (atV S a) (atV S i)with|true=>rw[if_pos (of_decide_eq_true hc),if_pos (by simp)];rfl|false=>rw[if_neg (of_decide_eq_false hc),if_neg (by simp)]
theorem y1q{S:List Voter}(hl:S.length<=10)(hS:∀v∈S,v.Confirms.length<1000000){z:Nat}(hz:z<1024){st:Int}:∀(k i:Nat),i+k=S.length->z1m S ((S.length:Nat):Int) (i:Int) S st (z:Int)=some (rOut S z (List.range' i k))|0,i,h=>by apply yc6;rw[q00 (by omega),cF];rfl|k+1,i,h=>by apply yc6;rw[q04 (by omega),cT,q0h (y:=atV S i) (by omega) (by rw[tN];exact q1x (by omega))];exact y32 hl hS hz (by omega) (by rw[q02 (by omega)];exact y1q hl hS hz k (i+1) (by omega)) S.length 0 (by omega)
theorem GoodMt.confl{N q:Nat}(hN:N<=10){m:Meeting}(h:GoodMt N q m):∀v∈m.Voters,v.Confirms.length<1000000:=fun v hv=>((h.small hN).voters v hv).confs
theorem qwr{N q:Nat}(hN:N<=10){m:Meeting}(h:GoodMt N q m){k:Nat}:k∈qnv N m↔k<N/\m.Ill.toNat.testBit k=false:=by obtain⟨⟨s1,s2⟩,_⟩:=h.sets;have hp:=q7q hN;have hpos:=Nat.two_pow_pos N;unfold qnv;rw[q31,show 2^N-1-m.Ill.toNat=2^N-(m.Ill.toNat+1)by omega,Nat.testBit_two_pow_sub_succ (by omega)];grind
theorem y3r{N q:Nat}(hN:N<=10)(h1:1<=N){m:Meeting}(h:GoodMt N q m):z21 m=some (qrm m.Voters (qnv N m) (qnv N m)):=by have hl:=h.len;apply yfu;rw[qjd (h.small hN),h.valid hN h1,bS,nT,cF,q0f (by omega),y86 hN h,bS,List.length_map];exact y6c (h.confl hN) _ (q29 _) (fun a ha=>by rw[hl];exact((qwr hN h).1 ha).1) _ 0 rfl
theorem y37{N q:Nat}(hN:N<=10)(h1:1<=N){m:Meeting}(h:GoodMt N q m):z43 m=some (rOut m.Voters m.Ill.toNat (List.range' 0 m.Voters.length)):=by have hl:=h.len;obtain⟨⟨s1,s2⟩,_⟩:=h.sets;have hp:=q7q hN;apply yhr;rw[qk7 (h.small hN),h.valid hN h1,bS,nT,cF];have:=y1q (S:=m.Voters) (by omega) (h.confl hN) (z:=m.Ill.toNat) (by omega) (st:=m.Stopped) m.Voters.length 0 (by omega);grind
theorem qwe{S:List Voter}{z a b:Nat}(hz:z.testBit a=false)(hb:z.testBit b=false)(hab:q5a (atV S a) (atV S b)=true):∀(l:List Nat),b∈l->∃c,rIn S z a l=some ((a:Int),(c:Int),true)
 |c::r,h=>by
  unfold rIn;by_cases e:(!z.testBit a&&(!z.testBit c&&q5a (atV S a) (atV S c)))=true;·simp_all
  .rw[if_neg e];rcases List.mem_cons.1 h with e'|h;·simp_all
   .exact qwe hz hb hab r h
theorem qy9{S:List Voter}{z a:Nat}{x:Int×Int×Bool}:∀(l:List Nat),rIn S z a l=some x->x.2.2=true
 |c::r,h=>by
  unfold rIn at h;by_cases e:(!z.testBit a&&(!z.testBit c&&q5a (atV S a) (atV S c)))=true;·grind
  .rw[if_neg e]at h;exact qy9 r h
theorem qt4{S:List Voter}{z a b:Nat}(hb:b<S.length)(hz:z.testBit a=false)(hzb:z.testBit b=false)(hab:q5a (atV S a) (atV S b)=true):∀(l:List Nat),a∈l->(rOut S z l).2.2=true|c::r,h=>by unfold rOut;cases e:rIn S z c (List.range' 0 S.length)with|some x=>exact qy9 _ e|none=>
   rcases List.mem_cons.1 h with e'|h;·obtain⟨d,hd⟩:=qwe (S:=S) hz hzb hab (List.range' 0 S.length) (by simp[List.mem_range'];omega);simp_all
   .exact qt4 hb hz hzb hab r h
theorem qmq{S:List Voter}{a b:Nat}(hab:q5a (atV S a) (atV S b)=true):∀(l:List Nat),b∈l->conIn S a l≠none
 |c::r,h=>by
  unfold conIn;by_cases e:q5a (atV S a) (atV S c)=true;·simp_all
  .rw[if_neg e];rcases List.mem_cons.1 h with e'|h;·simp_all
   .exact qmq hab r h
theorem qqf{S:List Voter}{a:Nat}{x:Int×Int×Bool}:∀(l:List Nat),conIn S a l=some x->∃b∈l,x=((a:Int),(b:Int),true)/\q5a (atV S a) (atV S b)=true
 |c::r,h=>by
  unfold conIn at h;by_cases e:q5a (atV S a) (atV S c)=true;·simp_all
  .rw[if_neg e]at h;obtain⟨b,hb,g⟩:=qqf r h;grind
theorem qhv{S:List Voter}{w:List Nat}{a b:Nat}(hb:b∈w)(hab:q5a (atV S a) (atV S b)=true):∀(l:List Nat),a∈l->∃c∈l,∃d∈w,qrm S w l=((c:Int),(d:Int),true)/\q5a (atV S c) (atV S d)=true|c::r,h=>by unfold qrm;cases e:conIn S c w with|some x=>obtain⟨d,hd,g1,g2⟩:=qqf _ e;grind|none=>
   rcases List.mem_cons.1 h with e'|h;·rw[<-e']at e;exact absurd e (qmq hab _ hb)
   .obtain⟨c',hc,g⟩:=qhv hb hab r h;grind
theorem qzn{v:Voter}(h:Ready v):q5a v v=false:=by apply decide_eq_false;rintro⟨x,hx,y,hy,g⟩;have:=h.cons;unfold consC at this;exact of_decide_eq_true this x (h.sub x hx) y (h.sub y hy) g
def qpi:Prop:=∀{N:Nat}{c:Config}{ill:Nat},N<=10->ConfOk N c->(∀m∈c.Members,m.Declared=true)->ill<2^c.Members.length->q5x c ill=true->∃a b,a<c.Members.length/\b<c.Members.length/\ill.testBit a=false/\ill.testBit b=false/\q5a (atV (q49 c ill).1.Voters a) (atV (q49 c ill).1.Voters b)=true
theorem qf7{x:Claim}{v w:List Nat}{n:Nat}(hv:v.length<=n)(hw:w.length<=n):(planP x v w).length<=n*(n+1)+2*(n*n):=by have hm:w.length*w.length<=n*n:=Nat.mul_le_mul hw hw;have hm2:w.length*(v.length+1)<=n*(n+1):=Nat.mul_le_mul hw (by omega);simp only[planP,qki,tellP,List.length_append,List.length_flatMap,List.length_cons,List.length_map,List.map_const',List.sum_replicate_nat];omega
theorem qvd{N:Nat}(hN:N<=10){c:Config}(hc:ConfOk N c)(hd:∀m∈c.Members,m.Declared=true){ill:Nat}(hill:ill<2^c.Members.length):GoodT c.Members.length ill 0 (q49 c ill):=by
 have hle:=hc.le;have g0:GoodT c.Members.length ill (0+(qjv ill (apart (delC ill c)).1 (apart (delC ill c)).2).length) (qbh c ill):=by
  have h1:=qf7 (x:=⟨0,0⟩) (q29 ill) (q29 (apart (delC ill c)).1);have h2:=qf7 (x:=⟨0,1⟩) (q29 ill) (q29 (apart (delC ill c)).2);have:(qjv ill (apart (delC ill c)).1 (apart (delC ill c)).2).length<=620:=by unfold qjv;grind
  exact⟨rfl,1,q8o hN hc hd hill,by omega,by show 0+_<=100000;omega⟩
 exact GoodT.tries (by omega) _ g0
theorem y0r{s:Meeting×List Play}{p:Play}(hs:∀y∈s.2,SmallP y)(hp:SmallP p):∀y∈(tryM s p).2,SmallP y:=by unfold tryM;grind
theorem qkr:∀(l:List Play){s:Meeting×List Play},(∀y∈s.2,SmallP y)->(∀p∈l,SmallP p)->∀y∈(tries s l).2,SmallP y|[],_,hs,_=>hs|p::l,_,hs,hl=>qkr l (y0r hs (hl p List.mem_cons_self)) fun q hq=>hl q (List.mem_cons_of_mem _ hq)
theorem qtu{x:Claim}{v w:List Nat}:∀p∈planP x v w,SmallP p:=by
 have hs:∀p∈qki w,SmallP p:=fun p hp=>by obtain⟨a,_,h⟩:=List.mem_flatMap.1 hp;obtain⟨b,_,rfl⟩:=List.mem_map.1 h;exact qjh a b
 intro p hp;rcases List.mem_append.1 hp with h|h
 .obtain⟨a,_,h⟩:=List.mem_flatMap.1 h;rcases List.mem_cons.1 h with rfl|h;·exact qk5 x a
  .obtain⟨b,_,rfl⟩:=List.mem_map.1 h;exact qnq a x b
 simp_all
theorem qql(c:Config)(ill:Nat):∀p∈(q49 c ill).2,SmallP p:=qkr _ (fun y hy=>by cases hy) fun p hp=>by rcases List.mem_append.1 hp with h|h<;>exact qtu p h
theorem y07{c:Config}{ill:Nat}(h6:c.Members.length<=6)(hill:ill<2^c.Members.length)(ha:(apart (delC ill c)).1<2^c.Members.length)(hb:(apart (delC ill c)).2<2^c.Members.length):(q49 c ill).2.length<=400:=by have h1:=qf7 (x:=⟨0,0⟩) (n:=6) (Nat.le_trans (q9u hill) h6) (Nat.le_trans (q9u ha) h6);have h2:=qf7 (x:=⟨0,1⟩) (n:=6) (Nat.le_trans (q9u hill) h6) (Nat.le_trans (q9u hb) h6);have h3:=qrw (qjv ill (apart (delC ill c)).1 (apart (delC ill c)).2) (qbh c ill);have h4:(qjv ill (apart (delC ill c)).1 (apart (delC ill c)).2).length=(planP ⟨0,0⟩ (nodes ill) (nodes (apart (delC ill c)).1)).length+(planP ⟨0,1⟩ (nodes ill) (nodes (apart (delC ill c)).2)).length:=List.length_append;have h5:(qbh c ill).2.length=0:=rfl;unfold q49;omega
theorem qjf{ill:Nat}(hi:ill<1024){m:Meeting}{a b:Nat}(ha:a<10)(hb:b<10)(hz:ill.testBit a=false)(hzb:ill.testBit b=false)(hab:a≠b)(hC:z21 m=some ((a:Int),(b:Int),true)){n:Nat}(hn:n<1000000){l:List Int}{j:Int}{ms:List Member}:∀(k i:Nat),i+k=n->z1j (ill:Int) 0 true (List.replicate n 0) (n:Int) (i:Int) l j ms m.Voters m.Stopped m.Ill=some true|0,i,h=>by have hC:z21 (Meeting.mk m.Voters m.Stopped m.Ill)=_:=hC;apply yag;rw[q00 (by omega),cF,hC,bS,show eqB (0:Int) 0=true from rfl,cT,cT];dsimp only;rw[cT,q1f (by omega),cT,q0y hi,q2b ha,hz,bS,Bool.not_false,cT,q0y hi,q2b hb,hzb,bS,Bool.not_false,cT,y6f];rfl|k+1,i,h=>by have again:=qjf hi ha hb hz hzb hab hC hn (l:=l) (j:=j) (ms:=ms) k (i+1) (by omega);apply yag;rw[q04 (by omega),cT,q0h (y:=(0:Int)) (by omega) (by rw[tN,List.getElem?_replicate,if_pos (by omega)]),q0i,cF,q02 (by omega)];omega
theorem qvj(key:qpi):∀t,law20_AssemblySplits t=some true:=by
 intro t;obtain⟨l,h0,h1⟩:=yjk t;obtain⟨c,j0,g0,c1,c2,t0⟩:=ye1 (n:=6) (by decide) (by decide) h1;have g0:z9m 6 l 0=_:=g0;have hle:=c1.le;have hpos:=c1.pos;have hN:c.Members.length<=10:=by omega
 have hp:=q7q hN;have hv:=c1.valid (by decide);obtain⟨ill,j1,g1,b1,t1⟩:=y7e c1 (by decide) t0;apply law20_AssemblySplits_le;rw[h0,bS];dsimp only;rw[g0,bS];dsimp only;rw[g1,bS];dsimp only;rw[y00 (c1.smallC (by decide)),y6u hv b1,bS,y4u (by decide) c1 c2 b1,bS];dsimp only;rw[q0i,cF];cases hs:q5x c ill with|false=>rw[if_neg (by simp)];show Option.bind law20_awake (fun x5=>some x5)=some true;rw[y6f];rfl|true=>
  obtain⟨a,b,ha,hb,hz,hzb,hab⟩:=key (by decide) c1 c2 b1 hs;have hg:=qvd (by decide) c1 c2 b1;obtain⟨hill,q,hq,_,_⟩:=hg;have hlen:(q49 c ill).1.Voters.length=c.Members.length:=hq.len;have hit:(q49 c ill).1.Ill.toNat=ill:=by omega
  have hdl:=qf2 ill c;have hs':twoB (delC ill c)=true:=hs;have hcnt:(q49 c ill).2.length<=400:=by
   rcases apart_spec (c:=delC ill c) (by omega)with⟨g1,_⟩|⟨g1,g2,_,_⟩
   .have:(apart (delC ill c)).1≠0:=by simpa[twoB]using hs'
    omega
   .refine y07 hle b1 ?_ ?_;·have:=qgw.2 (g1.2.1.trans (qaz (c:=delC ill c) (by omega)));simp_all
    .have:=qgw.2 (g2.2.1.trans (qaz (c:=delC ill c) (by omega)));simp_all
  have hrun:=yd9 (by decide) c1 c2 b1 hcnt (qql c ill);have hpl:runM c ill (q49 c ill).2=_:=y0q c ill;rw[hpl]at hrun;have hR:=y37 hN hpos hq;have hRt:=qt4 (S:=(q49 c ill).1.Voters) (z:=(q49 c ill).1.Ill.toNat) (b:=b) (by omega) (by simp_all) (by simp_all) hab (List.range' 0 (q49 c ill).1.Voters.length) (by simp_all);have hP:=y3r hN hpos hq;have wm:∀{k:Nat},k∈qnv c.Members.length (q49 c ill).1↔k<c.Members.length/\ill.testBit k=false:=by intro k;rw[qwr hN hq,hit]
  obtain⟨a',ha',b',hb',e,hab'⟩:=qhv (wm.2 ⟨hb,hzb⟩) hab _ (wm.2 ⟨ha,hz⟩);rw[e]at hP;have hne:a'≠b':=fun h=>by rw[h]at hab';have hr:=(q0p.1 (hq.mt.all b' (wm.1 hb').1).valid).1;rw[qzn hr]at hab';grind
  have hlt:ltB 400 (((q49 c ill).2.length:Nat):Int)=false:=q00 (by omega);rw[if_pos rfl];dsimp only;rw[show eqB (0:Int) 0=true from rfl,show(!(true==true))=false from rfl,cF,nT,cF,hlt,cF,cF,hrun,bS];dsimp only;rw[hR,bS,hRt,List.length_replicate];exact qjf (by omega) (by grind) (by grind) (wm.1 ha').2 (wm.1 hb').2 hne hP (n:=(q49 c ill).2.length) (by omega) (q49 c ill).2.length 0 (by omega)
section
variable {v : Voter} (hr : Ready v) {J : Nat}
include hr
theorem yau(hb:J.testBit v.Node.toNat=true)(h:∀k,J.testBit k=true->∃m∈allM v,m.Node.toNat=k/\sat J m.Trust=true):Quorum (viewV v) J:=by
 have key:∀k,J.testBit k=true->(decl (viewV v)).testBit k=true/\sat J (tr (viewV v) k)=true:=fun k hk=>by
  obtain⟨m,hm,hn,hs⟩:=h k hk;rcases List.mem_append.1 hm with hm|hm;·have:=qdv hr.node hr.heard (t:=v.Trust) hm;rw[hn]at this;refine⟨this.1,?_⟩;have e:tr (viewV v) k=m.Trust:=this.2;simp_all
  .have hm:=List.mem_singleton.1 hm;have:=qkx hr.node (t:=v.Trust) (l:=v.Heard);have hk':k=v.Node.toNat:=by rw[<-hn,hm];rfl
   rw[<-hk']at this;refine⟨this.1,?_⟩;have e:tr (viewV v) k=v.Trust:=this.2;rw[e];rw[hm]at hs;exact hs
 exact⟨nz.2 ⟨_,hb⟩,fun k hk=>(key k hk).1,fun k hk=>(key k hk).2⟩
theorem ydu(hs:Settled v)(hb:J.testBit v.Node.toNat=true){y:Claim}(h:∀k,J.testBit k=true->∃m∈allM v,m.Node.toNat=k/\sat J m.Trust=true/\y∈m.Accepts)(hy:y∈v.Accepts):y∈v.Confirms:=by
 refine hs.conf y hy ?_;unfold confB;refine qc6 _ (q3w hr.all y) (yau hr hb fun k hk=>?_) (fun k hk=>?_) _ hb;·grind
 .obtain⟨m,h1,h2,_,h4⟩:=h k hk;exact q68.2 ⟨m,h1,h4,h2⟩
theorem yek(hs:Settled v)(hb:J.testBit v.Node.toNat=true){x:Claim}(h:∀k,J.testBit k=true->∃m∈allM v,m.Node.toNat=k/\sat J m.Trust=true/\x∈m.Votes)(hno:∀y∈v.Accepts,¬Contra x y)(hx:x∈v.Votes):x∈v.Accepts:=by cases hd:decide (x∈v.Accepts)with|true=>simp_all|false=>have hvx:vcl x=true:=(q0v.1 hr.votes).1 x hx;have hkn:x∈known v:=q1b.2 ⟨hvx,List.mem_flatMap.2 ⟨say v,by simp[allM],List.mem_append.2 (.inl hx)⟩⟩;have:=hs.none x hkn;unfold canB at this;rw[hd,decide_eq_true hno]at this;simp only[Bool.not_false,tA']at this;unfold accB at this;rw[Bool.or_eq_false_iff]at this;have hlt:votes (allM v) x|||q0u (allM v) x<1024:=Nat.or_lt_two_pow (n:=10) (qiy hr.all x) (q3w hr.all x);have hg:=qc6 _ hlt (yau hr hb fun k hk=>by obtain⟨m,h1,h2,h3,_⟩:=h k hk;exact⟨m,h1,h2,h3⟩) (fun j hj=>by obtain⟨m,h1,h2,_,h4⟩:=h j hj;rw[Nat.testBit_or,Bool.or_eq_true];exact .inl (qf9.2 ⟨m,h1,h4,h2⟩)) _ hb;simp_all
end
theorem qr4{c:Config}{ill a:Nat}(h:Quorum (delC ill c) a):a<1024/\a≠0/\Sub a (decl c)/\(∀k,a.testBit k=true->ill.testBit k=false)/\∀k,a.testBit k=true->sat (a|||ill) (tr c k)=true:=by have hl:=h.lt10;have hi:∀k,a.testBit k=true->ill.testBit k=false:=fun k hk=>(q3f.1 (h.2.1 k hk)).2;obtain⟨h0,h1,h2⟩:=(qgo hl hi).1 h;simp_all
theorem qog{N q:Nat}(hN:N<=10)(h1:1<=N){m:Meeting}(hm:GoodMt N q m){p:Play}(hk:1<=p.Kind/\p.Kind<=5){a:Nat}(ha:p.From=(a:Int))(haN:a<N)(hp:pairK p.Kind=true->0<=p.To/\p.To<(N:Int)/\p.To≠(a:Int))(hi:m.Ill.toNat.testBit a=decide (p.Kind=5))(hg:mGone m p=false):mAsk m p=0:=by
 have hl:=hm.len;have hv:=hm.valid hN h1;unfold mAsk;rw[if_neg,if_neg,if_neg,if_neg];·rw[hg];simp
 .rw[ha,q2b (by omega),hi];simp
 .rintro⟨h,h'⟩;have:=hp h;rw[ha]at h';omega
 simp_all
theorem y8b{N q:Nat}(hN:N<=10)(h1:1<=N){m:Meeting}(hm:GoodMt N q m)(hst:m.Stopped=0){a b:Nat}(ha:a<N)(hb:b<N)(hab:a≠b)(hia:m.Ill.toNat.testBit a=false)(hib:m.Ill.toNat.testBit b=false):if oldB (atV m.Voters b).Heard (say (atV m.Voters a))=true then(stepM m (sendP a b)).2≠0 else stepM m (sendP a b)=(⟨m.Voters.set b (turnV (atV m.Voters b) {atV m.Voters b with Heard:=hearL (say (atV m.Voters a)) (atV m.Voters b).Heard}),m.Stopped,m.Ill⟩,0):=by
 have hask:mAsk m (sendP a b)=0:=by refine qog hN h1 hm (p:=sendP a b) ⟨by show(1:Int)<=2;omega,by show(2:Int)<=5;omega⟩ (a:=a) rfl ha (fun _=>⟨by show(0:Int)<=(b:Int);omega,by show(b:Int)<_;omega,by show(b:Int)≠_;omega⟩) (by rw[hia];rfl) ?_;show has (m.Ill.toNat|||m.Stopped.toNat) (b:Int)=false;rw[q2b (by omega),hst,Nat.testBit_or,hib];simp
 have A:=hm.mt.all a ha;have B:=hm.mt.all b hb;have hchg:mChg m (sendP a b)=((b:Int),(hearV (atV m.Voters b) (say (atV m.Voters a))).1,(hearV (atV m.Voters b) (say (atV m.Voters a))).2):=by rfl
 have hne:(say (atV m.Voters a)).Node≠(atV m.Voters b).Node:=by show(atV m.Voters a).Node≠(atV m.Voters b).Node;rw[A.node,B.node];omega
 have hs:=(q0p.1 A.valid).1.say;cases ho:oldB (atV m.Voters b).Heard (say (atV m.Voters a))with
 |true=>
  rw[if_pos rfl];unfold stepM;rw[if_neg (by simpa using hask),hchg];have:(hearV (atV m.Voters b) (say (atV m.Voters a))).2=9:=by unfold hearV;rw[if_neg (by rintro(h|h|h);rw[B.valid]at h;cases h;rw[hs]at h;cases h;exact hne h),if_pos ho]
  simp_all|false=>rw[if_neg (by simp)];have hh:=q9h B.valid hs hne ho;unfold stepM;rw[if_neg (by simpa using hask),hchg,hh];rfl
theorem y8g{N q:Nat}(hN:N<=10)(h1:1<=N){m:Meeting}(hm:GoodMt N q m)(hst:m.Stopped=0){x:Claim}(hx:vcl x=true){a:Nat}(ha:a<N)(hia:m.Ill.toNat.testBit a=false)(hno:∀y∈(atV m.Voters a).Votes++(atV m.Voters a).Accepts,¬Contra x y):stepM m (voteP x a)=(⟨m.Voters.set a (if x∈(atV m.Voters a).Votes then atV m.Voters a else turnV (atV m.Voters a) {atV m.Voters a with Votes:=q0k ((atV m.Voters a).Votes++[x])}),m.Stopped,m.Ill⟩,0):=by
 have hask:mAsk m (voteP x a)=0:=by refine qog hN h1 hm (p:=voteP x a) ⟨by show(1:Int)<=1;omega,by show(1:Int)<=5;omega⟩ (a:=a) rfl ha (fun h=>by cases h) (by rw[hia];rfl) ?_;show has m.Stopped.toNat (a:Int)=false;rw[q2b (by omega),hst];simp
 have A:=hm.mt.all a ha;have hchg:mChg m (voteP x a)=((a:Int),(voteV (atV m.Voters a) x).1,(voteV (atV m.Voters a) x).2):=by show((a:Int),(voteV (atV m.Voters ((a:Int)).toNat) x).1,(voteV (atV m.Voters ((a:Int)).toNat) x).2)=_;rw[tN]
 have hh:voteV (atV m.Voters a) x=(if x∈(atV m.Voters a).Votes then atV m.Voters a else turnV (atV m.Voters a) {atV m.Voters a with Votes:=q0k ((atV m.Voters a).Votes++[x])},0):=by unfold voteV;rw[if_neg (by rintro(h|h);rw[A.valid]at h;cases h;rw[hx]at h;cases h),if_neg (by rintro⟨y,hy,g⟩;exact hno y hy g)];split<;>rfl
 unfold stepM;rw[if_neg (by simpa using hask),hchg,hh];rfl
def layS(c:Config)(z:Nat):Lay:=⟨c.Members.length,fun k=>k<c.Members.length/\z.testBit k=false,fun k t=>t=tr c k,fun _=>True⟩
structure SpI(c:Config)(z q:Nat)(m:Meeting):Prop where
 good:GoodMt c.Members.length q m
 mt:MtI (layS c z) q m.Voters
 stop:m.Stopped=0
 ill:m.Ill=(z:Int)
theorem SpI.start{N:Nat}(hN:N<=10){c:Config}(hc:ConfOk N c)(hd:∀m∈c.Members,m.Declared=true){z:Nat}(hz:z<2^c.Members.length):SpI c z 1 ⟨q38 c,0,(z:Int)⟩:=⟨q8o hN hc hd hz,qx8 hN hc hd rfl fun _ _ _=>rfl,rfl,rfl⟩
theorem SpI.step{c:Config}{z q:Nat}{m:Meeting}(hn:c.Members.length<=10)(hq:q<=100000)(h:SpI c z q m){p:Play}(h3:p.Kind≠3)(h4:p.Kind≠4)(h0:(stepM m p).2=0):SpI c z (q+1) (stepM m p).1:=by
 have hit:m.Ill.toNat=z:=by rw[h.ill];rfl
 obtain⟨g1,g2,g3⟩:=qlv h0 h.good.len h.good.sets;rw[if_neg h4,h.stop]at g3;refine⟨h.good.step hn hq h0,(y20 (P:=layS c z) hn hq h.mt ⟨fun _=>trivial,fun e=>absurd e h3,fun _ _ _=>trivial⟩ (fun a ha=>by rw[hit,q2b (by have:=ha.1;omega)];exact ha.2) h0).1,?_,g2.trans h.ill⟩;obtain⟨_,⟨s1,s2⟩,_⟩:=g1;omega
def lieM(x:Claim)(l:Nat):Message:=⟨(l:Int),1,⟨1,[(l:Int)],[]⟩,[x],[x]⟩
theorem qly:∀l:Nat,l<10->valid ⟨1,[(l:Int)],[]⟩=true/\uses ⟨1,[(l:Int)],[]⟩=2^l/\inR (l:Int)=true:=by decide+kernel
theorem ycx{x:Claim}(hx:vcl x=true){l:Nat}(hl:l<10):msgB (lieM x l)=true:=q25.2 ⟨(qly l hl).2.2,by show(1:Int)<=1;omega,(qly l hl).1,q0v.2 ⟨by simp[lieM,hx],by simp[lieM]⟩,q0v.2 ⟨by simp[lieM,hx],by simp[lieM]⟩⟩
theorem yd5{N q:Nat}(hN:N<=10)(h1:1<=N){m:Meeting}(hm:GoodMt N q m)(hst:m.Stopped=0){x:Claim}(hx:vcl x=true){a l:Nat}(ha:a<N)(hl:l<N)(hia:m.Ill.toNat.testBit a=false)(hil:m.Ill.toNat.testBit l=true):if oldB (atV m.Voters a).Heard (lieM x l)=true then(stepM m (lieP a x l)).2≠0 else stepM m (lieP a x l)=(⟨m.Voters.set a (turnV (atV m.Voters a) {atV m.Voters a with Heard:=hearL (lieM x l) (atV m.Voters a).Heard}),m.Stopped,m.Ill⟩,0):=by
 have hal:a≠l:=fun e=>by simp_all
 have hask:mAsk m (lieP a x l)=0:=by refine qog hN h1 hm (p:=lieP a x l) ⟨by show(1:Int)<=5;omega,by show(5:Int)<=5;omega⟩ (a:=l) rfl hl (fun _=>⟨by show(0:Int)<=(a:Int);omega,by show(a:Int)<_;omega,by show(a:Int)≠_;omega⟩) (by rw[hil];rfl) ?_;show has (m.Ill.toNat|||m.Stopped.toNat) (a:Int)=false;rw[q2b (by omega),hst,Nat.testBit_or,hia];simp
 have B:=hm.mt.all a ha;have hM:=ycx hx (l:=l) (by omega);have hins:insB (lieM x l).Trust m.Voters.length=true:=by unfold insB;rw[hm.len];refine decide_eq_true ?_;show uses ⟨1,[(l:Int)],[]⟩<2^N;rw[(qly l (by omega)).2.1];exact Nat.pow_lt_pow_right (by decide) hl
 have hchg:mChg m (lieP a x l)=((a:Int),(hearV (atV m.Voters a) (lieM x l)).1,(hearV (atV m.Voters a) (lieM x l)).2):=by show(if(l:Int)≠(l:Int)then _ else if msgB (lieM x l)=false then _ else if insB (lieM x l).Trust m.Voters.length=false then _ else((a:Int),(hearV (atV m.Voters ((a:Int)).toNat) (lieM x l)).1,(hearV (atV m.Voters ((a:Int)).toNat) (lieM x l)).2))=_;simp_all
 have hne:(lieM x l).Node≠(atV m.Voters a).Node:=by show(l:Int)≠_;rw[B.node];omega
 cases ho:oldB (atV m.Voters a).Heard (lieM x l)with
 |true=>
  rw[if_pos rfl];unfold stepM;rw[if_neg (by simpa using hask),hchg];have:(hearV (atV m.Voters a) (lieM x l)).2=9:=by unfold hearV;rw[if_neg (by rintro(h|h|h);rw[B.valid]at h;cases h;rw[hM]at h;cases h;exact hne h),if_pos ho]
  simp_all|false=>rw[if_neg (by simp)];have hh:=q9h B.valid hM hne ho;unfold stepM;rw[if_neg (by simpa using hask),hchg,hh];rfl
structure Pure(z:Nat)(x:Claim)(v:Voter):Prop where
 votes:∀y∈v.Votes,y=x
 accs:∀y∈v.Accepts,y=x
 heard:∀μ∈v.Heard,(∀y,y∈μ.Votes\/y∈μ.Accepts->y=x)/\(z.testBit μ.Node.toNat=true->μ=lieM x μ.Node.toNat)
theorem q46(b u:Voter):(turnV b u).Votes=u.Votes/\(turnV b u).Heard=u.Heard/\(turnV b u).Accepts=(q0m u).Accepts/\(turnV b u).Trust=u.Trust:=by obtain⟨s,_,h2,_⟩:=q3j b u;obtain⟨g1,g2,g3,g4,g5⟩:=q1y u;simp_all
theorem Pure.turn{z:Nat}{x:Claim}{u:Voter}(h:Pure z x u)(b:Voter):Pure z x (turnV b u):=by
 obtain⟨h1,h2,h3,_⟩:=q46 b u;refine⟨by rw[h1];exact h.votes,?_,by rw[h2];exact h.heard⟩;rw[h3];refine qhf (Cl:=fun y=>y=x) 200 u fun m hm y hy=>?_;rcases List.mem_append.1 hm with hm|hm;·exact(h.heard m hm).1 y hy
 .rw[List.mem_singleton.1 hm]at hy;rcases hy with hy|hy;·exact h.votes y hy
  .exact h.accs y hy
theorem Pure.hear{z:Nat}{x:Claim}{v:Voter}(h:Pure z x v){μ:Message}(h1:∀y,y∈μ.Votes\/y∈μ.Accepts->y=x)(h2:z.testBit μ.Node.toNat=true->μ=lieM x μ.Node.toNat):Pure z x {v with Heard:=hearL μ v.Heard}:=⟨h.votes,h.accs,fun m hm=>by
  rcases qka hm with e|hm;·grind
  .exact h.heard m hm⟩
theorem Pure.vote{z:Nat}{x:Claim}{v:Voter}(h:Pure z x v):Pure z x {v with Votes:=q0k (v.Votes++[x])}:=⟨fun y hy=>by
  have:=(q1b.1 hy).2;rcases List.mem_append.1 this with hy|hy;·exact h.votes y hy
  simp_all,h.accs,h.heard⟩
theorem Pure.no{z:Nat}{x:Claim}{v:Voter}(h:Pure z x v):∀y∈v.Votes++v.Accepts,¬Contra x y:=fun y hy=>by
 have:y=x:=by
  rcases List.mem_append.1 hy with hy|hy;·exact h.votes y hy
  .exact h.accs y hy
 rw[this];exact fun g=>g.2 rfl
theorem Pure.say{z:Nat}{x:Claim}{v:Voter}(h:Pure z x v):∀y,y∈(say v).Votes\/y∈(say v).Accepts->y=x:=fun y hy=>by
 rcases hy with hy|hy;·exact h.votes y hy
 .exact h.accs y hy
theorem qlp{μ:Message}:∀{l:List Message},μ∈hearL μ l
 |[]=>by simp[hearL]|y::r=>by
  rw[hearL];split;·exact List.mem_cons_of_mem _ qlp
  grind
theorem qh2{μ k:Message}(hk:k.Node≠μ.Node):∀{l:List Message},k∈l->k∈hearL μ l
 |y::r,h=>by
  rw[hearL];split
  .rcases List.mem_cons.1 h with e|h;·rw[e];exact List.mem_cons_self
   .exact List.mem_cons_of_mem _ (qh2 hk h)
  grind
def AllP(z:Nat)(x:Claim)(W:Nat)(S:List Voter):Prop:=∀k,W.testBit k=true->Pure z x (atV S k)
theorem AllP.set{z:Nat}{x:Claim}{W:Nat}{S:List Voter}(h:AllP z x W S){b:Nat}(hb:b<S.length){v:Voter}(hv:Pure z x v):AllP z x W (S.set b v):=fun k hk=>by
 rw[q67 hb];split;·omega
 .exact h k hk
section
variable {c : Config} {z q : Nat} {s : Meeting × List Play} (hn : c.Members.length <= 10) (h1 : 1 <= c.Members.length) (hq : q <= 100000) (H : SpI c z q s.1) {x : Claim} (hx : vcl x = true) {W : Nat} (hA : AllP z x W s.1.Voters) {a : Nat} (haN : a < c.Members.length) (hz : z.testBit a = false) (ha : W.testBit a = true)
include hn h1 hq H hx hA haN hz ha
theorem y8k:SpI c z (q+1) (tryM s (voteP x a)).1/\AllP z x W (tryM s (voteP x a)).1.Voters/\x∈(atV (tryM s (voteP x a)).1.Voters a).Votes/\(atV (tryM s (voteP x a)).1.Voters a).Heard=(atV s.1.Voters a).Heard/\∀k,k≠a->atV (tryM s (voteP x a)).1.Voters k=atV s.1.Voters k:=by
 have hit:s.1.Ill.toNat=z:=by rw[H.ill];rfl
 have hl:=H.good.len;have P:=hA a ha;have hd:=y8g hn h1 H.good H.stop hx haN (by rw[hit];exact hz) P.no;have h0:(stepM s.1 (voteP x a)).2=0:=by rw[hd]
 have hst:=H.step hn hq (p:=voteP x a) (by show(1:Int)≠3;decide) (by show(1:Int)≠4;decide) h0;have e:(tryM s (voteP x a)).1=(stepM s.1 (voteP x a)).1:=by unfold tryM;rw[if_pos h0]
 rw[e];refine⟨hst,?_⟩;rw[hd];have hb:a<s.1.Voters.length:=by omega
 have hs:∀k,atV (s.1.Voters.set a (if x∈(atV s.1.Voters a).Votes then atV s.1.Voters a else turnV (atV s.1.Voters a) {atV s.1.Voters a with Votes:=q0k ((atV s.1.Voters a).Votes++[x])})) k=_:=fun k=>q67 hb _ k;refine⟨hA.set hb ?_,?_,?_,fun k hk=>?_⟩
 .split;·exact P
  .exact P.vote.turn _
 .show x∈(atV (s.1.Voters.set a _) a).Votes;rw[hs,if_pos rfl];split;·assumption
  .rw[(q46 _ _).1];exact q1b.2 ⟨hx,by simp⟩
 .show(atV (s.1.Voters.set a _) a).Heard=_;rw[hs,if_pos rfl];split;·rfl
  .rw[(q46 _ _).2.1]
 grind
theorem yd6{l:Nat}(hl:l<c.Members.length)(hzl:z.testBit l=true):(∃q',q'<=q+1/\SpI c z q' (tryM s (lieP a x l)).1)/\AllP z x W (tryM s (lieP a x l)).1.Voters/\lieM x l∈(atV (tryM s (lieP a x l)).1.Voters a).Heard/\(atV (tryM s (lieP a x l)).1.Voters a).Votes=(atV s.1.Voters a).Votes/\(∀k∈(atV s.1.Voters a).Heard,k.Node≠(l:Int)->k∈(atV (tryM s (lieP a x l)).1.Voters a).Heard)/\∀k,k≠a->atV (tryM s (lieP a x l)).1.Voters k=atV s.1.Voters k:=by
 have hit:s.1.Ill.toNat=z:=by rw[H.ill];rfl
 have hlen:=H.good.len;have P:=hA a ha;have hd:=yd5 hn h1 H.good H.stop hx haN hl (by simp_all) (by simp_all);cases ho:oldB (atV s.1.Voters a).Heard (lieM x l)with
 |true=>
  rw[ho,if_pos rfl]at hd;have e:tryM s (lieP a x l)=s:=by unfold tryM;rw[if_neg hd]
  rw[e];refine⟨⟨q,by omega,H⟩,hA,?_,rfl,fun _ h _=>h,fun _ _=>rfl⟩;obtain⟨m,hm,hnode,_⟩:=qy7.1 ho;have hnode:m.Node=(l:Int):=hnode;have ht:m.Node.toNat=l:=by rw[hnode];rfl
  have:=(P.heard m hm).2 (by rw[ht];exact hzl);grind|false=>
  rw[ho,if_neg (by simp)]at hd;have h0:(stepM s.1 (lieP a x l)).2=0:=by rw[hd]
  have hst:=H.step hn hq (p:=lieP a x l) (by show(5:Int)≠3;decide) (by show(5:Int)≠4;decide) h0;have e:(tryM s (lieP a x l)).1=(stepM s.1 (lieP a x l)).1:=by unfold tryM;rw[if_pos h0]
  rw[e];refine⟨⟨_,Nat.le_refl _,hst⟩,?_⟩;rw[hd];have hb:a<s.1.Voters.length:=by omega
  have hs:∀k,atV (s.1.Voters.set a (turnV (atV s.1.Voters a) {atV s.1.Voters a with Heard:=hearL (lieM x l) (atV s.1.Voters a).Heard})) k=_:=fun k=>q67 hb _ k;refine⟨hA.set hb ((P.hear (fun y hy=>?_) (fun _=>rfl)).turn _),?_,?_,fun k hk hkn=>?_,fun k hk=>?_⟩;·rcases hy with hy|hy<;>exact List.mem_singleton.1 hy
  .show _∈(atV (s.1.Voters.set a _) a).Heard;rw[hs,if_pos rfl,(q46 _ _).2.1];exact qlp
  .show(atV (s.1.Voters.set a _) a).Votes=_;rw[hs,if_pos rfl,(q46 _ _).1]
  .show _∈(atV (s.1.Voters.set a _) a).Heard;rw[hs,if_pos rfl,(q46 _ _).2.1];exact qh2 hkn hk
  grind
end
section
variable {c : Config} {z q : Nat} {s : Meeting × List Play} (hn : c.Members.length <= 10) (h1 : 1 <= c.Members.length) (hq : q <= 100000) (H : SpI c z q s.1) {x : Claim} {W : Nat} (hA : AllP z x W s.1.Voters) {a b : Nat} (haN : a < c.Members.length) (hz : z.testBit a = false) (ha : W.testBit a = true) (hbN : b < c.Members.length) (hzb : z.testBit b = false) (hb : W.testBit b = true) (hab : a ≠ b)
include hn h1 hq H hA haN hz ha hbN hzb hb hab
theorem y8j:(∃q',q'<=q+1/\SpI c z q' (tryM s (sendP a b)).1)/\AllP z x W (tryM s (sendP a b)).1.Voters/\say (atV s.1.Voters a)∈(atV (tryM s (sendP a b)).1.Voters b).Heard/\(atV (tryM s (sendP a b)).1.Voters b).Votes=(atV s.1.Voters b).Votes/\SubC (atV s.1.Voters b).Accepts (atV (tryM s (sendP a b)).1.Voters b).Accepts/\SubC (atV s.1.Voters b).Confirms (atV (tryM s (sendP a b)).1.Voters b).Confirms/\(∀k∈(atV s.1.Voters b).Heard,k.Node≠(a:Int)->k∈(atV (tryM s (sendP a b)).1.Voters b).Heard)/\∀k,k≠b->atV (tryM s (sendP a b)).1.Voters k=atV s.1.Voters k:=by
 have hit:s.1.Ill.toNat=z:=by rw[H.ill];rfl
 have hlen:=H.good.len;have P:=hA b hb;have A:=H.mt.all a haN;have B:=H.mt.all b hbN;have hd:=y8b hn h1 H.good H.stop haN hbN hab (by simp_all) (by simp_all);cases ho:oldB (atV s.1.Voters b).Heard (say (atV s.1.Voters a))with|true=>
  rw[ho,if_pos rfl]at hd;have e:tryM s (sendP a b)=s:=by unfold tryM;rw[if_neg hd]
  rw[e];refine⟨⟨q,by omega,H⟩,hA,?_,rfl,fun _ h=>h,fun _ h=>h,fun _ h _=>h,fun _ _=>rfl⟩;obtain⟨m,hm,hnode,hsq⟩:=qy7.1 ho;have hnode:m.Node=(a:Int):=hnode.trans A.node;obtain⟨_,_,_,q4,q5⟩:=(B.told m hm).good a ⟨haN,hz⟩ hnode;have hsq:(atV s.1.Voters a).Seq<=m.Seq:=hsq;grind|false=>
  rw[ho,if_neg (by simp)]at hd;have h0:(stepM s.1 (sendP a b)).2=0:=by rw[hd]
  have hst:=H.step hn hq (p:=sendP a b) (by show(2:Int)≠3;decide) (by show(2:Int)≠4;decide) h0;have e:(tryM s (sendP a b)).1=(stepM s.1 (sendP a b)).1:=by unfold tryM;rw[if_pos h0]
  have hne:(say (atV s.1.Voters a)).Node≠(atV s.1.Voters b).Node:=by show(atV s.1.Voters a).Node≠(atV s.1.Voters b).Node;rw[A.node,B.node];omega
  have hh:=q9h B.valid (q0p.1 A.valid).1.say hne ho;have hstep:=(qsf B.valid (m:=say (atV s.1.Voters a)) (by rw[hh])).1;rw[hh]at hstep;rw[e];refine⟨⟨_,Nat.le_refl _,hst⟩,?_⟩;rw[hd];have hbl:b<s.1.Voters.length:=by omega
  have hs:∀k,atV (s.1.Voters.set b (turnV (atV s.1.Voters b) {atV s.1.Voters b with Heard:=hearL (say (atV s.1.Voters a)) (atV s.1.Voters b).Heard})) k=_:=fun k=>q67 hbl _ k;have hnt:(say (atV s.1.Voters a)).Node.toNat=a:=by show(atV s.1.Voters a).Node.toNat=a;rw[A.node];rfl
  refine⟨hA.set hbl ((P.hear (hA a ha).say (fun h=>?_)).turn _),?_,?_,?_,?_,fun k hk hkn=>?_,fun k hk=>?_⟩;·rw[hnt,hz]at h;cases h
  .show _∈(atV (s.1.Voters.set b _) b).Heard;rw[hs,if_pos rfl,(q46 _ _).2.1];exact qlp
  .show(atV (s.1.Voters.set b _) b).Votes=_;rw[hs,if_pos rfl,(q46 _ _).1]
  .show SubC _ (atV (s.1.Voters.set b _) b).Accepts;rw[hs,if_pos rfl];exact hstep.accs
  .show SubC _ (atV (s.1.Voters.set b _) b).Confirms;rw[hs,if_pos rfl];exact hstep.confs
  .show _∈(atV (s.1.Voters.set b _) b).Heard;rw[hs,if_pos rfl,(q46 _ _).2.1];exact qh2 (by show k.Node≠(atV s.1.Voters a).Node;rw[A.node];exact hkn) hk
  grind
end
def ToldP(x:Claim)(v:List Nat)(u:Voter):Prop:=x∈u.Votes/\∀l∈v,lieM x l∈u.Heard
section
variable {c : Config} {z : Nat} (hn : c.Members.length <= 10) (h1 : 1 <= c.Members.length) {x : Claim} (hx : vcl x = true) {W : Nat} (hW : ∀ k, W.testBit k = true -> k < c.Members.length /\ z.testBit k = false)
include hn h1 hx hW
theorem qy0{a:Nat}(ha:W.testBit a=true):∀(v:List Nat)(q:Nat)(s:Meeting×List Play),(∀l∈v,l<c.Members.length/\z.testBit l=true)->v.Nodup->q+v.length<=100000->SpI c z q s.1->AllP z x W s.1.Voters->(∃q',q'<=q+v.length/\SpI c z q' (tries s (v.map (lieP a x))).1)/\AllP z x W (tries s (v.map (lieP a x))).1.Voters/\(∀l∈v,lieM x l∈(atV (tries s (v.map (lieP a x))).1.Voters a).Heard)/\(atV (tries s (v.map (lieP a x))).1.Voters a).Votes=(atV s.1.Voters a).Votes/\(∀k∈(atV s.1.Voters a).Heard,(∀l∈v,k.Node≠(l:Int))->k∈(atV (tries s (v.map (lieP a x))).1.Voters a).Heard)/\∀k,k≠a->atV (tries s (v.map (lieP a x))).1.Voters k=atV s.1.Voters k
 |[],q,s,_,_,_,H,hA=>⟨⟨q,Nat.le_refl _,H⟩,hA,(fun l h=>by cases h),rfl,fun _ h _=>h,fun _ _=>rfl⟩|l::v,q,s,hv,hd,hq,H,hA=>by
  rw[List.length_cons]at hq;obtain⟨d1,d2⟩:=List.nodup_cons.1 hd;obtain⟨⟨q1,e1,H1⟩,A1,b1,c1,k1,o1⟩:=yd6 hn h1 (by omega) H hx hA (hW a ha).1 (hW a ha).2 ha (hv l List.mem_cons_self).1 (hv l List.mem_cons_self).2;obtain⟨⟨q2,e2,H2⟩,A2,b2,c2,k2,o2⟩:=qy0 ha v q1 (tryM s (lieP a x l)) (fun l h=>hv l (List.mem_cons_of_mem _ h)) d2 (by omega) H1 A1;refine⟨⟨q2,by grind,H2⟩,A2,fun l' hl'=>?_,c2.trans c1,fun k hk hkn=>?_,fun k hk=>(o2 k hk).trans (o1 k hk)⟩
  .rcases List.mem_cons.1 hl' with e|h
   .rw[e];refine k2 _ b1 fun l2 hl2 h=>?_;have h:(l:Int)=(l2:Int):=h;have:l=l2:=by omega
    simp_all
   .exact b2 l' h
  .exact k2 k (k1 k hk (hkn l List.mem_cons_self)) fun l2 hl2=>hkn l2 (List.mem_cons_of_mem _ hl2)
theorem qz2{v:List Nat}(hv:∀l∈v,l<c.Members.length/\z.testBit l=true)(hd:v.Nodup):∀(w:List Nat)(q:Nat)(s:Meeting×List Play),(∀k∈w,W.testBit k=true)->w.Nodup->q+w.length*(v.length+1)<=100000->SpI c z q s.1->AllP z x W s.1.Voters->(∃q',q'<=q+w.length*(v.length+1)/\SpI c z q' (tries s (w.flatMap (tellP x v))).1)/\AllP z x W (tries s (w.flatMap (tellP x v))).1.Voters/\(∀a∈w,ToldP x v (atV (tries s (w.flatMap (tellP x v))).1.Voters a))/\∀k,k∉w->atV (tries s (w.flatMap (tellP x v))).1.Voters k=atV s.1.Voters k
 |[],q,s,_,_,_,H,hA=>⟨⟨q,by omega,H⟩,hA,(fun l h=>by cases h),fun _ _=>rfl⟩|a::w,q,s,hw,hdw,hq,H,hA=>by
  rw[List.length_cons,Nat.succ_mul]at hq;obtain⟨d1,d2⟩:=List.nodup_cons.1 hdw;have ha:=hw a List.mem_cons_self;obtain⟨H0,A0,b0,_,o0⟩:=y8k hn h1 (by omega) H hx hA (hW a ha).1 (hW a ha).2 ha;obtain⟨⟨q1,e1,H1⟩,A1,b1,c1,_,o1⟩:=qy0 hn h1 hx hW ha v (q+1) (tryM s (voteP x a)) hv hd (by omega) H0 A0;obtain⟨⟨q2,e2,H2⟩,A2,b2,o2⟩:=qz2 hv hd w q1 (tries (tryM s (voteP x a)) (v.map (lieP a x))) (fun k h=>hw k (List.mem_cons_of_mem _ h)) d2 (by omega) H1 A1;have e:tries s ((a::w).flatMap (tellP x v))=tries (tries (tryM s (voteP x a)) (v.map (lieP a x))) (w.flatMap (tellP x v)):=by rw[List.flatMap_cons,q2p];rfl
  rw[e];refine⟨⟨q2,by rw[List.length_cons,Nat.succ_mul];omega,H2⟩,A2,fun k hk=>?_,fun k hk=>?_⟩
  .rcases List.mem_cons.1 hk with e|h;·rw[e,o2 a d1];exact⟨by rw[c1];exact b0,b1⟩
   .exact b2 k h
  simp_all
end
theorem y6j(s:Meeting×List Play)(a:Nat):tryM s (sendP a a)=s:=by
 have h:mAsk s.1 (sendP a a)=1:=by
  unfold mAsk;split;·rfl
  .rw[if_pos ⟨rfl,Or.inr (Or.inr rfl)⟩]
 have h2:(stepM s.1 (sendP a a)).2=1:=by unfold stepM;rw[if_pos (by rw[h];decide),h]
 unfold tryM;simp_all
def From(F:Message->Prop)(a:Nat)(u:Voter):Prop:=∃m∈u.Heard,m.Node=(a:Int)/\F m
structure SendR20(z:Nat)(F:Message->Prop)(W:Nat)(S T:List Voter):Prop where
 say:∀k,W.testBit k=true->F (say (atV T k))kept:∀a b,From F a (atV S b)->From F a (atV T b)votes:∀k,(atV T k).Votes=(atV S k).Votes
 accs:∀k,SubC (atV S k).Accepts (atV T k).Accepts
 confs:∀k,SubC (atV S k).Confirms (atV T k).Confirms
 lies:∀k,∀m∈(atV S k).Heard,z.testBit m.Node.toNat=true->m∈(atV T k).Heard
 out:∀k,W.testBit k=false->atV T k=atV S k
section
variable {c : Config} {z : Nat} (hn : c.Members.length <= 10) (h1 : 1 <= c.Members.length) {x : Claim} {W : Nat} (hW : ∀ k, W.testBit k = true -> k < c.Members.length /\ z.testBit k = false) {F : Message -> Prop} (hF : ∀ u u' : Voter, u'.Votes = u.Votes -> SubC u.Accepts u'.Accepts -> F (say u) -> F (say u'))
include hn h1 hW hF
theorem qj2:∀(l:List (Nat×Nat))(q:Nat)(s:Meeting×List Play),(∀p∈l,W.testBit p.1=true/\W.testBit p.2=true)->q+l.length<=100000->SpI c z q s.1->AllP z x W s.1.Voters->(∀k,W.testBit k=true->F (say (atV s.1.Voters k)))->(∃q',q'<=q+l.length/\SpI c z q' (tries s (l.map fun p=>sendP p.1 p.2)).1)/\AllP z x W (tries s (l.map fun p=>sendP p.1 p.2)).1.Voters/\SendR20 z F W s.1.Voters (tries s (l.map fun p=>sendP p.1 p.2)).1.Voters/\∀p∈l,p.1≠p.2->From F p.1 (atV (tries s (l.map fun p=>sendP p.1 p.2)).1.Voters p.2)
 |[],q,s,_,_,H,hA,hS=>⟨⟨q,Nat.le_refl _,H⟩,hA,⟨hS,fun _ _ h=>h,fun _=>rfl,fun _ _ h=>h,fun _ _ h=>h,fun _ _ h _=>h,fun _ _=>rfl⟩,fun p hp=>by grind⟩|(a,b)::l,q,s,hl,hq,H,hA,hS=>by
  rw[List.length_cons]at hq;obtain⟨wa,wb⟩:=hl (a,b) List.mem_cons_self;have hl':∀p∈l,W.testBit p.1=true/\W.testBit p.2=true:=fun p hp=>hl p (List.mem_cons_of_mem _ hp);by_cases hab:a=b
  .have e:tries s (((a,b)::l).map fun p=>sendP p.1 p.2)=tries s (l.map fun p=>sendP p.1 p.2):=by show tries (tryM s (sendP a b)) _=_;rw[hab,y6j]
   rw[e];obtain⟨⟨q2,e2,H2⟩,A2,R2,L2⟩:=qj2 l q s hl' (by omega) H hA hS;grind
  .obtain⟨⟨q1,e1,H1⟩,A1,b1,c1,d1,f1,k1,o1⟩:=y8j hn h1 (by omega) H hA (hW a wa).1 (hW a wa).2 wa (hW b wb).1 (hW b wb).2 wb hab;have hv:∀k,(atV (tryM s (sendP a b)).1.Voters k).Votes=(atV s.1.Voters k).Votes:=fun k=>by grind
   have ha:∀k,SubC (atV s.1.Voters k).Accepts (atV (tryM s (sendP a b)).1.Voters k).Accepts:=fun k=>by
    by_cases e:k=b;·simp_all
    .rw[o1 k e];exact fun _ h=>h
   have hc:∀k,SubC (atV s.1.Voters k).Confirms (atV (tryM s (sendP a b)).1.Voters k).Confirms:=fun k=>by
    by_cases e:k=b;·simp_all
    .rw[o1 k e];exact fun _ h=>h
   have hS1:∀k,W.testBit k=true->F (say (atV (tryM s (sendP a b)).1.Voters k)):=fun k hk=>hF _ _ (hv k) (ha k) (hS k hk);have hnew:From F a (atV (tryM s (sendP a b)).1.Voters b):=⟨_,b1,(H.mt.all a (hW a wa).1).node,hS a wa⟩;have hkept:∀a' b',From F a' (atV s.1.Voters b')->From F a' (atV (tryM s (sendP a b)).1.Voters b'):=fun a' b' h=>by
    by_cases e:b'=b
    .rw[e]at h⊢;by_cases e':a'=a;·rw[e'];exact hnew
     .obtain⟨m,hm,hmn,hmf⟩:=h;exact⟨m,k1 m hm (by rw[hmn];omega),hmn,hmf⟩
    simp_all
   have hlies:∀k,∀m∈(atV s.1.Voters k).Heard,z.testBit m.Node.toNat=true->m∈(atV (tryM s (sendP a b)).1.Voters k).Heard:=fun k m hm hz=>by
    by_cases e:k=b;·rw[e]at hm⊢;refine k1 m hm fun h=>?_;rw[h,tN,(hW a wa).2]at hz;cases hz
    simp_all
   obtain⟨⟨q2,e2,H2⟩,A2,R2,L2⟩:=qj2 l q1 (tryM s (sendP a b)) hl' (by omega) H1 A1 hS1;refine⟨⟨q2,by grind,H2⟩,A2,⟨R2.say,fun a' b' h=>R2.kept a' b' (hkept a' b' h),fun k=>(R2.votes k).trans (hv k),fun k y hy=>R2.accs k y (ha k y hy),fun k y hy=>R2.confs k y (hc k y hy),fun k m hm hz=>R2.lies k m (hlies k m hm hz) hz,fun k hk=>?_⟩,fun p hp hne=>?_⟩;·refine(R2.out k hk).trans (o1 k fun e=>?_);simp_all
   .rcases List.mem_cons.1 hp with e|h;·rw[e];exact R2.kept a b hnew
    .exact L2 p h hne
end
theorem qsg(w:List Nat):qki w=(q3m w).map fun p=>sendP p.1 p.2:=by simp[qki,q3m,List.map_flatMap,List.map_map,Function.comp_def]
section
variable {c : Config} {z q : Nat} (hn : c.Members.length <= 10) {m : Meeting} (H : SpI c z q m) {W : Nat} (hW : ∀ k, W.testBit k = true -> k < c.Members.length /\ z.testBit k = false) (hz : ∀ k, z.testBit k = true -> k < c.Members.length) (hsat : ∀ k, W.testBit k = true -> sat (W ||| z) (tr c k) = true)
include hn H hW hz hsat
theorem qps{F:Message->Prop}{x:Claim}{b:Nat}(hb:W.testBit b=true)(hS:F (say (atV m.Voters b)))(hF:∀k,W.testBit k=true->k≠b->From F k (atV m.Voters b))(hL:∀l,z.testBit l=true->lieM x l∈(atV m.Voters b).Heard)(hFL:∀l,F (lieM x l)):∀k,(W|||z).testBit k=true->∃u∈allM (atV m.Voters b),u.Node.toNat=k/\sat (W|||z) u.Trust=true/\F u:=fun k hk=>by
 have hb':=hW b hb;have B:=H.mt.all b hb'.1;rw[Nat.testBit_or,Bool.or_eq_true]at hk;rcases hk with hk|hk
 .by_cases e:k=b
  .refine⟨say (atV m.Voters b),by simp[allM],?_,?_,hS⟩;·show(atV m.Voters b).Node.toNat=k;rw[B.node,e];rfl
   .have ht:(atV m.Voters b).Trust=tr c b:=B.tru hb';show sat _ (atV m.Voters b).Trust=true;simp_all
  .obtain⟨u,hu,hun,huf⟩:=hF k hk e;have g:=(B.told u hu).good k (hW k hk) hun;have ht:u.Trust=tr c k:=g.1;exact⟨u,List.mem_append.2 (.inl hu),by omega,by simp_all,huf⟩
 .refine⟨lieM x k,List.mem_append.2 (.inl (hL k hk)),rfl,?_,hFL k⟩;have:=hz k hk;exact y6b (by rw[q2b (by omega),Nat.testBit_or,hk];simp)
theorem y4f{x:Claim}(hA:AllP z x W m.Voters){b:Nat}(hb:W.testBit b=true)(hv:x∈(atV m.Voters b).Votes)(hF:∀k,W.testBit k=true->k≠b->From (fun u=>x∈u.Votes) k (atV m.Voters b))(hL:∀l,z.testBit l=true->lieM x l∈(atV m.Voters b).Heard):x∈(atV m.Voters b).Accepts:=by
 have B:=H.mt.all b (hW b hb).1;have hnb:(atV m.Voters b).Node.toNat=b:=by rw[B.node];rfl
 exact yek (q0p.1 B.valid).1 (J:=W|||z) B.set (by simp_all) (qps hn H hW hz hsat hb (F:=fun u=>x∈u.Votes) hv hF hL fun l=>by simp[lieM]) (fun y hy=>(hA b hb).no y (List.mem_append.2 (.inr hy))) hv
theorem y12{x:Claim}{b:Nat}(hb:W.testBit b=true)(hv:x∈(atV m.Voters b).Accepts)(hF:∀k,W.testBit k=true->k≠b->From (fun u=>x∈u.Accepts) k (atV m.Voters b))(hL:∀l,z.testBit l=true->lieM x l∈(atV m.Voters b).Heard):x∈(atV m.Voters b).Confirms:=by
 have B:=H.mt.all b (hW b hb).1;have hnb:(atV m.Voters b).Node.toNat=b:=by rw[B.node];rfl
 exact ydu (q0p.1 B.valid).1 (J:=W|||z) B.set (by simp_all) (qps hn H hW hz hsat hb (F:=fun u=>x∈u.Accepts) hv hF hL fun l=>by simp[lieM]) hv
end
theorem qxr(s:Nat):(nodes s).Nodup:=by
 have h:∀n i:Nat,(q0w s n i).Nodup:=by intro n;induction n with|zero=>intro i;simp[q0w]|succ n ih=>
   intro i;simp only[q0w];split;·refine List.nodup_cons.2 ⟨fun h=>?_,ih (i+1)⟩;have:=(q6m.1 h).2.1;omega
   simp_all
 exact h 10 0
theorem qz6{c:Config}{z q:Nat}(hn:c.Members.length<=10)(h1:1<=c.Members.length)(hz:∀k,z.testBit k=true->k<c.Members.length){x:Claim}(hx:vcl x=true){W:Nat}(hW:∀k,W.testBit k=true->k<c.Members.length/\z.testBit k=false)(hsat:∀k,W.testBit k=true->sat (W|||z) (tr c k)=true){s:Meeting×List Play}(hq:q+310<=100000)(H:SpI c z q s.1)(hA:AllP z x W s.1.Voters):(∃q',q'<=q+310/\SpI c z q' (tries s (planP x (nodes z) (nodes W))).1)/\(∀k,W.testBit k=true->x∈(atV (tries s (planP x (nodes z) (nodes W))).1.Voters k).Confirms)/\∀k,W.testBit k=false->atV (tries s (planP x (nodes z) (nodes W))).1.Voters k=atV s.1.Voters k:=by
 have hl:=q29 W;have hi:=q29 z;have hmW:∀k,k∈nodes W↔W.testBit k=true:=fun k=>by rw[q31];grind
 have hmz:∀k,k∈nodes z↔z.testBit k=true:=fun k=>by rw[q31];grind
 have hm:(nodes W).length*((nodes z).length+1)<=10*11:=Nat.mul_le_mul hl (by omega);have hp:(q3m (nodes W)).length<=100:=by have:(nodes W).length*(nodes W).length<=10*10:=Nat.mul_le_mul hl hl;simp only[q3m,List.length_flatMap,List.length_map,List.map_const',List.sum_replicate_nat];omega
 have hpm:∀p∈q3m (nodes W),W.testBit p.1=true/\W.testBit p.2=true:=fun p hp=>by obtain⟨a,ha,h⟩:=List.mem_flatMap.1 hp;grind
 have hpi:∀a b,W.testBit a=true->W.testBit b=true->(a,b)∈q3m (nodes W):=fun a b ha hb=>List.mem_flatMap.2 ⟨a,(hmW a).2 ha,List.mem_map.2 ⟨b,(hmW b).2 hb,rfl⟩⟩;unfold planP;rw[q2p,q2p,qsg];obtain⟨⟨q1,e1,H1⟩,A1,b1,o1⟩:=qz2 hn h1 hx hW (v:=nodes z) (fun l hl=>⟨hz l ((hmz l).1 hl),(hmz l).1 hl⟩) (qxr z) (nodes W) q s (fun k hk=>(hmW k).1 hk) (qxr W) (by omega) H hA;obtain⟨⟨q2,e2,H2⟩,A2,R2,L2⟩:=qj2 hn h1 (x:=x) hW (F:=fun u=>x∈u.Votes) (fun u u' hv _ h=>by show x∈u'.Votes;rw[hv];exact h) (q3m (nodes W)) q1 _ hpm (by omega) H1 A1 (fun k hk=>(b1 k ((hmW k).2 hk)).1);have lies2:∀b,W.testBit b=true->∀l,z.testBit l=true->lieM x l∈(atV (tries (tries s ((nodes W).flatMap (tellP x (nodes z)))) ((q3m (nodes W)).map fun p=>sendP p.1 p.2)).1.Voters b).Heard:=fun b hb l hl'=>R2.lies b _ ((b1 b ((hmW b).2 hb)).2 l ((hmz l).2 hl')) hl';have acc:∀b,W.testBit b=true->x∈(atV (tries (tries s ((nodes W).flatMap (tellP x (nodes z)))) ((q3m (nodes W)).map fun p=>sendP p.1 p.2)).1.Voters b).Accepts:=fun b hb=>y4f hn H2 hW hz hsat A2 hb (R2.say b hb) (fun k hk hne=>L2 (k,b) (hpi k b hk hb) hne) (lies2 b hb);obtain⟨⟨q3,e3,H3⟩,A3,R3,L3⟩:=qj2 hn h1 (x:=x) hW (F:=fun u=>x∈u.Accepts) (fun u u' _ ha h=>ha x h) (q3m (nodes W)) q2 _ hpm (by omega) H2 A2 acc;refine⟨⟨q3,by omega,H3⟩,fun b hb=>y12 hn H3 hW hz hsat hb (R3.say b hb) (fun k hk hne=>L3 (k,b) (hpi k b hk hb) hne) (fun l hl'=>R3.lies b _ (lies2 b hb l hl') hl'),fun k hk=>?_⟩;rw[R3.out k hk,R2.out k hk,o1 k (fun h=>by simp_all)]
theorem q6p{s n k:Nat}(h:s<2^n)(hk:s.testBit k=true):k<n:=by
 by_cases hc:k<n;·omega
 .rw[Nat.testBit_lt_two_pow (Nat.lt_of_lt_of_le h (Nat.pow_le_pow_right (by decide) (by omega)))]at hk;grind
theorem qmu{c:Config}{z:Nat}{x:Claim}{k:Nat}(hk:k<c.Members.length):Pure z x (atV (q38 c) k):=by
 have h:(atV (q38 c) k).Votes=[]/\(atV (q38 c) k).Accepts=[]/\(atV (q38 c) k).Heard=[]:=by rw[qs4 c hk];exact⟨rfl,rfl,rfl⟩
 refine⟨fun y hy=>?_,fun y hy=>?_,fun y hy=>?_⟩;·rw[h.1]at hy;cases hy
 .rw[h.2.1]at hy;cases hy
 simp_all
theorem y72:qpi:=by
 intro N c ill hN hc hd hill hs;have hle:=hc.le;have hpos:=hc.pos;have hn:c.Members.length<=10:=by omega
 have hdl:=qf2 ill c;have hs':twoB (delC ill c)=true:=hs;rcases apart_spec (c:=delC ill c) (by omega)with⟨g1,_⟩|⟨g1,g2,g3,_⟩
 .have:(apart (delC ill c)).1≠0:=by simpa[twoB]using hs'
  exact absurd g1 this
 obtain⟨a1,a2,a3,a4,a5⟩:=qr4 g1;obtain⟨b1,b2,b3,b4,b5⟩:=qr4 g2;have wa:∀k,(apart (delC ill c)).1.testBit k=true->k<c.Members.length/\ill.testBit k=false:=fun k hk=>⟨q6p (qgw.2 (a3.trans (qaz hn))) hk,a4 k hk⟩;have wb:∀k,(apart (delC ill c)).2.testBit k=true->k<c.Members.length/\ill.testBit k=false:=fun k hk=>⟨q6p (qgw.2 (b3.trans (qaz hn))) hk,b4 k hk⟩;have dis:∀k,(apart (delC ill c)).1.testBit k=true->(apart (delC ill c)).2.testBit k=true->False:=fun k h h'=>by
  have:((apart (delC ill c)).1&&&(apart (delC ill c)).2).testBit k=true:=by rw[Nat.testBit_and,h,h'];rfl
  rw[g3,Nat.zero_testBit]at this;cases this
 obtain⟨⟨q1,e1,H1⟩,p1,o1⟩:=qz6 hn hpos (fun k hk=>q6p hill hk) (x:=⟨0,0⟩) (by decide) wa a5 (s:=qbh c ill) (q:=1) (by omega) (SpI.start hN hc hd hill) (fun k hk=>qmu (wa k hk).1);obtain⟨_,p2,o2⟩:=qz6 hn hpos (fun k hk=>q6p hill hk) (x:=⟨0,1⟩) (by decide) wb b5 (q:=q1) (by omega) H1 (fun k hk=>by rw[o1 k (by cases h:(apart (delC ill c)).1.testBit k with|false=>rfl|true=>exact(dis k h hk).elim)];exact qmu (wb k hk).1);obtain⟨k1,hk1⟩:=nz.1 a2;obtain⟨k2,hk2⟩:=nz.1 b2;refine⟨k1,k2,(wa k1 hk1).1,(wb k2 hk2).1,(wa k1 hk1).2,(wb k2 hk2).2,?_⟩;unfold q49 qjv;rw[q2p];refine decide_eq_true ⟨⟨0,0⟩,?_,⟨0,1⟩,p2 k2 hk2,rfl,by decide⟩;simp_all
theorem qst:∀t,law20_AssemblySplits t=some true:=qvj y72
end Go.Proofs.YtdmfjabikomgiaaGreat
namespace Go.Proofs.YtdmfjabikomgiaaGreat
open Go Go.Ab Go.ChangeShapes Go.WideShapes Go.ChangeAt Go.WideMaps Go.WideElems Go.RowKit
theorem Tryz.own:ownKnob Tryz.prog.godebug=none:=by kernel_rfl
theorem Tryz.laidOut:laidOutB Tryz.prog=true:=by kernel_rfl
theorem y3j{f:Nat}(hlaw:∀zs:List Int,(∀z∈zs,(Lit.int .i64 z).wf=true)->∃n h',call env n f [.d (ints .i64 zs)] []=some (.d (.v (.bool true)),h')){W:World}{v:Value}{zs:List Int}(hz:∀z∈zs,(Lit.int .i64 z).wf=true)(hv:Rep W qg0 (ints .i64 zs) v):Calls Tryz.prog f #[v] W fun e w'=>e=.returned (.bool true)/\Below W.heap.size W w':=by obtain⟨n,h',hc⟩:=hlaw zs hz;exact top (E:=env) (yg0 n) (fun g cs hg=>by cases hg) (ds:=[ints .i64 zs]) hc rfl (fun i d hd=>by cases i with|zero=>simp at hd;subst hd;exact hv|succ i=>simp at hd)
end Go.Proofs.YtdmfjabikomgiaaGreat
