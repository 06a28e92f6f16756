/- Laws of the printed functions. -/
import Derived.Test.YtglokalgdbegeaaGreatA22SegA
import Derived.Test.YtglokalgdbegeaaGreatMachC
import Derived.Test.YtglokalgdbegeaaGreatMachT
import Derived.Test.YtglokalgdbegeaaGreatRows
import Derived.ProofKit
import Derived.LaidMore
import Derived.OpenShut
import Derived.Stop.Joined
namespace Go.Proofs.YtglokalgdbegeaaGreat
open Go Go.Ab Go.Sort
instance:DecidableEq Claim:=fun a b=>decidable_of_iff (a.Topic=b.Topic∧a.Value=b.Value) (by cases a;cases b;simp)
def vcl(x:Claim):Bool:=decide (0≤x.Topic)&&(decide (x.Topic<8)&&(decide (0≤x.Value)&&decide (x.Value≤15)))
theorem yad{x:Claim}:vcl x=true↔0≤x.Topic∧x.Topic<8∧0≤x.Value∧x.Value≤15:=by simp[vcl]
def ltc(a b:Claim):Prop:=a.Topic<b.Topic∨a.Topic=b.Topic∧a.Value<b.Value
instance(a b:Claim):Decidable (ltc a b):=inferInstanceAs(Decidable (_∨_∧_))
theorem qsg{a b c:Claim}(h:ltc a b)(h':ltc b c):ltc a c:=by unfold ltc at*;omega
theorem qbw(a:Claim):¬ltc a a:=by unfold ltc;omega
def cmpc(a b:Claim):Int:=if ltc a b then-1 else if a=b then 0 else 1
theorem qpt(x:Claim):z6w x=some (vcl x):=by apply yga;unfold vcl leB ltB;by_cases h1:0≤x.Topic<;>by_cases h2:x.Topic<8<;>by_cases h3:0≤x.Value<;>simp[h1,h2,h3]
theorem qdg(x y:Int):z3c x y=some (if x<y then-1 else if y<x then 1 else 0):=by
 have hn:∀z,z61 z=some false:=fun z=>ydf _ _ (by simp[neB]);apply yea;rw[hn,hn];by_cases h:x<y;·simp[ltB,h]
 ·by_cases h':y<x<;>simp[ltB,h,h']
theorem qvk(x y:Int):z6r [x,y]=some (if x≠0 then x else y):=by
 apply yh4;apply y0f;rw[q02 (by simp),q0l (y:=x) (by omega) rfl];simp only[cT];by_cases h:x=0
 ·subst h;simp only[q0m,cF];rw[show addI .i64 0 1=1 from rfl];apply y0f;rw[q02 (by simp),q0l (y:=y) (by omega) rfl];simp only[cT];by_cases h':y=0;·subst h';simp only[q0m,cF];rw[show addI .i64 1 1=2 from rfl];apply y0f;rw[q00 (by simp)];simp
  ·rw[q1e h'];simp
 ·rw[q1e h];simp[h]
theorem yao(a b:Claim):z6k a b=some (cmpc a b):=by apply yct;rw[qdg,qdg];simp only[bS,qvk];cases a with|mk a1 a2=>cases b with|mk b1 b2=>simp only[cmpc,ltc,Claim.mk.injEq];congr 1;split<;>split<;>(try split)<;>(try split)<;>(try split)<;>omega
def plainC:List Claim→Bool|[]=>true|[x]=>vcl x|x::y::r=>vcl x&&(decide (ltc x y)&&plainC (y::r))
theorem qkm{x y:Claim}{r:List Claim}:plainC (x::y::r)=(vcl x&&(decide (ltc x y)&&plainC (y::r))):=rfl
theorem q4z:∀{l:List Claim},plainC l=true↔(∀x∈l,vcl x=true)∧l.Pairwise ltc
 |[]=>by simp[plainC]|[x]=>by simp[plainC]|x::y::r=>by
  rw[qkm,aT,aT,dT',q4z (l:=y::r),List.pairwise_cons (a:=x)];constructor
  ·rintro⟨h1,h2,h3,h4⟩;refine⟨fun z hz=>by rcases List.mem_cons.1 hz with rfl|hz;exact h1;exact h3 z hz,fun z hz=>?_,h4⟩;rcases List.mem_cons.1 hz with rfl|hz;·exact h2
   ·exact qsg h2 ((List.pairwise_cons.1 h4).1 z hz)
  ·rintro⟨h1,h2,h3⟩;exact⟨h1 x (by simp),h2 y (by simp),fun z hz=>h1 z (by simp[hz]),h3⟩
theorem ycv{a b:Claim}:leB 0 (cmpc a b)=!decide (ltc a b):=by
 unfold cmpc leB;by_cases h:ltc a b;·simp[h]
 ·by_cases h':a=b;·subst h';simp[qbw]
  ·simp[h,h']
def plP:Option Claim→List Claim→Bool|_,[]=>true|none,y::r=>vcl y&&plP (some y) r|some z,y::r=>vcl y&&(decide (ltc z y)&&plP (some y) r)
theorem qx1:∀{z:Claim}{l:List Claim},vcl z=true→plP (some z) l=plainC (z::l)
 |z,[],h=>by simp[plP,plainC,h]|z,y::r,h=>by
  rw[qkm,h,tA',plP];by_cases hy:vcl y=true;·rw[qx1 hy,hy,tA']
  ·have:plainC (y::r)=false:=by cases hp:plainC (y::r)with|false=>rfl|true=>exact absurd ((q4z.1 hp).1 y (by simp)) hy
   rw[this];simp[hy]
theorem y6b(l:List Claim):plP none l=plainC l:=by cases l with|nil=>rfl|cons y r=>
  rw[plP];by_cases hy:vcl y=true;·rw[hy,tA',qx1 hy]
  ·have:plainC (y::r)=false:=by cases hp:plainC (y::r)with|false=>rfl|true=>exact absurd ((q4z.1 hp).1 y (by simp)) hy
   rw[this];simp[hy]
theorem qpo(l:List Claim)(hl:l.length<1152921504606846976):∀(suf:List Claim)(i:Nat)(z:Claim),l[i]?=some z→l.drop (i+1)=suf→z2o l l ((l.length:Nat):Int) ((i+1:Nat):Int)=some (plP (some z) suf)|[],i,z,hz,h=>by apply qw9;rw[q0j h];rfl|y::suf,i,z,hz,h=>by have hlt:=q0e h;apply qw9;rw[q07 h,cT,q06 h,qpt,bS,q02 (by omega),cT,q2u (by omega) (by omega),q0l (y:=z) (by omega) (by rw[show(((i+1:Nat):Int)-1).toNat=i by omega];exact hz),yao,bS,ycv,q01 (by omega),qpo l hl suf (i+1) y (by have:=congrArg (·[0]?) h;simpa using this) (q03 h)];rw[plP];cases vcl y<;>by_cases hc:ltc z y<;>simp[hc]
theorem qq4(l:List Claim)(hl:l.length<1152921504606846976):z6j l=some (plainC l):=by apply ycj;rw[←y6b];cases l with|nil=>apply qw9;simp[ltB,plP]|cons y r=>apply qw9;have h:(y::r).drop 0=y::r:=rfl;have h0:ltB 0 (((y::r).length:Nat):Int)=true:=q02 (by rw[List.length_cons];omega);rw[h0,cT,q0l (y:=y) (by omega) rfl,qpt,bS,q00 (by omega),cF,show addI .i64 0 1=((0+1:Nat):Int)from rfl,qpo (y::r) hl r 0 y rfl rfl,plP];cases vcl y<;>simp
def allC:List Claim:=(List.range 8).flatMap fun(i:Nat)=>(List.range 16).map fun(k:Nat)=>⟨(i:Int),(k:Int)⟩
def qfc(l:List Claim):List Claim:=allC.filter fun x=>decide (x∈l)
theorem y4y{x:Claim}:x∈allC↔vcl x=true:=by
 rw[yad,allC];simp only[List.mem_flatMap,List.mem_map,List.mem_range];constructor;·rintro⟨i,hi,k,hk,rfl⟩;dsimp only;omega
 ·rintro⟨h1,h2,h3,h4⟩;exact⟨x.Topic.toNat,by omega,x.Value.toNat,by omega,by cases x;simp_all;omega⟩
theorem y75:allC.Pairwise ltc:=by decide+kernel
theorem qin{x:Claim}{l:List Claim}:x∈qfc l↔vcl x=true∧x∈l:=by simp[qfc,y4y]
theorem quy(l:List Claim):(qfc l).Pairwise ltc:=List.Pairwise.filter _ y75
theorem quc(l:List Claim):(qfc l).length≤128:=by
 have:allC.length=128:=by decide+kernel
 rw[←this];exact List.length_filter_le _ _
theorem qpa(l:List Claim):plainC (qfc l)=true:=q4z.2 ⟨fun _x hx=>(qin.1 hx).1,quy l⟩
theorem y1w:∀{l k:List Claim},l.Pairwise ltc→k.Pairwise ltc→(∀x,x∈l↔x∈k)→l=k
 |[],[],_,_,_=>rfl|[],y::k,_,_,h=>by have:=(h y).2 (by simp);cases this|x::l,[],_,_,h=>by have:=(h x).1 (by simp);cases this|x::l,y::k,h1,h2,h=>by
  rw[List.pairwise_cons]at h1 h2;have hxy:x=y:=by
   by_cases e:x=y;·exact e
   ·have hx:x∈k:=by rcases List.mem_cons.1 ((h x).1 (by simp))with h|h;exact absurd h e;exact h
    have hy:y∈l:=by rcases List.mem_cons.1 ((h y).2 (by simp))with h|h;exact absurd h.symm e;exact h
    exact absurd (qsg (h1.1 y hy) (h2.1 x hx)) (qbw x)
  subst hxy;rw[y1w h1.2 h2.2 fun z=>?_];constructor
  ·intro hz;rcases List.mem_cons.1 ((h z).1 (by simp[hz]))with e|h';·subst e;exact absurd (h1.1 z hz) (qbw z)
   ·exact h'
  ·intro hz;rcases List.mem_cons.1 ((h z).2 (by simp[hz]))with e|h';·subst e;exact absurd (h2.1 z hz) (qbw z)
   ·exact h'
theorem qyk{l k:List Claim}(h1:plainC l=true)(h2:plainC k=true)(h:∀x,x∈l↔x∈k):l=k:=y1w (q4z.1 h1).2 (q4z.1 h2).2 h
theorem qz1{l:List Claim}(h:plainC l=true):qfc l=l:=qyk (qpa l) h fun x=>by rw[qin];exact⟨fun h=>h.2,fun hx=>⟨(q4z.1 h).1 x hx,hx⟩⟩
def Contra(a b:Claim):Prop:=a.Topic=b.Topic∧a.Value≠b.Value
instance(a b:Claim):Decidable (Contra a b):=inferInstanceAs(Decidable (_∧_))
theorem Contra.symm{a b:Claim}(h:Contra a b):Contra b a:=⟨h.1.symm,fun e=>h.2 e.symm⟩
end Go.Proofs.YtglokalgdbegeaaGreat
namespace Go.Proofs.YtglokalgdbegeaaGreat
open Go Go.Ab
noncomputable instance:DecidableEq Trust:=fun a b=>Classical.propDecidable (a=b)
theorem Trust.etaM(t:Trust):Trust.mk t.Threshold t.Nodes t.Inner=t:=by cases t;rfl
theorem qei(t:Trust):eqB (verr t) 0=valid t:=by have:=q67 t;cases h:valid t with|true=>rw[h]at this;simp[eqB,this.2 rfl]|false=>rw[h]at this;simp only[fT,iff_false]at this;simp[eqB,this]
theorem y1i(t:Trust):neB (verr t) 0=!valid t:=by rw[←qei];simp[neB,eqB]
theorem qsd(l k:List Int)(hl:l.length<1152921504606846976)(hk:l.length=k.length):∀(suf suk:List Int)(i:Nat),l.drop i=suf→k.drop i=suk→z20 l k ((l.length:Nat):Int) (i:Int)=some (decide (suf=suk))
 |[],suk,i,h,h'=>by
  have:suk=[]:=by rw[←h',List.drop_eq_nil_iff,←hk];exact List.drop_eq_nil_iff.1 h
  subst this;apply ya5;rw[q0j h];simp|y::suf,[],i,h,h'=>by have:=q0e h;have:=List.drop_eq_nil_iff.1 h';omega|y::suf,z::suk,i,h,h'=>by
  have hlt:=q0e h;apply ya5;rw[q07 h,cT,q06 h,q06 h',q01 (by omega),qsd l k hl hk suf suk (i+1) (q03 h) (q03 h')];by_cases hx:y=z;·subst hx;rw[q0m];simp
  ·rw[q1e hx];simp[hx]
theorem y31(l k:List Int)(hl:l.length<1152921504606846976):z3k l k=some (decide (l=k)):=by
 apply ydw;by_cases hk:l.length=k.length;·rw[hk,q0m,cF,←hk];exact qsd l k hl hk l k 0 rfl rfl
 ·rw[q1e (by omega),cT];have:l≠k:=fun e=>hk (by rw[e]);simp[this]
theorem y1r(l k:List Trust)(hl:l.length<1152921504606846976)(hk:l.length=k.length)(hf:∀x∈l,∀y,z54 x y=some (decide (x=y))):∀(suf suk:List Trust)(i:Nat),l.drop i=suf→k.drop i=suk→z0l k l ((l.length:Nat):Int) (i:Int)=some (decide (suf=suk))
 |[],suk,i,h,h'=>by
  have:suk=[]:=by rw[←h',List.drop_eq_nil_iff,←hk];exact List.drop_eq_nil_iff.1 h
  subst this;apply y7l;rw[q0j h];simp|y::suf,[],i,h,h'=>by have:=q0e h;have:=List.drop_eq_nil_iff.1 h';omega|y::suf,z::suk,i,h,h'=>by have hlt:=q0e h;apply y7l;rw[q07 h,cT,q06 h,q06 h',hf y (List.mem_of_mem_drop (i:=i) (by rw[h];simp)),bS,q01 (by omega),y1r l k hl hk hf suf suk (i+1) (q03 h) (q03 h')];by_cases hx:y=z<;>simp[hx]
theorem y6j:∀a:Trust,Small a→∀b:Trust,z54 a b=some (decide (a=b)):=by
 apply Trust.ind;intro a ih ha b;have hn:=ha.nodes;have hi:=ha.inner;apply ye4;have h1:z1a a.Inner b.Inner=some (decide (a.Inner=b.Inner)):=by
  apply yhf;by_cases hk:a.Inner.length=b.Inner.length;·rw[hk,q0m,cF,←hk];exact y1r a.Inner b.Inner hi hk (fun x hx y=>ih x hx (ha.mem hx) y) a.Inner b.Inner 0 rfl rfl
  ·rw[q1e (by omega),cT];have:a.Inner≠b.Inner:=fun e=>hk (by rw[e]);simp[this]
 rw[y31 _ _ hn,h1];cases a;cases b;simp only[Trust.mk.injEq,bS];rename_i t n i t' n' i';by_cases h1:t=t'<;>by_cases h2:n=n'<;>by_cases h3:i=i'<;>simp[eqB,h1,h2,h3]
theorem qv8(a:Trust)(ha:Small a)(b:Trust):z3s a b=some (decide (a=b)):=by obtain⟨r,h1,h2⟩:=qzy a ha b;rw[h1];congr 1;rw[Bool.eq_iff_iff,h2];simp
def msgB(m:Message):Bool:=inR m.Node&&(decide (1≤m.Seq)&&(valid m.Trust&&(plainC m.Votes&&plainC m.Accepts)))
structure SmallM(m:Message):Prop where
 tr:Small m.Trust
 votes:m.Votes.length<1000000
 accs:m.Accepts.length<1000000
theorem qlp{l:List Claim}(h:plainC l=true):l.length≤128:=by rw[←qz1 h];exact quc l
theorem qnw{m:Message}:msgB m=true↔inR m.Node=true∧1≤m.Seq∧valid m.Trust=true∧plainC m.Votes=true∧plainC m.Accepts=true:=by simp[msgB]
theorem qlx{m:Message}(h:msgB m=true):SmallM m:=by obtain⟨_,_,h1,h2,h3⟩:=qnw.1 h;have:=qlp h2;have:=qlp h3;exact⟨q1v h1,by omega,by omega⟩
theorem qxs(k:Int):z62 k=some (inR k):=by
 apply yey;by_cases h:0≤k;·simp[leB,ltB,inR,h]
 ·simp[leB,ltB,inR,h]
theorem yb2{m:Message}(h:SmallM m):z6c m=some (msgB m):=by apply yh9;rw[qxs,qbf _ h.tr,qq4 _ (by have:=h.votes;omega),qq4 _ (by have:=h.accs;omega)];simp only[bS,qei,msgB,leB];cases inR m.Node<;>cases decide (1≤m.Seq)<;>cases valid m.Trust<;>cases plainC m.Votes<;>rfl
theorem qls:∀t:Trust,Fits t→z40 t=some t:=by
 apply Trust.ind;intro t ih ht;have hsz:size t<1073741824:=ht;rw[q2w]at hsz;have l1:∀(suf:List Trust)(i:Nat)(acc:List Trust)(a8:Int)(a10:List Int)(a12:List Trust)(a14:Int)(a16:List Int)(a18:List Trust)(a20:Int)(a22:List Int),t.Inner.drop i=suf→acc.length≤i→z30 t.Inner ((t.Inner.length:Nat):Int) (i:Int) a8 a10 a12 a14 a16 a18 a20 a22 acc=some ⟨a20,a22,acc++suf⟩:=by intro suf;induction suf with|nil=>intro i acc a8 a10 a12 a14 a16 a18 a20 a22 h ha;apply y8s;simp only[q0j h,cF,List.append_nil]|cons y suf ihs=>intro i acc a8 a10 a12 a14 a16 a18 a20 a22 h ha;have hlt:=q0e h;have hy:y∈t.Inner:=List.mem_of_mem_drop (by rw[h];exact List.mem_cons_self);apply y8s;simp only[q07 h,cT,q06 h,ih y hy (ht.mem hy),bS,q01 (show i<4611686018427387904 by omega),Trust.etaM];rw[q0i (by simp[q0f];omega),ihs (i+1) (acc++[y]) _ _ _ _ _ _ _ _ (q03 h) (by simp;omega)];simp
 apply yg8;rw[q0i (by simp[q0f];omega),show(0:Int)=((0:Nat):Int)from rfl,l1 t.Inner 0 [] _ _ _ _ _ _ _ _ rfl (Nat.le_refl _)];show some (Trust.mk t.Threshold t.Nodes t.Inner)=some t;rw[Trust.etaM]
def seeM(ms:List Member)(m:Message):List Member:=ms.set m.Node.toNat ⟨true,m.Trust⟩
def viewC(v:Int)(t:Trust)(l:List Message):Config:=⟨(l.foldl seeM (List.replicate 10 ⟨false,⟨0,[],[]⟩⟩)).set v.toNat ⟨true,t⟩⟩
theorem q4y{k:Int}(h:inR k=true):0≤k∧k.toNat<10:=by simp[inR]at h;omega
theorem qva{v:Int}{t:Trust}(hv:inR v=true)(ht:valid t=true)(l:List Message)(hl:l.length<1152921504606846976)(hm:∀m∈l,msgB m=true∧m.Node≠v):∀(suf:List Message)(i:Nat)(ms:List Member)(a17:List Member),l.drop i=suf→ms.length=10→z2i v l ((l.length:Nat):Int) (i:Int) t.Threshold t.Nodes t.Inner a17 ms=some ⟨(suf.foldl seeM ms).set v.toNat ⟨true,t⟩⟩|[],i,ms,a17,h,hms=>by obtain⟨h0,h10⟩:=q4y hv;apply y9w;rw[q0j h,cF,qxs,bS,hv,cT,Trust.etaM,qbf _ (q1v ht),bS,qei,ht,cT,qls _ (q46 ht).1,bS,Trust.etaM,q0l (y:=ms[v.toNat]'(by omega)) h0 (by simp),q47 (y:=ms[v.toNat]'(by omega)) (by simp)];rfl|m::suf,i,ms,a17,h,hms=>by have hlt:=q0e h;obtain⟨g1,g2⟩:=hm m (List.mem_of_mem_drop (i:=i) (by rw[h];simp));obtain⟨k1,_,k3,_⟩:=qnw.1 g1;obtain⟨h0,h10⟩:=q4y k1;apply y9w;rw[q07 h,cT,q06 h,q1e g2,cT,yb2 (qlx g1),bS,g1,cT,qls _ (q46 k3).1,bS,Trust.etaM,q0l (y:=ms[m.Node.toNat]'(by omega)) h0 (by simp),q47 (y:=ms[m.Node.toNat]'(by omega)) (by simp),q01 (by omega),qva hv ht l hl hm suf (i+1) _ a17 (q03 h) (by simp[hms])];rfl
theorem y62{v:Int}{t:Trust}(hv:inR v=true)(ht:valid t=true)(l:List Message)(hl:l.length<1152921504606846976)(hm:∀m∈l,msgB m=true∧m.Node≠v):z6h v t l=some (viewC v t l):=by apply yds;exact qva hv ht l hl hm l 0 _ _ rfl rfl
def who(p:Message→Bool)(l:List Message):Nat:=l.foldl (fun s m=>if p m then s|||bit m.Node else s) 0
def votes(l:List Message)(x:Claim):Nat:=who (fun m=>decide (x∈m.Votes)) l
def y5o(l:List Message)(x:Claim):Nat:=who (fun m=>decide (x∈m.Accepts)) l
theorem shlOr{s:Nat}{k:Int}(hs:s<1024)(h:inR k=true):orI .i64 (s:Int) (shlI .i64 1 k)=((s|||bit k:Nat):Int):=by have:=qat h;rw[qif h,q7n (by omega) (by omega)]
section
variable (l : List Message) (hl : l.length < 1152921504606846976) (hm : ∀ m ∈ l, msgB m = true) (x : Claim)
include hl hm
end
def accB(c:Config)(v:Nat)(vs ac:Nat):Bool:=blk c v ac||(q1p c (vs|||ac)).testBit v
def confB(c:Config)(v:Nat)(ac:Nat):Bool:=(q1p c ac).testBit v
section
variable {c : Config} (hc : q1g c) {vs ac : Nat} (hv : vs < 1024) (ha : ac < 1024) {v : Nat} (hn : v < 10)
include hc ha hn
theorem y7b:z49 c (v:Int) (ac:Int)=some (confB c v ac):=by apply yg6;rw[qgl ha hc,bS,q2h (qcw c ha),q2x hn];rfl
include hv
theorem y55:z4n c (v:Int) (vs:Int) (ac:Int)=some (accB c v vs ac):=by apply ygq;rw[q33 hv,q33 ha,qy0 hc ha,q7n (by omega) (by omega),qgl (or_lt hv ha) hc];simp only[bS,q2h (qcw c (or_lt hv ha)),q2x hn,accB];cases blk c v ac<;>rfl
end
theorem qdo{t:Member}:∀(l:List Message)(ms:List Member),t∈l.foldl seeM ms→t∈ms∨∃m∈l,t=⟨true,m.Trust⟩
 |[],ms,h=>.inl h|m::l,ms,h=>by
  rcases qdo l _ h with h|⟨m',h1,h2⟩
  ·rcases List.mem_or_eq_of_mem_set h with h|h;·exact .inl h
   ·exact .inr ⟨m,by simp,h⟩
  ·exact .inr ⟨m',by simp[h1],h2⟩
theorem q8v:∀(l:List Message)(ms:List Member),(l.foldl seeM ms).length=ms.length|[],_=>rfl|m::l,ms=>by rw[List.foldl_cons,q8v l];simp[seeM]
theorem qtc{v:Int}{t:Trust}(ht:valid t=true){l:List Message}(hm:∀m∈l,msgB m=true):q1g (viewC v t l):=by
 refine⟨by simp[viewC,q8v],fun m h=>?_⟩;rcases List.mem_or_eq_of_mem_set h with h|h
 ·rcases qdo l _ h with h|⟨m',h1,h2⟩;·rw[List.eq_of_mem_replicate h];simp[Small,size,sizes]
  ·rw[h2];exact(qlx (hm m' h1)).tr
 ·rw[h];exact q1v ht
abbrev Val:=List UInt8
theorem y2k{a b c:Val}(h:a<b)(h':b<c):a<c:=List.lt_trans h h'
theorem qlk(a:Val):¬a<a:=List.lt_irrefl a
theorem ybr{a b:Val}(h:a≠b)(h':¬b<a):a<b:=by have h1:a≤b:=List.not_lt.1 h';exact List.not_le.1 fun h2=>h (List.le_antisymm h1 h2)
def ltv(a b:Val):Prop:=a.length<b.length∨a.length=b.length∧a<b
instance(a b:Val):Decidable (ltv a b):=inferInstanceAs(Decidable (_∨_∧_))
theorem q4e{a b c:Val}(h:ltv a b)(h':ltv b c):ltv a c:=by
 rcases h with h|⟨h,g⟩<;>rcases h' with h'|⟨h',g'⟩;·exact .inl (by omega)
 ·exact .inl (by omega)
 ·exact .inl (by omega)
 ·exact .inr ⟨by omega,y2k g g'⟩
theorem q20(a:Val):¬ltv a a:=by rintro(h|⟨_,h⟩);omega;exact qlk _ h
theorem q9g{a b:Val}(h:a≠b)(h':¬ltv b a):ltv a b:=by
 by_cases h1:a.length<b.length;·exact .inl h1
 ·by_cases h2:b.length<a.length;·exact absurd (.inl h2) h'
  ·exact .inr ⟨by omega,ybr h fun g=>h' (.inr ⟨by omega,g⟩)⟩
theorem qeh{a b:Val}(h:ltv a b):¬ltv b a:=fun h'=>q20 _ (q4e h h')
def cmpv(a b:Val):Int:=if ltv a b then-1 else if a=b then 0 else 1
theorem yap{a b:Val}:leB 0 (cmpv a b)=!decide (ltv a b):=by
 unfold cmpv leB;by_cases h:ltv a b;·simp[h]
 ·by_cases h':a=b;·subst h';simp[q20]
  ·simp[h,h']
theorem qtm{a b:Val}:ltB (cmpv a b) 0=decide (ltv a b):=by
 unfold cmpv ltB;by_cases h:ltv a b;·simp[h]
 ·by_cases h':a=b;·subst h';simp[q20]
  ·simp[h,h']
theorem yby{a b:Val}:ltB 0 (cmpv a b)=decide (ltv b a):=by
 unfold cmpv ltB;by_cases h:ltv a b;·simp[h,qeh h]
 ·by_cases h':a=b;·subst h';simp[q20]
  ·simp[h,h',q9g (fun e=>h' e.symm) h]
theorem yae{a b:Val}:eqB (cmpv a b) 0=decide (a=b):=by
 unfold cmpv eqB;by_cases h:ltv a b;·have:a≠b:=fun e=>q20 _ (by rw[e]at h;exact h);simp[h,this]
 ·by_cases h':a=b;·subst h';simp[q20]
  ·simp[h,h']
theorem qzp:∀(a b:Val),ltS a b=decide (a<b)
 |[],[]=>by simp[ltS,Op.bytesLess]|_::_,[]=>by simp[ltS,Op.bytesLess]|[],_::_=>by simp[ltS,Op.bytesLess]|a::x,b::y=>by
  have ih:=qzp x y;unfold ltS at*;rw[Op.bytesLess,ih];by_cases h:a=b;·subst h;simp[]
  ·by_cases h2:a<b<;>simp[List.cons_lt_cons_iff,h,h2]
def vvl(x:Val):Bool:=decide (1≤x.length)&&decide (x.length≤200)
theorem qti{x:Val}:vvl x=true↔1≤x.length∧x.length≤200:=by simp[vvl]
abbrev Asc(l:List Val):Prop:=l.Pairwise ltv
theorem qfm{l:List Val}(h:Asc l):l.Nodup:=List.Pairwise.imp (fun{a b}(hab:ltv a b)=>fun(e:a=b)=>q20 a (by rw[←e]at hab;exact hab)) h
theorem qnn:∀{l m:List Val},Asc l→Asc m→(∀x,x∈l↔x∈m)→l=m
 |[],[],_,_,_=>rfl|[],y::m,_,_,h=>by simpa using(h y).2 (by simp)|x::l,[],_,_,h=>by simpa using(h x).1 (by simp)|x::l,y::m,hl,hm,h=>by
  obtain⟨a1,a2⟩:=List.pairwise_cons.1 hl;obtain⟨b1,b2⟩:=List.pairwise_cons.1 hm;have hxy:x=y:=by
   rcases List.mem_cons.1 ((h x).1 (by simp))with e|e;·exact e
   ·rcases List.mem_cons.1 ((h y).2 (by simp))with e'|e';·exact e'.symm
    ·exact absurd (a1 y e') (qeh (b1 x e))
  subst hxy;congr 1;refine qnn a2 b2 fun z=>?_;have hz:=h z;simp only[List.mem_cons]at hz;constructor
  ·intro g;rcases hz.1 (.inr g)with e|e;·exact absurd (a1 z g) (by rw[e];exact q20 _)
   ·exact e
  ·intro g;rcases hz.2 (.inr g)with e|e;·exact absurd (b1 z g) (by rw[e];exact q20 _)
   ·exact e
def insV:List Val→Val→List Val|[],x=>[x]|y::r,x=>if ltv x y then x::y::r else y::insV r x
theorem q95{x z:Val}:∀{l:List Val},z∈insV l x↔z=x∨z∈l
 |[]=>by simp[insV]|y::r=>by
  rw[insV];split;·simp
  ·rw[List.mem_cons,q95 (l:=r),List.mem_cons];constructor<;>(rintro(h|h|h)<;>simp[h])
theorem qhz{x:Val}:∀{l:List Val},Asc l→x∉l→Asc (insV l x)
 |[],_,_=>by simp[insV,Asc]|y::r,h,hx=>by
  obtain⟨h1,h2⟩:=List.pairwise_cons.1 h;rw[insV];split
  ·rename_i hxy;refine List.pairwise_cons.2 ⟨fun z hz=>?_,h⟩;rcases List.mem_cons.1 hz with e|hz;·rw[e];exact hxy
   ·exact q4e hxy (h1 z hz)
  ·rename_i hxy;refine List.pairwise_cons.2 ⟨fun z hz=>?_,qhz h2 fun g=>hx (by simp[g])⟩;rcases q95.1 hz with e|hz;·rw[e];exact q9g (fun e=>hx (by simp[e])) hxy
   ·exact h1 z hz
theorem qhq{x:Val}:∀{l:List Val},(insV l x).length=l.length+1|[]=>rfl|y::r=>by rw[insV];split<;>simp[qhq]
theorem qzz{x:Val}:∀{l:List Val}{i:Nat},Asc l→i≤l.length→(∀y∈l.take i,ltv y x)→(∀y∈l.drop i,ltv x y)→insV l x=l.take i++x::l.drop i|[],i,_,_,_,_=>by simp[insV]|y::r,0,_,_,_,h2=>by rw[insV,if_pos (h2 y (by simp))];rfl|y::r,i+1,h,hi,h1,h2=>by rw[insV,if_neg (qeh (h1 y (by simp))),qzz (i:=i) (List.pairwise_cons.1 h).2 (by simpa using hi) (fun z hz=>h1 z (by simp[hz])) (fun z hz=>h2 z (by simpa using hz))];rfl
def putV(l:List Val)(x:Val):List Val:=if x∈l∨40≤l.length then l else insV l x
theorem y7d{l:List Val}{x:Val}(h:Asc l):Asc (putV l x):=by
 unfold putV;split;·exact h
 ·exact qhz h fun g=>by simp_all
theorem qba{l:List Val}{x y:Val}(h:y∈l):y∈putV l x:=by
 unfold putV;split;·exact h
 ·exact q95.2 (.inr h)
theorem qbh{l:List Val}{x y:Val}(h:y∈putV l x):y∈l∨y=x:=by
 unfold putV at h;split at h;·exact .inl h
 ·rcases q95.1 h with h|h;·exact .inr h
  ·exact .inl h
theorem y6p{l:List Val}{x:Val}(h:l.length<40):x∈putV l x:=by
 unfold putV;split
 ·rename_i g;rcases g with g|g;·exact g
  ·omega
 ·exact q95.2 (.inl rfl)
theorem y5q{l:List Val}{x:Val}(h:l.length≤40):(putV l x).length≤40:=by
 unfold putV;split;·exact h
 ·rename_i g;rw[qhq];have:¬40≤l.length:=fun e=>g (.inr e);omega
theorem qx6{l:List Val}{x:Val}(h:l.length<40)(hx:x∉l):(putV l x).length=l.length+1:=by rw[putV,if_neg (by simp[hx];omega),qhq]
def setV(l:List Val):List Val:=l.foldr (fun x r=>if x∈r then r else insV r x) []
theorem q4g{z:Val}:∀{l:List Val},z∈setV l↔z∈l
 |[]=>by simp[setV]|x::l=>by
  show z∈(if x∈setV l then setV l else insV (setV l) x)↔_;split
  ·rename_i h;rw[q4g,List.mem_cons];constructor;·exact .inr
   ·rintro(e|e);·rw[e];exact q4g.1 h
    ·exact e
  ·rw[q95,q4g,List.mem_cons]
theorem qht:∀{l:List Val},Asc (setV l)
 |[]=>List.Pairwise.nil|x::l=>by
  show Asc (if x∈setV l then setV l else insV (setV l) x);split;·exact qht
  ·exact qhz qht (by assumption)
theorem y3i{l m:List Val}(h:Asc m)(h':∀x,x∈m↔x∈l):m=setV l:=qnn h qht fun x=>by rw[h',q4g]
def plV:Option Val→List Val→Bool|_,[]=>true|none,y::r=>vvl y&&plV (some y) r|some z,y::r=>vvl y&&(decide (ltv z y)&&plV (some y) r)
def q18(l:List Val):Bool:=plV none l&&decide (l.length≤40)
theorem y34:∀{o:Option Val}{l:List Val},plV o l=true↔(∀x∈l,vvl x=true)∧(∀z,o=some z→∀x∈l,ltv z x)∧Asc l
 |o,[]=>by cases o<;>simp[plV]|o,y::r=>by
  have ih:=y34 (o:=some y) (l:=r);have h1:plV o (y::r)=true↔vvl y=true∧(∀z,o=some z→ltv z y)∧plV (some y) r=true:=by cases o<;>simp[plV]
  rw[h1,ih,show Asc (y::r)↔_ from List.pairwise_cons];constructor
  ·rintro⟨g1,g2,g3,g4,g5⟩;refine⟨fun x hx=>?_,fun k hk x hx=>?_,g4 _ rfl,g5⟩
   ·rcases List.mem_cons.1 hx with e|hx;·subst e;exact g1
    ·exact g3 x hx
   ·rcases List.mem_cons.1 hx with e|hx;·subst e;exact g2 k hk
    ·exact q4e (g2 k hk) (g4 _ rfl x hx)
  ·rintro⟨g1,g2,g3,g4⟩;exact⟨g1 y (by simp),fun k hk=>g2 k hk y (by simp),fun x hx=>g1 x (by simp[hx]),fun k hk x hx=>by cases hk;exact g3 x hx,g4⟩
theorem q0h{l:List Val}:q18 l=true↔(∀x∈l,vvl x=true)∧Asc l∧l.length≤40:=by
 rw[q18,aT,y34,dT'];constructor;·rintro⟨⟨a,_,b⟩,c⟩;exact⟨a,b,c⟩
 ·rintro⟨a,b,c⟩;exact⟨⟨a,fun z hz=>by simp at hz,b⟩,c⟩
theorem q50{l:List Val}{x:Val}(h:q18 l=true)(hx:vvl x=true):q18 (putV l x)=true:=by
 obtain⟨h1,h2,h3⟩:=q0h.1 h;refine q0h.2 ⟨fun y hy=>?_,y7d h2,y5q h3⟩;rcases qbh hy with hy|hy;·exact h1 y hy
 ·rw[hy];exact hx
def compV(o:Val)(l:List Val):Val:=l.foldl (fun o x=>if vvl x=true∧ltv o x then x else o) o
theorem qt3{x:Val}(h:vvl x=true):ltv [] x:=.inl (by have:=(qti.1 h).1;simp;omega)
theorem qfj:∀(l:List Val)(o:Val),(compV o l=o∨compV o l∈l∧vvl (compV o l)=true)∧¬ltv (compV o l) o∧∀x∈l,vvl x=true→¬ltv (compV o l) x
 |[],o=>⟨.inl rfl,q20 _,by simp⟩|y::l,o=>by
  have hd:compV o (y::l)=compV (if vvl y=true∧ltv o y then y else o) l:=rfl;rw[hd];split
  ·rename_i h;obtain⟨a,b,c⟩:=qfj l y;refine⟨.inr ?_,fun g=>b (q4e g h.2),fun x hx hv=>?_⟩
   ·rcases a with a|a;·rw[a];exact⟨by simp,h.1⟩
    ·exact⟨by simp[a.1],a.2⟩
   ·rcases List.mem_cons.1 hx with e|hx;·subst e;exact b
    ·exact c x hx hv
  ·rename_i h;obtain⟨a,b,c⟩:=qfj l o;refine⟨?_,b,fun x hx hv=>?_⟩
   ·rcases a with a|a;·exact .inl a
    ·exact .inr ⟨by simp[a.1],a.2⟩
   ·rcases List.mem_cons.1 hx with e|hx
    ·subst e;intro g;by_cases e:compV o l=x;·rw[e]at g;exact q20 _ g
     ·have h2:¬ltv o x:=fun g'=>h ⟨hv,g'⟩;by_cases e2:o=x;·subst e2;exact b g
      ·exact b (q4e g (q9g (fun e=>e2 e.symm) h2))
    ·exact c x hx hv
def sayN(n:Nominator):Nomination:=⟨n.Node,n.Seq,n.Trust,n.Votes,n.Accepts⟩
def nomB(m:Nomination):Bool:=inR m.Node&&(decide (1≤m.Seq)&&(valid m.Trust&&(q18 m.Votes&&q18 m.Accepts)))
theorem q1q{m:Nomination}:nomB m=true↔inR m.Node=true∧1≤m.Seq∧valid m.Trust=true∧q18 m.Votes=true∧q18 m.Accepts=true:=by simp[nomB]
def q44(n:Int):Option Int→List Nomination→Bool|_,[]=>true|none,m::r=>nomB m&&(!decide (m.Node=n)&&q44 n (some m.Node) r)|some q,m::r=>nomB m&&(!decide (m.Node=n)&&(decide (q<m.Node)&&q44 n (some m.Node) r))
theorem q35{n:Int}:∀{l:List Nomination}{q:Option Int},q44 n q l=true↔(∀m∈l,nomB m=true∧m.Node≠n)∧(∀k,q=some k→∀m∈l,k<m.Node)∧l.Pairwise (fun a b=>a.Node<b.Node)
 |[],q=>by cases q<;>simp[q44]|m::r,q=>by
  have ih:=q35 (n:=n) (l:=r) (q:=some m.Node);have h1:q44 n q (m::r)=true↔nomB m=true∧m.Node≠n∧(∀k,q=some k→k<m.Node)∧q44 n (some m.Node) r=true:=by cases q<;>simp[q44]
  rw[h1,ih,List.pairwise_cons];constructor
  ·rintro⟨g1,g2,g3,g4,g5,g6⟩;refine⟨fun x hx=>?_,fun k hk x hx=>?_,g5 _ rfl,g6⟩
   ·rcases List.mem_cons.1 hx with e|hx;·subst e;exact⟨g1,g2⟩
    ·exact g4 x hx
   ·rcases List.mem_cons.1 hx with e|hx;·subst e;exact g3 k hk
    ·exact Int.lt_trans (g3 k hk) (g5 _ rfl x hx)
  ·rintro⟨g1,g2,g3,g4⟩;exact⟨(g1 m (by simp)).1,(g1 m (by simp)).2,fun k hk=>g2 k hk m (by simp),fun x hx=>g1 x (by simp[hx]),fun k hk x hx=>by cases hk;exact g3 x hx,g4⟩
theorem qyc{n:Int}{l:List Nomination}(h:q44 n none l=true):l.length≤10:=by obtain⟨h1,_,h3⟩:=q35.1 h;have:=qcq (m:=10) (l:=l.map (·.Node)) (by decide) (fun k hk=>by obtain⟨m,hm,rfl⟩:=List.mem_map.1 hk;have:=(q1q.1 (h1 m hm).1).1;simpa[inR]using this) (List.pairwise_map.2 h3);simp at this;omega
def numsN(n:Nominator):Bool:=inR n.Node&&(decide (0≤n.Slot)&&(decide (n.Slot≤1000000)&&(decide (1≤n.Round)&&(decide (n.Round≤1000)&&(decide (1≤n.Seq)&&decide (n.Seq≤1000000))))))
def qhc(n:Nominator):Bool:=numsN n&&(valid n.Trust&&(decide (n.Own.length≤200)&&(q18 n.Votes&&(q18 n.Accepts&&(q18 n.Candidates&&(n.Candidates.all (fun x=>decide (x∈n.Accepts))&&q44 n.Node none n.Heard))))))
structure ReadyN(n:Nominator):Prop where
 node:inR n.Node=true
 slot:0≤n.Slot∧n.Slot≤1000000
 round:1≤n.Round∧n.Round≤1000
 seq:1≤n.Seq∧n.Seq≤1000000
 tr:valid n.Trust=true
 own:n.Own.length≤200
 votes:q18 n.Votes=true
 accs:q18 n.Accepts=true
 cands:q18 n.Candidates=true
 sub:∀x∈n.Candidates,x∈n.Accepts
 heard:q44 n.Node none n.Heard=true
theorem q62{n:Nominator}:qhc n=true↔ReadyN n:=by
 simp only[qhc,numsN,aT,dT',List.all_eq_true];constructor;·rintro⟨⟨h1,h2,h3,h4,h5,h6,h7⟩,h8,h9,h10,h11,h12,h13,h14⟩;exact⟨h1,⟨h2,h3⟩,⟨h4,h5⟩,⟨h6,h7⟩,h8,h9,h10,h11,h12,h13,h14⟩
 ·rintro⟨h1,⟨h2,h3⟩,⟨h4,h5⟩,⟨h6,h7⟩,h8,h9,h10,h11,h12,h13,h14⟩;exact⟨⟨h1,h2,h3,h4,h5,h6,h7⟩,h8,h9,h10,h11,h12,h13,h14⟩
def allN(n:Nominator):List Nomination:=n.Heard++[sayN n]
section
variable {n : Nominator} (h : ReadyN n)
include h
theorem ReadyN.msg:∀m∈n.Heard,nomB m=true∧m.Node≠n.Node:=(q35.1 h.heard).1
theorem ReadyN.asc:n.Heard.Pairwise (fun a b=>a.Node<b.Node):=(q35.1 h.heard).2.2
theorem ReadyN.say:nomB (sayN n)=true:=q1q.2 ⟨h.node,h.seq.1,h.tr,h.votes,h.accs⟩
theorem ReadyN.all:∀m∈allN n,nomB m=true:=fun m hm=>by
 rcases List.mem_append.1 hm with hm|hm;·exact(h.msg m hm).1
 ·simp at hm;subst hm;exact h.say
theorem ReadyN.hlen:n.Heard.length≤10:=qyc h.heard
theorem ReadyN.len:(allN n).length≤11:=by have:=h.hlen;simp[allN];omega
theorem ReadyN.alen:n.Accepts.length≤40:=(q0h.1 h.accs).2.2
theorem ReadyN.vlen:n.Votes.length≤40:=(q0h.1 h.votes).2.2
theorem ReadyN.clen:n.Candidates.length≤40:=(q0h.1 h.cands).2.2
theorem ReadyN.node':n.Node.toNat<10∧((n.Node.toNat:Nat):Int)=n.Node:=by have:=q4y h.node;omega
theorem ReadyN.avv:∀z∈n.Accepts,vvl z=true:=(q0h.1 h.accs).1
end
structure SmallN(m:Nomination):Prop where
 tr:Small m.Trust
 votes:m.Votes.length<1000000
 accs:m.Accepts.length<1000000
structure SmallR(n:Nominator):Prop where
 tr:Small n.Trust
 own:n.Own.length<1000000
 votes:n.Votes.length<1000000
 accs:n.Accepts.length<1000000
 cands:n.Candidates.length<1000000
 heard:n.Heard.length<1000000
 msgs:∀m∈n.Heard,SmallN m
theorem q4q{m:Nomination}(h:nomB m=true):SmallN m:=by obtain⟨_,_,h1,h2,h3⟩:=q1q.1 h;have:=(q0h.1 h2).2.2;have:=(q0h.1 h3).2.2;exact⟨q1v h1,by omega,by omega⟩
theorem ReadyN.small{n:Nominator}(h:ReadyN n):SmallR n:=⟨q1v h.tr,by have:=h.own;omega,by have:=h.vlen;omega,by have:=h.alen;omega,by have:=h.clen;omega,by have:=h.hlen;omega,fun m hm=>q4q (h.msg m hm).1⟩
def q4i(l:List Nomination):List Val:=l.flatMap fun m=>m.Votes++m.Accepts
def qdl(n:Nominator):List Val:=setV (q4i (allN n))
theorem qfs{x:Val}{l:List Nomination}:x∈q4i l↔∃m∈l,x∈m.Votes∨x∈m.Accepts:=by simp[q4i]
theorem qob{m:Nomination}(h:nomB m=true):∀x∈m.Votes++m.Accepts,vvl x=true:=fun x hx=>by
 obtain⟨_,_,_,h1,h2⟩:=q1q.1 h;rcases List.mem_append.1 hx with hx|hx;·exact(q0h.1 h1).1 x hx
 ·exact(q0h.1 h2).1 x hx
theorem qry{n:Nominator}(h:ReadyN n){x:Val}(hx:x∈qdl n):vvl x=true:=by obtain⟨m,hm,hx⟩:=qfs.1 (q4g.1 hx);exact qob (h.all m hm) x (List.mem_append.2 hx)
def qcc(V l:List Val):List Val:=l.foldl putV V
def leadV(n:Nominator)(V:List Val)(u:Int):List Val:=if u=n.Node then(if n.Own=[]then V else putV V n.Own)else n.Heard.foldl (fun V m=>if m.Node=u then qcc V (setV (m.Votes++m.Accepts))else V) V
def qkr(L:List Int)(n:Nominator):List Val:=L.foldl (leadV n) n.Votes
theorem q9z:∀{l V:List Val},q18 V=true→(∀x∈l,vvl x=true)→q18 (qcc V l)=true|[],V,h,_=>h|x::l,V,h,hl=>by have h1:=q50 h (hl x (by simp));exact q9z (l:=l) (V:=putV V x) h1 fun y hy=>hl y (by simp[hy])
theorem qlu:∀{l V:List Val}{x:Val},x∈V→x∈qcc V l|[],_V,_x,h=>h|_y::l,_V,_x,h=>qlu (l:=l) (qba h)
theorem qm2:∀{l V:List Val}{x:Val},x∈qcc V l→x∈V∨x∈l
 |[],V,x,h=>.inl h|y::l,V,x,h=>by
  rcases qm2 (l:=l) h with h|h
  ·rcases qbh h with h|h;·exact .inl h
   ·exact .inr (by simp[h])
  ·exact .inr (by simp[h])
theorem qgz{u:Int}:∀{l:List Nomination}{V:List Val},q18 V=true→(∀m∈l,nomB m=true)→q18 (l.foldl (fun V m=>if m.Node=u then qcc V (setV (m.Votes++m.Accepts))else V) V)=true
 |[],V,h,_=>h|m::l,V,h,hm=>by
  rw[List.foldl_cons];refine qgz ?_ fun k hk=>hm k (by simp[hk]);split;·exact q9z h fun x hx=>qob (hm m (by simp)) x (q4g.1 hx)
  ·exact h
theorem qmb{u:Int}:∀{l:List Nomination}{V:List Val}{x:Val},x∈V→x∈l.foldl (fun V m=>if m.Node=u then qcc V (setV (m.Votes++m.Accepts))else V) V
 |[],V,x,h=>h|m::l,V,x,h=>by
  rw[List.foldl_cons];refine qmb ?_;split;·exact qlu h
  ·exact h
theorem qlr{u:Int}:∀{l:List Nomination}{V:List Val}{x:Val},x∈l.foldl (fun V m=>if m.Node=u then qcc V (setV (m.Votes++m.Accepts))else V) V→x∈V∨∃m∈l,m.Node=u∧(x∈m.Votes∨x∈m.Accepts)
 |[],V,x,h=>.inl h|m::l,V,x,h=>by
  rw[List.foldl_cons]at h;rcases qlr h with h|⟨k,h1,h2⟩
  ·split at h
   ·rename_i hu;rcases qm2 h with h|h;·exact .inl h
    ·exact .inr ⟨m,by simp,hu,List.mem_append.1 (q4g.1 h)⟩
   ·exact .inl h
  ·exact .inr ⟨k,by simp[h1],h2⟩
section
variable {n : Nominator} (h : ReadyN n)
include h
theorem qk9{V:List Val}{u:Int}(hV:q18 V=true):q18 (leadV n V u)=true:=by
 unfold leadV;split
 ·split;·exact hV
  ·rename_i ho;have:=h.own;have:n.Own.length≠0:=fun e=>ho (List.length_eq_zero_iff.1 e);exact q50 hV (qti.2 ⟨by omega,by omega⟩)
 ·exact qgz hV fun m hm=>(h.msg m hm).1
theorem qk7:∀{L:List Int}{V:List Val},q18 V=true→q18 (L.foldl (leadV n) V)=true|[],_V,hV=>hV|_u::L,_V,hV=>qk7 (L:=L) (qk9 h hV)
theorem qr2(L:List Int):q18 (qkr L n)=true:=qk7 h h.votes
theorem ReadyN.withV{V:List Val}(hV:q18 V=true):ReadyN {n with Votes:=V}:=⟨h.node,h.slot,h.round,h.seq,h.tr,h.own,hV,h.accs,h.cands,h.sub,h.heard⟩
end
theorem y3u{n:Nominator}{V:List Val}{u:Int}{x:Val}(hx:x∈V):x∈leadV n V u:=by
 unfold leadV;split
 ·split;·exact hx
  ·exact qba hx
 ·exact qmb hx
theorem qpj{n:Nominator}{x:Val}:∀{L:List Int}{V:List Val},x∈V→x∈L.foldl (leadV n) V|[],_V,hV=>hV|_u::L,_V,hV=>qpj (L:=L) (y3u hV)
theorem qyy{n:Nominator}{x:Val}(L:List Int)(hx:x∈n.Votes):x∈qkr L n:=qpj hx
def msgOf(m:Nomination):Message:=⟨m.Node,m.Seq,m.Trust,[],[]⟩
def viewN(n:Nominator):Config:=viewC n.Node n.Trust (n.Heard.map msgOf)
theorem y5e{m:Nomination}(h:nomB m=true):msgB (msgOf m)=true:=by obtain⟨h1,h2,h3,_⟩:=q1q.1 h;exact qnw.2 ⟨h1,h2,h3,rfl,rfl⟩
theorem ReadyN.msgs{n:Nominator}(h:ReadyN n):∀m∈n.Heard.map msgOf,msgB m=true∧m.Node≠n.Node:=fun m hm=>by obtain⟨k,hk,rfl⟩:=List.mem_map.1 hm;exact⟨y5e (h.msg k hk).1,(h.msg k hk).2⟩
theorem ReadyN.view{n:Nominator}(h:ReadyN n):q1g (viewN n):=qtc h.tr fun m hm=>(h.msgs m hm).1
def whoN(p:Nomination→Bool)(s:Nat)(l:List Nomination):Nat:=l.foldl (fun s m=>if p m then s|||bit m.Node else s) s
def q9t(l:List Nomination)(x:Val):Nat:=whoN (fun m=>decide (x∈m.Votes)) 0 l
def accsN(l:List Nomination)(x:Val):Nat:=whoN (fun m=>decide (x∈m.Accepts)) 0 l
theorem qen(p:Nomination→Bool)(s:Nat)(m:Nomination)(l:List Nomination):whoN p s (m::l)=whoN p (if p m then s|||bit m.Node else s) l:=rfl
theorem qth(p:Nomination→Bool):∀(l:List Nomination)(s:Nat),s<1024→(∀m∈l,inR m.Node=true)→whoN p s l<1024
 |[],s,h,_=>h|m::l,s,h,hm=>by
  rw[qen];refine qth p l _ ?_ fun m hm'=>hm m (by simp[hm']);split;·exact or_lt h (qat (hm m (by simp)))
  ·exact h
theorem y0c{l:List Nomination}(hm:∀m∈l,nomB m=true)(x:Val):q9t l x<1024:=qth _ l 0 (by decide) fun m h=>(q1q.1 (hm m h)).1
theorem qeg{l:List Nomination}(hm:∀m∈l,nomB m=true)(x:Val):accsN l x<1024:=qth _ l 0 (by decide) fun m h=>(q1q.1 (hm m h)).1
def canN(n:Nominator)(x:Val):Bool:=!decide (x∈n.Accepts)&&(decide (n.Accepts.length<40)&&accB (viewN n) n.Node.toNat (q9t (allN n) x) (accsN (allN n) x))
def nextN(n:Nominator):Option Val:=(qdl n).find? (canN n)
theorem qfk{n:Nominator}{x:Val}(h:nextN n=some x):x∈qdl n∧x∉n.Accepts∧n.Accepts.length<40∧accB (viewN n) n.Node.toNat (q9t (allN n) x) (accsN (allN n) x)=true:=by have h1:=List.mem_of_find?_eq_some h;have h2:=List.find?_some h;simp only[canN,aT,Bool.not_eq_true',dT',decide_eq_false_iff_not]at h2;exact⟨h1,h2⟩
theorem qz3{n:Nominator}(h:nextN n=none):∀x∈qdl n,canN n x=false:=fun x hx=>by have:=List.find?_eq_none.1 h x hx;simpa using this
def qgh(n:Nominator)(x:Val):Nominator:={n with Accepts:=putV n.Accepts x}
def q3t:Nat→Nominator→Nominator|0,n=>n|k+1,n=>match nextN n with|none=>n|some x=>q3t k (qgh n x)
theorem ReadyN.withA{n:Nominator}(h:ReadyN n){x:Val}(hx:vvl x=true):ReadyN (qgh n x):=⟨h.node,h.slot,h.round,h.seq,h.tr,h.own,h.votes,q50 h.accs hx,h.cands,fun y hy=>qba (h.sub y hy),h.heard⟩
theorem qaf:∀(k:Nat)(n:Nominator),ReadyN n→40-n.Accepts.length<k→ReadyN (q3t k n)∧nextN (q3t k n)=none|0,n,h,hn=>by omega|k+1,n,h,hn=>by rw[q3t];cases hx:nextN n with|none=>exact⟨h,hx⟩|some x=>obtain⟨h1,h2,h3,_⟩:=qfk hx;have hv:=qry h h1;have hl:=qx6 h3 h2;exact qaf k (qgh n x) (h.withA hv) (by show 40-(putV n.Accepts x).length<k;omega)
theorem qar:∀(k:Nat)(n:Nominator),∃A,q3t k n={n with Accepts:=A}∧∀x∈n.Accepts,x∈A|0,n=>⟨n.Accepts,rfl,fun _ h=>h⟩|k+1,n=>by rw[q3t];cases nextN n with|none=>exact⟨n.Accepts,rfl,fun _ h=>h⟩|some x=>obtain⟨A,h1,h2⟩:=qar k (qgh n x);exact⟨A,h1,fun y hy=>h2 y (qba hy)⟩
def candN(n:Nominator)(C:List Val)(l:List Val):List Val:=l.foldl (fun C x=>if confB (viewN n) n.Node.toNat (accsN (allN n) x)then putV C x else C) C
def qih(n:Nominator):Nominator:={n with Candidates:=candN n n.Candidates n.Accepts}
def q1r(L:List Int)(n:Nominator):Nominator:=if n.Candidates=[]then{n with Votes:=qkr L n}else n
def q0r(L:List Int)(n:Nominator):Nominator:=qih (q3t 60 (q1r L n))
theorem qiy(n:Nominator):∀(l C:List Val),q18 C=true→(∀x∈l,vvl x=true)→q18 (candN n C l)=true
 |[],C,h,_=>h|x::l,C,h,hl=>by
  show q18 (candN n (if _ then _ else _) l)=true;refine qiy n l _ ?_ fun y hy=>hl y (by simp[hy]);split;·exact q50 h (hl x (by simp))
  ·exact h
theorem q9b(n:Nominator){y:Val}:∀(l C:List Val),y∈C→y∈candN n C l
 |[],C,h=>h|x::l,C,h=>by
  show y∈candN n (if _ then _ else _) l;refine q9b n l _ ?_;split;·exact qba h
  ·exact h
theorem qav(n:Nominator){y:Val}:∀(l C:List Val),y∈candN n C l→y∈C∨y∈l∧confB (viewN n) n.Node.toNat (accsN (allN n) y)=true
 |[],C,h=>.inl h|x::l,C,h=>by
  have h':y∈candN n (if confB (viewN n) n.Node.toNat (accsN (allN n) x)then putV C x else C) l:=h;rcases qav n l _ h' with g|g
  ·split at g
   ·rename_i hc;rcases qbh g with g|g;·exact .inl g
    ·exact .inr ⟨by simp[g],by rw[g];exact hc⟩
   ·exact .inl g
  ·exact .inr ⟨by simp[g.1],g.2⟩
theorem q5x:∀{A B:List Val},A.Nodup→(∀x∈A,x∈B)→A.length≤B.length|[],B,_,_=>by simp|x::A,B,hA,h=>by obtain⟨h1,h2⟩:=List.nodup_cons.1 hA;have hx:=h x (by simp);have ih:=q5x (B:=B.erase x) h2 fun y hy=>(List.mem_erase_of_ne (fun e=>h1 (by rw[←e];exact hy))).2 (h y (by simp[hy]));rw[List.length_erase_of_mem hx]at ih;have:=List.length_pos_of_mem hx;simp;omega
theorem q3i{A B:List Val}(hA:Asc A)(h:∀x∈A,x∈B):A.length≤B.length:=q5x (qfm hA) h
theorem qpf(n:Nominator){A:List Val}(hA:A.length≤40)(hsA:∀x∈A,vvl x=true){y:Val}:∀(l C:List Val),q18 C=true→(∀x∈C,x∈A)→(∀x∈l,x∈A)→y∈l→confB (viewN n) n.Node.toNat (accsN (allN n) y)=true→y∈candN n C l
 |[],C,_,_,_,h,_=>by simp at h|x::l,C,hC,hCA,hl,hy,hc=>by
  show y∈candN n (if _ then _ else _) l;have hxA:=hl x (by simp);by_cases e:y=x
  ·subst e;refine q9b n l _ ?_;rw[if_pos hc];by_cases g:y∈C;·exact qba g
   ·refine y6p ?_;have h1:Asc (insV C y):=qhz (q0h.1 hC).2.1 g;have h2:=q3i h1 (B:=A) fun z hz=>by
     rcases q95.1 hz with hz|hz;·rw[hz];exact hxA
     ·exact hCA z hz
    rw[qhq]at h2;omega
  ·refine qpf n hA hsA l _ ?_ ?_ (fun z hz=>hl z (by simp[hz])) (by simpa[e]using hy) hc
   ·split;·exact q50 hC (hsA x hxA)
    ·exact hC
   ·split
    ·intro z hz;rcases qbh hz with hz|hz;·exact hCA z hz
     ·rw[hz];exact hxA
    ·exact hCA
theorem ReadyN.finish{n:Nominator}(h:ReadyN n):ReadyN (qih n):=⟨h.node,h.slot,h.round,h.seq,h.tr,h.own,h.votes,h.accs,qiy n _ _ h.cands h.avv,fun x hx=>by
  rcases qav n _ _ hx with hx|hx;·exact h.sub x hx
  ·exact hx.1,h.heard⟩
theorem ReadyN.listen{n:Nominator}(h:ReadyN n)(L:List Int):ReadyN (q1r L n):=by
 unfold q1r;split;·exact h.withV (qr2 h L)
 ·exact h
theorem ReadyN.settle{n:Nominator}(h:ReadyN n)(L:List Int):ReadyN (q0r L n):=((qaf 60 _ (h.listen L) (by omega)).1).finish
noncomputable def turnN(b w:Nominator):Nominator:=if b.Trust=w.Trust∧b.Votes=w.Votes∧b.Accepts=w.Accepts then w else{w with Seq:=w.Seq+1}
def q1w(m:Nomination):List Nomination→List Nomination|[]=>[m]|x::r=>if x.Node<m.Node then x::q1w m r else if x.Node=m.Node then m::r else m::x::r
def oldN(l:List Nomination)(m:Nomination):Bool:=l.any fun x=>decide (x.Node=m.Node)&&decide (m.Seq≤x.Seq)
theorem qfw{m x:Nomination}:∀{l:List Nomination},x∈q1w m l→x=m∨x∈l
 |[],h=>by simp[q1w]at h;exact .inl h|y::r,h=>by
  rw[q1w]at h;split at h
  ·rcases List.mem_cons.1 h with h|h;·exact .inr (by simp[h])
   ·rcases qfw h with h|h;·exact .inl h
    ·exact .inr (by simp[h])
  ·split at h
   ·rcases List.mem_cons.1 h with h|h;·exact .inl h
    ·exact .inr (by simp[h])
   ·rcases List.mem_cons.1 h with h|h;·exact .inl h
    ·exact .inr h
theorem qgd{n:Int}{m:Nomination}(hm:nomB m=true)(hn:m.Node≠n):∀{l:List Nomination}{q:Option Int},q44 n q l=true→(∀k,q=some k→k<m.Node)→q44 n q (q1w m l)=true
 |[],q,_,hq=>by cases q with|none=>simp[q1w,q44,hm,hn]|some k=>simp[q1w,q44,hm,hn,hq k rfl]
 |y::r,q,h,hq=>by
  have hi:=q35.1 h;rw[q1w];split
  ·rename_i hlt;have hr:q44 n (some y.Node) r=true:=by rw[List.pairwise_cons]at hi;exact q35.2 ⟨fun x hx=>hi.1 x (by simp[hx]),fun k hk x hx=>by cases hk;exact hi.2.2.1 x hx,hi.2.2.2⟩
   have ih:=qgd hm hn hr (fun k hk=>by cases hk;exact hlt);have hj:=q35.1 ih;refine q35.2 ⟨fun x hx=>?_,fun k hk x hx=>?_,List.pairwise_cons.2 ⟨fun x hx=>hj.2.1 _ rfl x hx,hj.2.2⟩⟩
   ·rcases List.mem_cons.1 hx with e|hx;·subst e;exact hi.1 x (by simp)
    ·exact hj.1 x hx
   ·have hy:=hi.2.1 k hk y (by simp);rcases List.mem_cons.1 hx with e|hx;·subst e;exact hy
    ·exact Int.lt_trans hy (hj.2.1 _ rfl x hx)
  ·rename_i hge;rw[List.pairwise_cons]at hi;split
   ·rename_i heq;refine q35.2 ⟨fun x hx=>?_,fun k hk x hx=>?_,List.pairwise_cons.2 ⟨fun x hx=>by rw[←heq];exact hi.2.2.1 x hx,hi.2.2.2⟩⟩
    ·rcases List.mem_cons.1 hx with e|hx;·subst e;exact⟨hm,hn⟩
     ·exact hi.1 x (by simp[hx])
    ·rcases List.mem_cons.1 hx with e|hx;·subst e;exact hq k hk
     ·exact hi.2.1 k hk x (by simp[hx])
   ·rename_i hne;have hlt:m.Node<y.Node:=by omega
    refine q35.2 ⟨fun x hx=>?_,fun k hk x hx=>?_,List.pairwise_cons.2 ⟨fun x hx=>?_,List.pairwise_cons.2 hi.2.2⟩⟩
    ·rcases List.mem_cons.1 hx with e|hx;·subst e;exact⟨hm,hn⟩
     ·exact hi.1 x hx
    ·rcases List.mem_cons.1 hx with e|hx;·subst e;exact hq k hk
     ·exact hi.2.1 k hk x hx
    ·rcases List.mem_cons.1 hx with e|hx;·subst e;exact hlt
     ·exact Int.lt_trans hlt (hi.2.2.1 x hx)
def posN(k:Int):List Nomination→Nat|[]=>0|x::r=>if x.Node<k then posN k r+1 else 0
theorem qsp(k:Int):∀l:List Nomination,posN k l≤l.length
 |[]=>Nat.le_refl _|x::r=>by
  rw[posN];split;·simp;exact qsp k r
  ·simp
theorem qfi{k:Int}:∀{l:List Nomination},l.Pairwise (fun a b=>a.Node<b.Node)→∀(i:Nat)(x:Nomination),l[i]?=some x→(x.Node<k↔i<posN k l)|[],_,i,x,h=>by simp at h|y::r,hp,i,x,h=>by rw[List.pairwise_cons]at hp;rw[posN];cases i with|zero=>simp at h;subst h;split<;>simp_all|succ i=>
   have h':r[i]?=some x:=by simpa using h
   have hyx:=hp.1 x (List.mem_of_getElem? h');split;·rw[qfi hp.2 i x h'];omega
   ·constructor;·intro g;omega
    ·intro g;omega
def q7x(k:Int)(l:List Nomination):Bool:=match l[posN k l]? with|some x=>decide (x.Node=k)|none=>false
theorem qig{m:Nomination}:∀{l:List Nomination},q1w m l=if q7x m.Node l=true then l.set (posN m.Node l) m else l.take (posN m.Node l)++m::l.drop (posN m.Node l)
 |[]=>by simp[q1w,q7x,posN]|x::r=>by
  rw[q1w];by_cases h1:x.Node<m.Node
  ·have hp:posN m.Node (x::r)=posN m.Node r+1:=by rw[posN,if_pos h1]
   have hf:q7x m.Node (x::r)=q7x m.Node r:=by simp[q7x,hp]
   rw[if_pos h1,qig (l:=r),hp,hf];split<;>simp
  ·have hp:posN m.Node (x::r)=0:=by rw[posN,if_neg h1]
   have hf:q7x m.Node (x::r)=decide (x.Node=m.Node):=by simp[q7x,hp]
   rw[if_neg h1,hp,hf];by_cases h2:x.Node=m.Node<;>simp[h2]
theorem qmo{m:Nomination}{l:List Nomination}(hp:l.Pairwise (fun a b=>a.Node<b.Node)):oldN l m=match l[posN m.Node l]? with|some x=>decide (x.Node=m.Node)&&decide (m.Seq≤x.Seq)|none=>false:=by cases hx:l[posN m.Node l]? with|none=>rw[oldN,List.any_eq_false];intro x hx';obtain⟨i,hi,rfl⟩:=List.mem_iff_getElem.1 hx';have h1:=(qfi (k:=m.Node) hp i l[i] (by simp[hi]));have h2:=List.getElem?_eq_none_iff.1 hx;have:l[i].Node<m.Node:=h1.2 (by omega);simp;omega|some y=>
  show oldN l m=(decide (y.Node=m.Node)&&decide (m.Seq≤y.Seq));rw[oldN,Bool.eq_iff_iff,List.any_eq_true];constructor
  ·rintro⟨x,hx',h⟩;simp only[aT,dT']at h;obtain⟨i,hi,rfl⟩:=List.mem_iff_getElem.1 hx';have h1:=(qfi (k:=m.Node) hp i l[i] (by simp[hi]));have h3:=(qfi (k:=m.Node) hp _ y hx);have hge:posN m.Node l≤i:=by
    have:¬l[i].Node<m.Node:=by omega
    rw[h1]at this;omega
   have hpl:=(List.getElem?_eq_some_iff.1 hx).1;have:i=posN m.Node l:=by
    by_cases e:i=posN m.Node l;·exact e
    ·have hlt:posN m.Node l<i:=by omega
     have:=List.pairwise_iff_getElem.1 hp _ _ hpl hi hlt;have h4:l[posN m.Node l]=y:=(List.getElem?_eq_some_iff.1 hx).2;rw[h4]at this;have:¬y.Node<m.Node:=by rw[h3];omega
     omega
   subst this;have h4:l[posN m.Node l]=y:=(List.getElem?_eq_some_iff.1 hx).2;rw[h4]at h;simp[h]
  ·intro h;exact⟨y,List.mem_of_getElem? hx,h⟩
theorem qd0{m:Nomination}:∀{l:List Nomination},m∈q1w m l
 |[]=>by simp[q1w]|x::r=>by
  rw[q1w];split;·exact List.mem_cons_of_mem _ qd0
  ·split<;>simp
theorem ql4{m x:Nomination}(hx:x.Node≠m.Node):∀{l:List Nomination},x∈l→x∈q1w m l
 |[],h=>by simp at h|y::r,h=>by
  rw[q1w];rcases List.mem_cons.1 h with e|h
  ·subst e;split;·simp
   ·simp
  ·split;·exact List.mem_cons_of_mem _ (ql4 hx h)
   ·split;·exact List.mem_cons_of_mem _ h
    ·simp[h]
theorem ReadyN.withH{n:Nominator}(h:ReadyN n){m:Nomination}(hm:nomB m=true)(hn:m.Node≠n.Node):ReadyN {n with Heard:=q1w m n.Heard}:=⟨h.node,h.slot,h.round,h.seq,h.tr,h.own,h.votes,h.accs,h.cands,h.sub,qgd hm hn h.heard (fun k hk=>by cases hk)⟩
theorem ReadyN.withR{n:Nominator}(h:ReadyN n){r:Int}(h1:1≤r)(h2:r≤1000):ReadyN {n with Round:=r}:=⟨h.node,h.slot,⟨h1,h2⟩,h.seq,h.tr,h.own,h.votes,h.accs,h.cands,h.sub,h.heard⟩
theorem ReadyN.withS{n:Nominator}(h:ReadyN n){s:Int}(h1:1≤s)(h2:s≤1000000):ReadyN {n with Seq:=s}:=⟨h.node,h.slot,h.round,⟨h1,h2⟩,h.tr,h.own,h.votes,h.accs,h.cands,h.sub,h.heard⟩
theorem qzi(n:Nominator)(x:Val):q9t (allN n) x=if x∈n.Votes then q9t n.Heard x|||bit n.Node else q9t n.Heard x:=by simp[q9t,whoN,allN,List.foldl_append,sayN]
theorem qrx(n:Nominator)(x:Val):accsN (allN n) x=if x∈n.Accepts then accsN n.Heard x|||bit n.Node else accsN n.Heard x:=by simp[accsN,whoN,allN,List.foldl_append,sayN]
theorem qyj(n:Nominator):q4i (allN n)=q4i n.Heard++(n.Votes++n.Accepts):=by simp[q4i,allN,sayN]
theorem y3y{n w:Nominator}(h1:n.Node=w.Node)(h2:n.Trust=w.Trust)(h3:n.Votes=w.Votes)(h4:n.Accepts=w.Accepts)(h5:n.Heard=w.Heard)(x:Val):canN n x=canN w x:=by simp only[canN,viewN,qzi,qrx,h1,h2,h3,h4,h5]
theorem qme{n w:Nominator}(h1:n.Node=w.Node)(h2:n.Trust=w.Trust)(h3:n.Votes=w.Votes)(h4:n.Accepts=w.Accepts)(h5:n.Heard=w.Heard):nextN n=nextN w:=by simp only[nextN,qdl,qyj,h3,h4,h5];congr 1;funext x;exact y3y h1 h2 h3 h4 h5 x
def confN(n:Nominator)(x:Val):Bool:=confB (viewN n) n.Node.toNat (accsN (allN n) x)
theorem qbx{n w:Nominator}(h1:n.Node=w.Node)(h2:n.Trust=w.Trust)(h4:n.Accepts=w.Accepts)(h5:n.Heard=w.Heard)(x:Val):confN n x=confN w x:=by simp only[confN,viewN,qrx,h1,h2,h4,h5]
structure SetN(n:Nominator):Prop where
 next:nextN n=none
 conf:∀x∈n.Accepts,confN n x=true→x∈n.Candidates
theorem q5p(L:List Int)(n:Nominator):∃A C,q0r L n={n with Votes:=(q1r L n).Votes,Accepts:=A,Candidates:=C}∧(∀x∈n.Votes,x∈(q1r L n).Votes)∧(∀x∈n.Accepts,x∈A)∧(∀x∈n.Candidates,x∈C):=by
 obtain⟨A,h1,h2⟩:=qar 60 (q1r L n);have h3:q1r L n={n with Votes:=(q1r L n).Votes}:=by unfold q1r;split<;>rfl
 refine⟨A,candN (q3t 60 (q1r L n)) (q3t 60 (q1r L n)).Candidates (q3t 60 (q1r L n)).Accepts,?_,fun x hx=>?_,fun x hx=>h2 x (by rw[h3];exact hx),fun x hx=>q9b _ _ _ ?_⟩;·show qih (q3t 60 (q1r L n))=_;unfold qih;rw[h1,h3]
 ·unfold q1r;split;·exact qyy L hx
  ·exact hx
 ·rw[h1,h3];exact hx
theorem qge{n:Nominator}(h:ReadyN n)(L:List Int):SetN (q0r L n):=by
 obtain⟨h1,h2⟩:=qaf 60 _ (h.listen L) (by omega);refine⟨?_,fun x hx hc=>?_⟩;·rw[←h2];exact qme rfl rfl rfl rfl rfl
 ·have hc':confN (q3t 60 (q1r L n)) x=true:=by rw[←hc];exact qbx rfl rfl rfl rfl x
  exact qpf _ h1.alen h1.avv _ _ h1.cands h1.sub (fun _ g=>g) hx hc'
theorem qe4{n:Nominator}(L:List Int){x:Val}(hx:x∈(q0r L n).Candidates):x∈n.Candidates∨x∈(q0r L n).Accepts∧confN (q0r L n) x=true:=by
 obtain⟨A,h1,h2⟩:=qar 60 (q1r L n);have h3:(q1r L n).Candidates=n.Candidates:=by unfold q1r;split<;>rfl
 rcases qav _ _ _ hx with g|g;·left;rw[h1]at g;rw[←h3];exact g
 ·right;refine⟨g.1,?_⟩;rw[←g.2];exact qbx rfl rfl rfl rfl x
theorem SetN.cong{n w:Nominator}(h:SetN n)(h1:n.Node=w.Node)(h2:n.Trust=w.Trust)(h3:n.Votes=w.Votes)(h4:n.Accepts=w.Accepts)(h5:n.Heard=w.Heard)(h6:n.Candidates=w.Candidates):SetN w:=⟨by rw[←qme h1 h2 h3 h4 h5];exact h.next,fun x hx hc=>by rw[←h6];exact h.conf x (by rw[h4];exact hx) (by rw[←hc];exact qbx h1 h2 h4 h5 x)⟩
def q9s:Nominator:=⟨0,0,0,0,⟨0,[],[]⟩,[],[],[],[],[]⟩
theorem q7o(b w:Nominator):∃s:Int,(s=w.Seq∨s=w.Seq+1)∧turnN b w={w with Seq:=s}∧(s=w.Seq↔b.Trust=w.Trust∧b.Votes=w.Votes∧b.Accepts=w.Accepts):=by
 unfold turnN;split;·rename_i h;exact⟨w.Seq,.inl rfl,rfl,fun _=>h,fun _=>rfl⟩
 ·rename_i h;exact⟨w.Seq+1,.inr rfl,rfl,fun e=>by omega,fun e=>absurd e h⟩
structure StepN(n w:Nominator):Prop where
 node:w.Node=n.Node
 slot:w.Slot=n.Slot
 seq:w.Seq=n.Seq∨w.Seq=n.Seq+1
 votes:∀x∈n.Votes,x∈w.Votes
 accs:∀x∈n.Accepts,x∈w.Accepts
 cands:∀x∈n.Candidates,x∈w.Candidates
 ready:w.Seq≤1000000→ReadyN w
 chg:w.Seq=n.Seq↔n.Trust=w.Trust∧n.Votes=w.Votes∧n.Accepts=w.Accepts
theorem qft{n u:Nominator}(hu:ReadyN u)(L:List Int)(h1:u.Node=n.Node)(h2:u.Slot=n.Slot)(h3:u.Seq=n.Seq)(h4:u.Votes=n.Votes)(h5:u.Accepts=n.Accepts)(h6:u.Candidates=n.Candidates):StepN n (turnN n (q0r L u))∧SetN (turnN n (q0r L u)):=by
 obtain⟨s,g1,g2,g3⟩:=q7o n (q0r L u);obtain⟨A,C,f1,f2,f3,f4⟩:=q5p L u;have hr:=hu.settle L;have hs:=qge hu L;have hq:=hu.seq;rw[g2];refine⟨⟨?_,?_,?_,?_,?_,?_,fun hle=>?_,?_⟩,hs.cong rfl rfl rfl rfl rfl rfl⟩;·show(q0r L u).Node=_;rw[f1];exact h1
 ·show(q0r L u).Slot=_;rw[f1];exact h2
 ·show s=_∨s=_;rw[f1]at g1;rw[←h3];exact g1
 ·intro x hx;show x∈(q0r L u).Votes;rw[f1];exact f2 x (by rw[h4];exact hx)
 ·intro x hx;show x∈(q0r L u).Accepts;rw[f1];exact f3 x (by rw[h5];exact hx)
 ·intro x hx;show x∈(q0r L u).Candidates;rw[f1];exact f4 x (by rw[h6];exact hx)
 ·have e1:(q0r L u).Seq=u.Seq:=by rw[f1]
  refine hr.withS ?_ hle;rw[e1]at g1;omega
 ·show s=n.Seq↔n.Trust=(q0r L u).Trust∧_;rw[←g3,f1];show s=n.Seq↔s=u.Seq;rw[h3]
end Go.Proofs.YtglokalgdbegeaaGreat
namespace Go.Proofs.YtglokalgdbegeaaGreat
open Go Go.Ab Go.Sort
theorem qk4(x:Val):z59 x=some (vvl x):=by
 apply ydo;unfold leB vvl;by_cases h:1≤x.length
 ·have:(1:Int)≤((x.length:Nat):Int):=by omega
  simp only[h,this,decide_true,cT,tA'];congr 1;by_cases h2:x.length≤200
  ·have:((x.length:Nat):Int)≤200:=by omega
   simp[h2,this]
  ·have:¬((x.length:Nat):Int)≤200:=by omega
   simp[h2,this]
 ·have:¬(1:Int)≤((x.length:Nat):Int):=by omega
  simp only[h,this,decide_false,cF,Bool.false_and]
theorem y2p(a b:Val):z4z a b=some (if a<b then-1 else if a=b then 0 else 1):=by
 have hn:∀z,z4p z=some false:=fun z=>ygz _ _ (by simp[eqS]);apply ycc;rw[hn,hn];simp only[bS,cF,qzp,leS];have h1:Op.bytesLess a b=decide (a<b):=qzp a b;rw[h1];by_cases h:a<b;·simp[h]
 ·by_cases h':a=b;·subst h';simp[qlk]
  ·simp[h,h']
theorem qeu(a b:Val):z06 a b=some (cmpv a b):=by
 apply yg5;rw[qdg,y2p];simp only[bS,qvk];congr 1;unfold cmpv ltv;by_cases h1:a.length<b.length
 ·have:((a.length:Nat):Int)<((b.length:Nat):Int):=by omega
  simp[h1]
 ·by_cases h2:b.length<a.length
  ·have hne:a.length≠b.length:=by omega
   have hab:a≠b:=fun e=>hne (by rw[e]);simp[h1,h2,hne,hab]
  ·have he:a.length=b.length:=by omega
   simp[he]
theorem qxd(l:List Val)(hl:l.length<1152921504606846976):∀(suf:List Val)(i:Nat)(z:Val),l[i]?=some z→l.drop (i+1)=suf→z23 l l ((l.length:Nat):Int) ((i+1:Nat):Int)=some (plV (some z) suf&&decide (l.length≤40))
 |[],i,z,hz,h=>by
  apply qxm;rw[q0j h,cF];unfold leB plV;congr 1;by_cases h2:l.length≤40
  ·have:((l.length:Nat):Int)≤40:=by omega
   simp[h2,this]
  ·have:¬((l.length:Nat):Int)≤40:=by omega
   simp[h2,this]|y::suf,i,z,hz,h=>by have hlt:=q0e h;apply qxm;rw[q07 h,cT,q06 h,qk4,bS,q02 (by omega),cT,q2u (by omega) (by omega),q0l (y:=z) (by omega) (by rw[show(((i+1:Nat):Int)-1).toNat=i by omega];exact hz),qeu,bS,yap,q01 (by omega),qxd l hl suf (i+1) y (by have:=congrArg (·[0]?) h;simpa using this) (q03 h)];rw[plV];cases vvl y<;>by_cases hc:ltv z y<;>simp[hc]
theorem qeo(l:List Val)(hl:l.length<1152921504606846976):z31 l=some (q18 l):=by apply yex;unfold q18;cases l with|nil=>apply qxm;simp[ltB,plV,leB]|cons y r=>apply qxm;have h0:ltB 0 (((y::r).length:Nat):Int)=true:=q02 (by rw[List.length_cons];omega);rw[h0,cT,q0l (y:=y) (by omega) rfl,qk4,bS,q00 (by omega),cF,show addI .i64 0 1=((0+1:Nat):Int)from rfl,qxd (y::r) hl r 0 y rfl rfl,plV];cases vvl y<;>simp
theorem qvx(l:List Val)(hl:l.length<1152921504606846976)(x:Val):∀(suf:List Val)(i:Nat),l.drop i=suf→∃r:Int,z1g l x ((l.length:Nat):Int) (i:Int)=some r∧leB 0 r=decide (x∈suf)
 |[],i,h=>by refine⟨-1,y2v _ _ _ _ _ ?_,by simp[leB]⟩;rw[q0j h];simp|y::suf,i,h=>by
  have hlt:=q0e h;obtain⟨r,h1,h2⟩:=qvx l hl x suf (i+1) (q03 h);by_cases hx:x=y;·refine⟨i,y2v _ _ _ _ _ ?_,by simp[leB,hx]⟩;rw[q07 h,cT,q06 h];simp[eqS,hx]
  ·refine⟨r,y2v _ _ _ _ _ ?_,by rw[h2];simp[hx]⟩;rw[q07 h,cT,q06 h,q01 (by omega),show eqS x y=false by simp[eqS,hx],cF,h1]
theorem qi7(l:List Val)(hl:l.length<1152921504606846976)(x:Val):z3i l x=some (decide (x∈l)):=by
 obtain⟨r,h1,h2⟩:=qvx l hl x l 0 rfl;apply ydd;have h3:z2f l x=some r:=ydi _ _ _ h1;have:z27 l x=some (decide (x∈l)):=by apply yge;rw[h3,bS,h2]
 rw[this];rfl
theorem q8d(l:List Val)(hl:l.length<1000000):z1c l=some ((),l):=yf0 _ _ (by rw[q0i (by simp[q0f];omega)];rfl)
theorem qkt(l:List Nomination)(hl:l.length<1000000):z1h l=some ((),l):=ydc _ _ (by rw[q0i (by simp[q0f];omega)];rfl)
def posV(x:Val):List Val→Nat|[]=>0|y::r=>if ltv y x then posV x r+1 else 0
theorem qo1(x:Val):∀l:List Val,posV x l≤l.length
 |[]=>Nat.le_refl _|y::r=>by
  rw[posV];split;·simp;exact qo1 x r
  ·simp
theorem qg5{x:Val}:∀{l:List Val},Asc l→∀(i:Nat)(y:Val),l[i]?=some y→(ltv y x↔i<posV x l)|[],_,i,y,h=>by simp at h|z::r,hp,i,y,h=>by have hp:=List.pairwise_cons.1 hp;rw[posV];cases i with|zero=>simp at h;subst h;split<;>simp_all|succ i=>
   have h':r[i]?=some y:=by simpa using h
   have hzy:=hp.1 y (List.mem_of_getElem? h');split;·rw[qg5 hp.2 i y h'];omega
   ·rename_i hz;constructor;·intro g;exact absurd (q4e hzy g) hz
    ·intro g;omega
theorem qvc{l:List Val}{x:Val}(h:Asc l):x∈l↔∃y,l[posV x l]?=some y∧y=x:=by
 constructor
 ·intro hx;obtain⟨i,hi⟩:=List.getElem?_of_mem hx;have h1:=qg5 (x:=x) h i x hi;have hge:posV x l≤i:=by have:¬i<posV x l:=fun e=>q20 x (h1.2 e);omega
  have hil:i<l.length:=(List.getElem?_eq_some_iff.1 hi).1;have hpl:posV x l<l.length:=by omega
  refine⟨l[posV x l],List.getElem?_eq_getElem hpl,?_⟩;have h2:=qg5 (x:=x) h _ l[posV x l] (List.getElem?_eq_getElem hpl);have h3:¬ltv l[posV x l] x:=fun e=>by have:=h2.1 e;omega
  by_cases e:posV x l=i;·rw[←e]at hi;rw[List.getElem?_eq_getElem hpl]at hi;exact Option.some.inj hi
  ·have:=List.pairwise_iff_getElem.1 h _ _ hpl hil (by omega);have hxe:l[i]=x:=(List.getElem?_eq_some_iff.1 hi).2;rw[hxe]at this;exact absurd this h3
 ·rintro⟨y,hy,rfl⟩;exact List.mem_of_getElem? hy
theorem y0t:∀i:Fin 41,∀j:Fin 41,IntKind.wrap .i64 (shrI .u64 (IntKind.wrap .u64 (addI .i64 ((i.val:Nat):Int) ((j.val:Nat):Int))) 1)=(((i.val+j.val)/2:Nat):Int):=by decide+kernel
theorem qsy{l:List Val}(hl:l.length≤40)(hp:Asc l)(x:Val):∀(n i j:Nat),j-i≤n→i≤posV x l→posV x l≤j→j≤l.length→z0c l x ((l.length:Nat):Int) (i:Int) (j:Int)=some (((posV x l:Nat):Int),decide (x∈l))
 |n,i,j,hn,hi,hj,hjl=>by
  apply yda;by_cases hij:i<j
  ·obtain⟨n,rfl⟩:∃m,n=m+1:=⟨n-1,by omega⟩;have hmid:=y0t ⟨i,by omega⟩ ⟨j,by omega⟩;dsimp only at hmid;have hml:(i+j)/2<l.length:=by omega
   have hg:l[(i+j)/2]?=some l[(i+j)/2]:=by simp[hml]
   have hpl:=qg5 (x:=x) hp _ _ hg;rw[q02 (by omega),cT,hmid,q0l (by omega) (by rw[tN];exact hg),qeu,bS,qtm];by_cases h1:ltv l[(i+j)/2] x;·rw[decide_eq_true h1,cT,q01 (by omega)];exact qsy hl hp x n ((i+j)/2+1) j (by omega) (by have:=hpl.1 h1;omega) hj hjl
   ·rw[decide_eq_false h1,cF];exact qsy hl hp x n i ((i+j)/2) (by omega) hi (by have:¬(i+j)/2<posV x l:=fun h=>h1 (hpl.2 h);omega) (by omega)
  ·have hij':i=posV x l:=by omega
   subst hij';rw[q00 (by omega),cF];by_cases he:posV x l<l.length
   ·have hg:l[posV x l]?=some l[posV x l]:=List.getElem?_eq_getElem he;rw[q02 (by omega),cT,q0l (by omega) (by rw[tN];exact hg),qeu,bS,yae];have:(l[posV x l]=x)↔x∈l:=by rw[qvc hp,hg];simp
    rw[decide_eq_decide.2 this]
   ·rw[q00 (by omega),cF];have:x∉l:=fun e=>by obtain⟨y,hy,_⟩:=(qvc hp).1 e;rw[List.getElem?_eq_none (by omega)]at hy;cases hy
    rw[decide_eq_false this]
def encV(x:Val):D:=.v (.string ⟨⟨x⟩⟩)
theorem y0i(l:List Val):(l.map encV).all (q74 1)=true:=by rw[List.all_eq_true];intro x hx;obtain⟨y,_,rfl⟩:=List.mem_map.1 hx;rfl
theorem qsu(l:List Val)(hl:l.length<1000000)(m:Val)(i:Nat)(hi:i≤l.length):z6b (i:Int) [m] l=some (l.take i++m::l.drop i,()):=by
 refine qks (T:=tn) (m:=q34 1) sigOk (by kernel_rfl) rfl ?_;show libA (q34 1) [.ref 0,.d (.v (.int .i64 i)),.d (.list [encV m])] [[.own (l.map encV) false]]=some (.d (.list ((l.take i++m::l.drop i).map encV)),[[.undef]]);unfold libA q34;have h1:(i:Int)≤((l.map encV).length:Int):=by simp;omega
 have h2:(l.map encV).length<q0f:=by simp[q0f];omega
 have h3:q74 1 (encV m)=true:=rfl;simp only[Int.natCast_nonneg,h1,h2,h3,y0i,and_self,if_true,tN];simp only[List.map_append,List.map_cons,List.map_take,List.map_drop];rfl
theorem qhs{l:List Val}{x:Val}(hl:q18 l=true):z46 l x=some (putV l x):=by
 obtain⟨_,ha,hlen⟩:=q0h.1 hl;apply yhb;have h1:z0x l x=some (((posV x l:Nat):Int),decide (x∈l)):=ygr _ _ _ (qsy hlen ha x l.length 0 l.length (by omega) (by omega) (qo1 x l) (Nat.le_refl _));rw[h1,bS];unfold putV;by_cases hx:x∈l;·simp[hx]
 ·simp only[hx,decide_false,cF,false_or];by_cases h40:40≤l.length;·rw[if_pos h40,show leB 40 ((l.length:Nat):Int)=true by unfold leB;simp;omega,cT]
  ·rw[if_neg h40,show leB 40 ((l.length:Nat):Int)=false by unfold leB;simp;omega,cF,q8d l (by omega),bS];dsimp only;rw[qsu l (by omega) x _ (qo1 x l),bS];congr 1;refine(qzz ha (qo1 x l) (fun y hy=>?_) (fun y hy=>?_)).symm
   ·obtain⟨i,hi⟩:=List.getElem?_of_mem hy;rw[List.getElem?_take]at hi;split at hi;·exact(qg5 ha i y hi).2 (by assumption)
    ·cases hi
   ·obtain⟨i,hi⟩:=List.getElem?_of_mem hy;rw[List.getElem?_drop]at hi;refine q9g (fun e=>hx (by rw[e];exact List.mem_of_getElem? hi)) fun g=>?_;have:=(qg5 ha _ y hi).1 g;omega
theorem y65(a b:Val)(h:encV a=encV b):a=b:=by cases h;rfl
theorem qs1(l:List Val)(hl:l.length<1000000):z65 l=some (q0d l,()):=by
 refine qks (T:=tn) (m:=q4s) sigOk (by kernel_rfl) rfl ?_;show libA q4s [.ref 0] [[.own (l.map encV) false]]=some (.d (.list ((q0d l).map encV)),[[.undef]]);have h1:(l.map encV).length≤q0f:=by simp[q0f];omega
 have key:q4s [.ref 0] [[.own (l.map encV) false]]=some (.d (.list (q0d (l.map encV))),[[.undef]]):=by show(if _∧_ then _ else _)=_;rw[if_pos ⟨by rw[List.all_eq_true];intro x hx;obtain⟨y,_,rfl⟩:=List.mem_map.1 hx;rfl,h1⟩]
 unfold libA;rw[key,qam (fun a b h=>y65 a b h) l];rfl
theorem q6z{x:Val}:∀{l:List Val},x∈q0d l↔x∈l
 |[]=>Iff.rfl|[y]=>Iff.rfl|y::z::r=>by
  rw[q1n];split;·rename_i e;subst e;rw[q6z (l:=y::r)];simp
  ·simp only[List.mem_cons,q6z (l:=z::r)]
theorem qa8:∀{l:List Val},l.Pairwise (fun x y=>¬ltv y x)→Asc (q0d l)
 |[],_=>List.Pairwise.nil|[y],_=>by simp[q0d]|y::z::r,h=>by
  rw[List.pairwise_cons]at h;rw[q1n];split;·exact qa8 h.2
  ·rename_i e;refine List.pairwise_cons.2 ⟨fun u hu=>?_,qa8 h.2⟩;have hyz:=q9g e (h.1 z (by simp));rcases List.mem_cons.1 (q6z.1 hu)with rfl|hu;·exact hyz
   ·by_cases e2:z=u;·subst e2;exact hyz
    ·exact q4e hyz (q9g e2 ((List.pairwise_cons.1 h.2).1 u hu))
theorem swoV:SWO (fun x y=>ltB (cmpv x y) 0):=by
 refine⟨fun x=>?_,fun x y z h h'=>?_,fun x y z h h'=>?_⟩<;>simp only[qtm,dT',decide_eq_false_iff_not]at*;·exact q20 x
 ·exact q4e h h'
 ·intro g;by_cases e:x=y;·subst e;exact h' g
  ·by_cases e2:y=z;·subst e2;exact h g
   ·exact qeh (q4e (q9g (fun e'=>e2 e'.symm) h') (q9g (fun e'=>e e'.symm) h)) g
theorem qwy(l:List Nomination)(hl:l.length≤11)(hm:∀m∈l,nomB m=true):∀(suf:List Nomination)(i:Nat)(acc:List Val),i≤l.length→l.drop i=suf→acc.length≤80*i→z3o acc l ((l.length:Nat):Int) (i:Int)=some (setV (acc++q4i suf))|[],i,acc,hi,h,ha=>by apply y8u;rw[q0j h,cF];obtain⟨ys,h3,h4,h5⟩:=yb4 qeu swoV acc (by omega);rw[h3,bS,qs1 ys (by rw[h4.length_eq];omega)];show some (q0d ys)=_;congr 1;refine y3i (qa8 (h5.imp fun h=>by simpa[qtm]using h)) fun x=>?_;rw[q6z,h4.mem_iff];simp[q4i]|y::suf,i,acc,hi,h,ha=>by have hlt:=q0e h;have hy:=hm y (List.mem_of_mem_drop (i:=i) (by rw[h];simp));obtain⟨_,_,_,hv1,hv2⟩:=q1q.1 hy;have hv1:=(q0h.1 hv1).2.2;have hv2:=(q0h.1 hv2).2.2;apply y8u;rw[q07 h,cT,q06 h,q0i (by simp[q0f];omega),q0i (by simp[q0f];omega),q01 (by omega),qwy l hl hm suf (i+1) _ (by omega) (q03 h) (by simp;omega)];simp[q4i]
theorem qv7{l:List Nomination}(hl:l.length≤11)(hm:∀m∈l,nomB m=true):z52 l=some (setV (q4i l)):=ygt _ _ (qwy l hl hm l 0 [] (by omega) rfl (by simp))
end Go.Proofs.YtglokalgdbegeaaGreat
namespace Go.Proofs.YtglokalgdbegeaaGreat
open Go Go.Ab
mutual
def wgt (k : Int) : Trust → Option (Int × Int)
 | ⟨t, ns, is⟩ => if ns.contains k then some (t, ((ns.length + is.length : Nat) : Int)) else (wgts k is).map fun p => (t * p.1, ((ns.length + is.length : Nat) : Int) * p.2)
def wgts (k : Int) : List Trust → Option (Int × Int)
 | [] => none
 | x :: r => match wgt k x with
  | some p => some p
  | none => wgts k r
end
theorem y46(k:Int)(t:Trust):wgt k t=if t.Nodes.contains k then some (t.Threshold,((t.Nodes.length+t.Inner.length:Nat):Int))else(wgts k t.Inner).map fun p=>(t.Threshold*p.1,((t.Nodes.length+t.Inner.length:Nat):Int)*p.2):=by cases t;simp only[wgt]
theorem qvv{k:Int}{p:Int×Int}:∀{l:List Trust},wgts k l=some p→∃x∈l,wgt k x=some p|[],h=>by simp[wgts]at h|x::r,h=>by rw[wgts]at h;cases hx:wgt k x with|some q=>rw[hx]at h;exact⟨x,by simp,by rw[hx];exact h⟩|none=>rw[hx]at h;obtain⟨y,h1,h2⟩:=qvv h;exact⟨y,by simp[h1],h2⟩
theorem qfg:∀{l:List Trust}{x:Trust},goods l=true→x∈l→good x=true
 |[],x,_,h=>by simp at h|y::r,x,h,hx=>by
  rw[goods,aT]at h;rcases List.mem_cons.1 hx with e|hx;·rw[e];exact h.1
  ·exact qfg h.2 hx
theorem qcu:∀{l:List Trust}{x:Trust},x∈l→depth x≤q1z l
 |[],x,h=>by simp at h|y::r,x,h=>by
  rw[q1z];rcases List.mem_cons.1 h with e|h;·rw[e];omega
  ·have:=qcu h;omega
theorem qpg(k:Int):∀(t:Trust),good t=true→size t≤200→∀p,wgt k t=some p→1≤p.1∧p.1≤p.2∧p.2≤((200^depth t:Nat):Int):=by
 apply Trust.ind;intro t ih hg hs p hp;rw[q7e]at hg;simp only[aT,dT']at hg;obtain⟨g1,g2,_,_,g5⟩:=hg;have hsz:=hs;rw[q2w]at hsz;rw[y46]at hp;rw[q70];split at hp
 ·cases hp;refine⟨g1,g2,?_⟩;have h1:1≤200^q1z t.Inner:=Nat.one_le_pow _ _ (by decide);have h2:200^(q1z t.Inner+1)=200^q1z t.Inner*200:=Nat.pow_succ ..;show((t.Nodes.length+t.Inner.length:Nat):Int)≤_;rw[h2];have:t.Nodes.length+t.Inner.length≤200^q1z t.Inner*200:=by omega
  exact Int.ofNat_le.2 this
 ·cases hw:wgts k t.Inner with|none=>rw[hw]at hp;cases hp|some q=>
   rw[hw]at hp;cases hp;obtain⟨x,hx,hxw⟩:=qvv hw;have hsx:=qi9 hx;obtain⟨a1,a2,a3⟩:=ih x hx (qfg g5 hx) (by omega) q hxw;have hdx:=qcu hx;have hpow:200^depth x≤200^q1z t.Inner:=Nat.pow_le_pow_right (by decide) hdx;have a4:q.2≤((200^q1z t.Inner:Nat):Int):=Int.le_trans a3 (Int.ofNat_le.2 hpow);generalize hn:t.Nodes.length+t.Inner.length=n at*;have hn200:(n:Int)≤200:=by omega
   refine⟨?_,?_,?_⟩;·show 1≤t.Threshold*q.1;have:=Int.mul_le_mul g1 a1 (by omega) (by omega:(0:Int)≤t.Threshold);omega
   ·show t.Threshold*q.1≤(n:Int)*q.2;exact Int.mul_le_mul g2 a2 (by omega) (by omega)
   ·show(n:Int)*q.2≤_;have:=Int.mul_le_mul hn200 a4 (by omega) (by omega:(0:Int)≤200);rw[Nat.pow_succ,Nat.mul_comm];rw[Int.natCast_mul];exact this
theorem qsn{k:Int}{t:Trust}(h:valid t=true){p:Int×Int}(hp:wgt k t=some p):1≤p.1∧p.1≤p.2∧p.2≤1600000000:=by
 simp only[valid,aT,dT']at h;obtain⟨a,b,c⟩:=qpg k t h.2.2 h.2.1 p hp;refine⟨a,b,Int.le_trans c ?_⟩;have:200^depth t≤200^4:=Nat.pow_le_pow_right (by decide) h.1;have h4:200^4=1600000000:=by decide
 rw[h4]at this;omega
theorem y1a(k s r n:Int):∃h,z5i k s r n=some h∧0≤h∧h<4294967296:=by
 have rng:∀z:Int,0≤IntKind.wrap .u32 z∧IntKind.wrap .u32 z<4294967296:=fun z=>by
  have:IntKind.wrap .u32 z=z%4294967296:=by show(if(false&&decide (z%4294967296≥2147483648))=true then z%4294967296-4294967296 else z%4294967296)=_;simp
  rw[this];omega
 exact⟨_,yf4 _ _ _ _ _ rfl,(rng _).1,(rng _).2⟩
noncomputable def hsh(k s r n:Int):Int:=(z5i k s r n).getD 0
theorem qoj(k s r n:Int):z5i k s r n=some (hsh k s r n):=by obtain⟨h,h1,_⟩:=y1a k s r n;rw[hsh,h1];rfl
theorem qk5(k s r n:Int):0≤hsh k s r n∧hsh k s r n<4294967296:=by obtain⟨h,h1,h2⟩:=y1a k s r n;rw[hsh,h1];exact h2
theorem y29(l:List Int)(hl:l.length<1152921504606846976)(x:Int):∀(suf:List Int)(i:Nat),l.drop i=suf→∃r:Int,z1o l x ((l.length:Nat):Int) (i:Int)=some r∧leB 0 r=suf.contains x
 |[],i,h=>by refine⟨-1,y2a _ _ _ _ _ ?_,by simp[leB]⟩;rw[q0j h];simp|y::suf,i,h=>by
  have hlt:=q0e h;obtain⟨r,h1,h2⟩:=y29 l hl x suf (i+1) (q03 h);by_cases hx:x=y;·refine⟨i,y2a _ _ _ _ _ ?_,by simp[leB,hx]⟩;rw[q07 h,cT,q06 h];simp[eqB,hx]
  ·refine⟨r,y2a _ _ _ _ _ ?_,by rw[h2];simp[hx]⟩;rw[q07 h,cT,q06 h,q01 (by omega),q2m hx,cF,h1]
theorem y63(l:List Int)(hl:l.length<1152921504606846976)(x:Int):z2t l x=some (l.contains x):=by obtain⟨r,h1,h2⟩:=y29 l hl x l 0 rfl;apply ycx;have h3:z3l l x=some r:=ygp _ _ _ h1;rw[h3,bS,h2]
def wFrac:Option (Int×Int)→Frac×Bool|some p=>(⟨p.1,p.2⟩,true)|none=>(⟨0,0⟩,false)
theorem y2g(k:Int)(x:Trust)(r:List Trust):wgts k (x::r)=match wgt k x with|some p=>some p|none=>wgts k r:=by rw[wgts];first|done|(cases wgt k x<;>rfl)
structure WOk(t:Trust):Prop where
 gd:good t=true
 sz:size t≤200
 dp:depth t≤4
theorem WOk.mem{t x:Trust}(h:WOk t)(hx:x∈t.Inner):WOk x∧depth x+1≤4∧t.Nodes.length+t.Inner.length≤200∧1≤t.Threshold∧t.Threshold≤200:=by obtain⟨h1,h2,h3⟩:=h;have hsx:=qi9 hx;have hdx:=qcu hx;have h1':=h1;rw[q7e]at h1';simp only[aT,dT']at h1';obtain⟨g1,g2,_,_,g5⟩:=h1';have hsz:=h2;rw[q2w]at hsz;rw[q70]at h3;exact⟨⟨qfg g5 hx,by omega,by omega⟩,by omega,by omega,g1,by omega⟩
theorem WOk.range{t:Trust}(h:WOk t){k:Int}{p:Int×Int}(hp:wgt k t=some p):1≤p.1∧p.1≤p.2∧p.2≤((200^depth t:Nat):Int):=qpg k t h.gd h.sz p hp
theorem WOk.prod{t x:Trust}(h:WOk t)(hx:x∈t.Inner){k:Int}{p:Int×Int}(hp:wgt k x=some p):mulI .i64 t.Threshold p.1=t.Threshold*p.1∧mulI .i64 ((t.Nodes.length+t.Inner.length:Nat):Int) p.2=((t.Nodes.length+t.Inner.length:Nat):Int)*p.2:=by
 obtain⟨hw,hd,hn,ht1,ht2⟩:=h.mem hx;obtain⟨r1,r2,r3⟩:=hw.range hp;have hpow:200^depth x≤200^3:=Nat.pow_le_pow_right (by decide) (by omega);have h3:(200:Nat)^3=8000000:=by decide
 generalize 200^depth x=D at*;generalize t.Nodes.length+t.Inner.length=n at*;have b1:t.Threshold*p.1≤200*8000000:=Int.mul_le_mul ht2 (by omega) (by omega) (by omega);have b2:(n:Int)*p.2≤200*8000000:=Int.mul_le_mul (by omega) (by omega) (by omega) (by omega);have b3:0≤t.Threshold*p.1:=Int.mul_nonneg (by omega) (by omega);have b4:0≤(n:Int)*p.2:=Int.mul_nonneg (by omega) (by omega);exact⟨wrap64 (by omega) (by omega),wrap64 (by omega) (by omega)⟩
theorem ybg(k:Int):∀t:Trust,WOk t→z63 t k=some (wFrac (wgt k t)):=by apply Trust.ind;intro t ih h;have hsz:=h.sz;rw[q2w]at hsz;apply yh7;rw[y63 _ (by omega),bS,q1x (by omega) (by omega),y46];cases hc:t.Nodes.contains k with|true=>simp[wFrac]|false=>
  rw[cF];have l1:∀(suf:List Trust)(i:Nat),t.Inner.drop i=suf→z3p k t.Inner ((t.Inner.length:Nat):Int) (i:Int) t.Threshold t.Nodes t.Inner 0 0 t.Threshold ((t.Nodes.length:Int)+(t.Inner.length:Int))=some (wFrac ((wgts k suf).map fun p=>(t.Threshold*p.1,((t.Nodes.length+t.Inner.length:Nat):Int)*p.2))):=by intro suf;induction suf with|nil=>intro i h';apply y8x;rw[q0j h'];simp[wgts,wFrac]|cons y suf ihs=>intro i h';have hlt:=q0e h';have hy:y∈t.Inner:=List.mem_of_mem_drop (i:=i) (by rw[h'];simp);apply y8x;rw[q07 h',cT,q06 h',ih y hy (h.mem hy).1,bS,y2g];cases hw:wgt k y with
    |some p=>
     obtain⟨p1,p2⟩:=h.prod hy hw;have e:((t.Nodes.length:Int)+(t.Inner.length:Int))=((t.Nodes.length+t.Inner.length:Nat):Int):=by omega
     rw[e];simp only[wFrac,cT];rw[p1,p2];rfl|none=>simp only[wFrac,cF];rw[q01 (by omega)];exact ihs (i+1) (q03 h')
  exact(l1 t.Inner 0 rfl).trans (by simp)
theorem WOk.of{t:Trust}(h:valid t=true):WOk t:=by simp only[valid,aT,dT']at h;exact⟨h.2.2,h.2.1,h.1⟩
noncomputable def nghB(t:Trust)(v slot round k:Int):Bool:=decide (k=v)||match wgt k t with|some p=>decide (hsh 1 slot round k*p.2<p.1*4294967296)|none=>false
theorem qqn{n:Int}(h0:0≤n)(h:n<18446744073709551616):IntKind.wrap .u64 n=n:=by show(if(false&&decide (n%18446744073709551616≥9223372036854775808))=true then n%18446744073709551616-18446744073709551616 else n%18446744073709551616)=_;simp only[Bool.false_and,fT,if_false];exact Int.emod_eq_of_lt h0 h
theorem y41{t:Trust}(h:valid t=true){k:Int}{p:Int×Int}(hp:wgt k t=some p)(s r n:Int):0≤hsh 1 s r n*p.2∧hsh 1 s r n*p.2<9223372036854775808∧0≤p.1∧p.1*4294967296<9223372036854775808:=by obtain⟨a1,a2,a3⟩:=qsn h hp;obtain⟨b1,b2⟩:=qk5 1 s r n;have:=Int.mul_le_mul (show hsh 1 s r n≤4294967296 by omega) a3 (by omega) (by omega:(0:Int)≤4294967296);exact⟨Int.mul_nonneg b1 (by omega),by omega,by omega,by omega⟩
theorem qte{t:Trust}(h:valid t=true)(v slot round k:Int):z5w t v slot round k=some (nghB t v slot round k):=by
 apply ycd;unfold nghB;by_cases e:k=v;·subst e;rw[q25];simp
 ·rw[q2m e,cF,ybg k t (WOk.of h),bS];cases hw:wgt k t with|none=>simp[wFrac,e]|some p=>
   obtain⟨c1,c2,c3,c4⟩:=y41 h hw slot round k;obtain⟨a1,a2,a3⟩:=qsn h hw;obtain⟨b1,b2⟩:=qk5 1 slot round k;simp only[wFrac,cT,qoj,bS];rw[qqn b1 (by omega),qqn (n:=p.2) (by omega) (by omega),qqn (n:=p.1) c3 (by omega)];have e1:mulI .u64 (hsh 1 slot round k) p.2=hsh 1 slot round k*p.2:=qqn c1 (by omega);have e2:shlI .u64 p.1 32=p.1*4294967296:=by show IntKind.wrap .u64 (p.1*4294967296)=_;exact qqn (by omega) (by omega)
   rw[e1,e2];simp[ltB,e]
structure AskOk(t:Trust)(v slot round:Int):Prop where
 tr:valid t=true
 node:inR v=true
 slot:0≤slot∧slot≤1000000
 round:1≤round∧round≤1000
theorem ybn{t:Trust}{v slot round:Int}(h:AskOk t v slot round):z6l t v slot round=some 0:=by apply yf9;have h0:verr t=0:=(q67 t).2 h.tr;obtain⟨h1,h2,h3,h4⟩:=h;simp only[inR,aT,dT']at h2;rw[qbf _ (q1v h1),bS,h0,q00 (by omega),q0b (by omega),q00 (by omega),q00 (by omega),q00 (by omega),q00 (by omega)];rfl
structure Lead(N:Int→Bool)(h:Int→Int)(b:Int):Prop where
 node:inR b=true
 ngh:N b=true
 most:∀k,inR k=true→N k=true→h k<h b∨h k=h b∧k≤b
theorem Lead.uniq{N:Int→Bool}{h:Int→Int}{b c:Int}(hb:Lead N h b)(hc:Lead N h c):b=c:=by have h1:=hb.most c hc.node hc.ngh;have h2:=hc.most b hb.node hb.ngh;omega
theorem qmk{t:Trust}(ht:valid t=true){v slot round:Int}(hv:inR v=true):∀(n i:Nat)(b m:Int),i+n=10→(∀k,inR k=true→k<(i:Int)→nghB t v slot round k=true→hsh 2 slot round k<m∨hsh 2 slot round k=m∧k≤b)→((b=v∧m=0∧(i:Int)≤v)∨inR b=true∧b<(i:Int)∧nghB t v slot round b=true∧m=hsh 2 slot round b)→∃c,z1u v slot round b m (i:Int) t.Threshold t.Nodes t.Inner=some c∧Lead (nghB t v slot round) (hsh 2 slot round) c
 |0,i,b,m,hi,hk,hb=>by
  have hv':0≤v∧v<10:=by simpa[inR]using hv
  refine⟨b,qvs _ _ _ _ _ _ _ _ _ _ (by rw[q00 (by omega)];rfl),?_⟩;rcases hb with⟨_,_,h3⟩|⟨h1,h2,h3,h4⟩;·omega
  ·refine⟨h1,h3,fun k hk1 hk2=>?_⟩;have:0≤k∧k<10:=by simpa[inR]using hk1
   have:=hk k hk1 (by omega) hk2;rw[h4]at this;exact this|n+1,i,b,m,hi,hk,hb=>by
  have hv':0≤v∧v<10:=by simpa[inR]using hv
  have hin:inR (i:Int)=true:=by simp[inR];omega
  have next:∀b' m',(∀k,inR k=true→k<((i+1:Nat):Int)→nghB t v slot round k=true→hsh 2 slot round k<m'∨hsh 2 slot round k=m'∧k≤b')→((b'=v∧m'=0∧((i+1:Nat):Int)≤v)∨inR b'=true∧b'<((i+1:Nat):Int)∧nghB t v slot round b'=true∧m'=hsh 2 slot round b')→∃c,z1u v slot round b' m' ((i+1:Nat):Int) t.Threshold t.Nodes t.Inner=some c∧Lead (nghB t v slot round) (hsh 2 slot round) c:=fun b' m'=>qmk ht hv n (i+1) b' m' (by omega);have split:∀k:Int,k<((i+1:Nat):Int)→k<(i:Int)∨k=(i:Int):=fun k hk=>by omega
  have hbv:nghB t v slot round v=true:=by simp[nghB]
  cases hN:nghB t v slot round (i:Int)with
  |false=>obtain⟨c,h1,h2⟩:=next b m (fun k hk1 hk2 hk3=>by
    rcases split k hk2 with e|e;·exact hk k hk1 e hk3
    ·subst e;rw[hN]at hk3;cases hk3) (by
    rcases hb with⟨e1,e2,e3⟩|⟨e1,e2,e3,e4⟩
    ·refine .inl ⟨e1,e2,?_⟩;have:(i:Int)≠v:=fun e=>by rw[e,hbv]at hN;cases hN
     omega
    ·exact .inr ⟨e1,by omega,e3,e4⟩);refine⟨c,qvs _ _ _ _ _ _ _ _ _ _ ?_,h2⟩;rw[q02 (by omega),cT,Trust.etaM,qte ht,bS,hN,q01 (by omega)];exact h1|true=>
   have hr:=(qk5 2 slot round (i:Int)).1;by_cases hle:m≤hsh 2 slot round (i:Int)
   ·obtain⟨c,h1,h2⟩:=next (i:Int) (hsh 2 slot round (i:Int)) (fun k hk1 hk2 hk3=>by
     rcases split k hk2 with e|e
     ·rcases hk k hk1 e hk3 with g|⟨g,g'⟩;·exact .inl (by omega)
      ·by_cases e':hsh 2 slot round k=hsh 2 slot round (i:Int);·exact .inr ⟨e',by omega⟩
       ·exact .inl (by omega)
     ·subst e;exact .inr ⟨rfl,by omega⟩) (.inr ⟨hin,by omega,hN,rfl⟩);refine⟨c,qvs _ _ _ _ _ _ _ _ _ _ ?_,h2⟩;rw[q02 (by omega),cT,Trust.etaM,qte ht,bS,hN,qoj,q01 (by omega)];simp only[nT,cF,bS,q0g hle,cT];exact h1
   ·obtain⟨c,h1,h2⟩:=next b m (fun k hk1 hk2 hk3=>by
     rcases split k hk2 with e|e;·exact hk k hk1 e hk3
     ·subst e;exact .inl (by omega)) (by
     rcases hb with⟨e1,e2,e3⟩|⟨e1,e2,e3,e4⟩;·omega
     ·exact .inr ⟨e1,by omega,e3,e4⟩);refine⟨c,qvs _ _ _ _ _ _ _ _ _ _ ?_,h2⟩;rw[q02 (by omega),cT,Trust.etaM,qte ht,bS,hN,qoj,q01 (by omega)];simp only[nT,cF,bS,q0b (show hsh 2 slot round (i:Int)<m by omega)];exact h1
noncomputable def leadR(t:Trust)(v slot round:Int):Int:=(z57 t v slot round).getD 0
theorem qg0{t:Trust}(ht:valid t=true){v:Int}(slot round:Int)(hv:inR v=true):z57 t v slot round=some (leadR t v slot round)∧Lead (nghB t v slot round) (hsh 2 slot round) (leadR t v slot round):=by
 have hv':0≤v∧v<10:=by simpa[inR]using hv
 obtain⟨c,h1,h2⟩:=qmk (slot:=slot) (round:=round) ht hv 10 0 v 0 rfl (fun k hk hk0=>by
  have:0≤k∧k<10:=by simpa[inR]using hk
  have:k<0:=hk0;omega) (.inl ⟨rfl,rfl,hv'.1⟩);have h3:z57 t v slot round=some c:=ydt _ _ _ _ _ h1;rw[leadR,h3];exact⟨rfl,h2⟩
noncomputable def leadF(t:Trust)(v slot:Int):Nat→Nat→Nat→Nat|0,_,s=>s|n+1,i,s=>leadF t v slot n (i+1) (s|||bit (leadR t v slot ((i+1:Nat):Int)))
noncomputable def leadS(t:Trust)(v slot rounds:Int):Nat:=leadF t v slot rounds.toNat 0 0
theorem qwl{t:Trust}(ht:valid t=true){v slot:Int}(hv:inR v=true):∀(n i s:Nat),s<1024→leadF t v slot n i s<1024|0,_,_s,h=>h|n+1,i,_s,h=>qwl ht hv n (i+1) _ (or_lt h (qat (qg0 ht slot _ hv).2.node))
theorem y76{t:Trust}(ht:valid t=true){v:Int}(slot rounds:Int)(hv:inR v=true):leadS t v slot rounds<1024:=qwl ht hv _ _ _ (by decide)
theorem qx8{t:Trust}{v slot rounds:Int}(h:AskOk t v slot rounds):∀(n i s:Nat),i+n=rounds.toNat→s<1024→z3a v slot (s:Int) rounds (i:Int) t.Threshold t.Nodes t.Inner=some (((leadF t v slot n i s:Nat):Int),0)|0,i,s,hi,hs=>by have:=h.round;apply y7v;rw[q00 (by omega)];rfl|n+1,i,s,hi,hs=>by have hr:=h.round;have hc:=qg0 h.tr slot ((i+1:Nat):Int) h.node;have hn:=hc.2.node;have hn':0≤leadR t v slot ((i+1:Nat):Int):=(q4y hn).1;apply y7v;rw[q02 (by omega),cT,Trust.etaM,q01 (by omega),hc.1,bS,q0v hn',shlOr hs hn,qx8 h n (i+1) _ (by omega) (or_lt hs (qat hn))];rfl
theorem y5h{t:Trust}{v slot rounds:Int}(h:AskOk t v slot rounds):z68 t v slot rounds=some (((leadS t v slot rounds:Nat):Int),0):=by apply ygl;rw[ybn h,bS,q0m,cF];exact qx8 h rounds.toNat 0 0 (by omega) (by decide)
noncomputable def leadL(t:Trust)(v slot rounds:Int):List Int:=(nodes (leadS t v slot rounds)).map Int.ofNat
theorem qon(k:Int):z4f k=some (inR k):=by
 apply ycw;by_cases h:0≤k;·simp[leB,ltB,inR,h]
 ·simp[leB,ltB,inR,h]
theorem qu5{m:Nomination}(h:SmallN m):z55 m=some (nomB m):=by apply yer;rw[qon,qbf _ h.tr,qeo _ (by have:=h.votes;omega),qeo _ (by have:=h.accs;omega)];simp only[bS,qei,nomB,leB];cases inR m.Node<;>cases decide (1≤m.Seq)<;>cases valid m.Trust<;>cases q18 m.Votes<;>rfl
theorem qmn(m:Nomination):Nomination.mk m.Node m.Seq (Trust.mk m.Trust.Threshold m.Trust.Nodes m.Trust.Inner) m.Votes m.Accepts=m:=by rw[Trust.etaM]
theorem q8x(n:Nominator):Nominator.mk n.Node n.Slot n.Round n.Seq (Trust.mk n.Trust.Threshold n.Trust.Nodes n.Trust.Inner) n.Own n.Votes n.Accepts n.Candidates n.Heard=n:=by rw[Trust.etaM]
theorem qwu(l:List Val)(n:Nominator)(hl:l.length<1152921504606846976)(ha:n.Accepts.length<1000000):∀(suf:List Val)(i:Nat),l.drop i=suf→∃r:Int,z0g l ((l.length:Nat):Int) (i:Int) n.Node n.Slot n.Round n.Seq n.Trust.Threshold n.Trust.Nodes n.Trust.Inner n.Own n.Votes n.Accepts n.Candidates n.Heard=some (r,n.Node,n.Slot,n.Round,n.Seq,n.Trust.Threshold,n.Trust.Nodes,n.Trust.Inner,n.Own,n.Votes,n.Accepts,n.Candidates,n.Heard)∧leB 0 r=!(suf.all fun x=>decide (x∈n.Accepts))
 |[],i,h=>by refine⟨-1,y0l _ _ _ _ _ _ _ _ _ _ _ _ _ _ _ _ ?_,by simp[leB]⟩;rw[q0j h];rfl|y::suf,i,h=>by
  have hlt:=q0e h;obtain⟨r,h1,h2⟩:=qwu l n hl ha suf (i+1) (q03 h);have hf:z5h y n.Node n.Slot n.Round n.Seq n.Trust.Threshold n.Trust.Nodes n.Trust.Inner n.Own n.Votes n.Accepts n.Candidates n.Heard=some (!decide (y∈n.Accepts),n.Node,n.Slot,n.Round,n.Seq,n.Trust.Threshold,n.Trust.Nodes,n.Trust.Inner,n.Own,n.Votes,n.Accepts,n.Candidates,n.Heard):=by apply yg0;rw[qi7 _ (by omega)];rfl
  by_cases hy:y∈n.Accepts;·refine⟨r,y0l _ _ _ _ _ _ _ _ _ _ _ _ _ _ _ _ ?_,by rw[h2];simp[hy]⟩;rw[q07 h,cT,q06 h,hf,bS,q01 (by omega)];simp only[hy,decide_true,nT,cF];exact h1
  ·refine⟨i,y0l _ _ _ _ _ _ _ _ _ _ _ _ _ _ _ _ ?_,by simp[hy,leB]⟩;rw[q07 h,cT,q06 h,hf,bS];simp only[hy,decide_false,Bool.not_false,cT]
theorem y25(n:Nominator)(hl:n.Heard.length<1000000)(hm:∀m∈n.Heard,SmallN m):∀(suf:List Nomination)(i:Nat)(z:Nomination),n.Heard[i]?=some z→n.Heard.drop (i+1)=suf→z1r n.Heard ((n.Heard.length:Nat):Int) ((i+1:Nat):Int) n.Node n.Slot n.Round n.Seq n.Trust.Threshold n.Trust.Nodes n.Trust.Inner n.Own n.Votes n.Accepts n.Candidates n.Heard=some (q44 n.Node (some z.Node) suf)|[],i,z,hz,h=>by apply qxq;rw[q0j h];rfl|y::suf,i,z,hz,h=>by have hlt:=q0e h;apply qxq;rw[q07 h,cT,q06 h,qu5 (hm y (List.mem_of_mem_drop (i:=i+1) (by rw[h];simp))),bS,q02 (by omega),cT,q2u (by omega) (by omega),q0l (y:=z) (by omega) (by rw[show(((i+1:Nat):Int)-1).toNat=i by omega];exact hz),q01 (by omega),y25 n hl hm suf (i+1) y (by have:=congrArg (·[0]?) h;simpa using this) (q03 h)];rw[q44,show leB y.Node z.Node=!decide (z.Node<y.Node)by by_cases h2:z.Node<y.Node<;>simp[leB,h2]<;>omega];simp only[eqB];cases nomB y<;>cases decide (y.Node=n.Node)<;>cases decide (z.Node<y.Node)<;>rfl
theorem yaj(n:Nominator)(hl:n.Heard.length<1000000)(hm:∀m∈n.Heard,SmallN m):z1r n.Heard ((n.Heard.length:Nat):Int) 0 n.Node n.Slot n.Round n.Seq n.Trust.Threshold n.Trust.Nodes n.Trust.Inner n.Own n.Votes n.Accepts n.Candidates n.Heard=some (q44 n.Node none n.Heard):=by cases hh:n.Heard with|nil=>apply qxq;simp[ltB,q44]|cons y r=>have h1:=y25 n hl hm r 0 y (by rw[hh];rfl) (by rw[hh];rfl);rw[hh]at h1 hm;apply qxq;rw[q02 (by rw[List.length_cons];omega),cT,q0l (y:=y) (by omega) rfl,qu5 (hm y (by simp)),bS,q00 (by omega),cF,show addI .i64 0 1=((0+1:Nat):Int)from rfl,h1,q44];by_cases h1:y.Node=n.Node;all_goals cases nomB y<;>simp[h1,eqB]
theorem y56(n:Nominator):z5g n=some (numsN n):=by apply ycm;rw[qon,bS];unfold numsN leB;cases inR n.Node<;>cases decide (0≤n.Slot)<;>cases decide (n.Slot≤1000000)<;>cases decide (1≤n.Round)<;>cases decide (n.Round≤1000)<;>cases decide (1≤n.Seq)<;>rfl
theorem qmp{n:Nominator}(h:SmallR n):z53 n=some (qhc n):=by
 obtain⟨h1,h2,h3,h4,h5,h6,h7⟩:=h;apply ygi;obtain⟨r,g1,g2⟩:=qwu n.Candidates n (by omega) h4 n.Candidates 0 rfl;have g3:z1d n.Candidates n.Node n.Slot n.Round n.Seq n.Trust.Threshold n.Trust.Nodes n.Trust.Inner n.Own n.Votes n.Accepts n.Candidates n.Heard=_:=ydr _ _ _ _ _ _ _ _ _ _ _ _ _ _ g1;have g4:z19 n.Candidates n.Node n.Slot n.Round n.Seq n.Trust.Threshold n.Trust.Nodes n.Trust.Inner n.Own n.Votes n.Accepts n.Candidates n.Heard=some (!(n.Candidates.all fun x=>decide (x∈n.Accepts)),n.Node,n.Slot,n.Round,n.Seq,n.Trust.Threshold,n.Trust.Nodes,n.Trust.Inner,n.Own,n.Votes,n.Accepts,n.Candidates,n.Heard):=by apply yde;rw[g3,bS,g2]
 rw[y56,qbf _ h1,qeo _ (by omega),qeo _ (by omega),qeo _ (by omega),g4];simp only[bS,yaj n h6 h7,y1i];have ho:ltB 200 ((n.Own.length:Nat):Int)=!decide (n.Own.length≤200):=by unfold ltB;rw[Bool.eq_iff_iff];simp;omega
 rw[ho];unfold qhc;cases numsN n<;>cases valid n.Trust<;>cases decide (n.Own.length≤200)<;>cases q18 n.Votes<;>cases q18 n.Accepts<;>cases q18 n.Candidates<;>cases n.Candidates.all (fun x=>decide (x∈n.Accepts))<;>rfl
theorem qnu(n:Nominator):z51 n=some (sayN n):=yfm _ _ (by rw[Trust.etaM];rfl)
theorem qr4:∀t:Trust,Fits t→z3y t=some t:=by
 apply Trust.ind;intro t ih ht;have hsz:size t<1073741824:=ht;rw[q2w]at hsz;have l1:∀(suf:List Trust)(i:Nat)(acc:List Trust)(a8:Int)(a10:List Int)(a12:List Trust)(a14:Int)(a16:List Int)(a18:List Trust)(a20:Int)(a22:List Int),t.Inner.drop i=suf→acc.length≤i→z2y t.Inner ((t.Inner.length:Nat):Int) (i:Int) a8 a10 a12 a14 a16 a18 a20 a22 acc=some ⟨a20,a22,acc++suf⟩:=by intro suf;induction suf with|nil=>intro i acc a8 a10 a12 a14 a16 a18 a20 a22 h ha;apply ya0;simp only[q0j h,cF,List.append_nil]|cons y suf ihs=>intro i acc a8 a10 a12 a14 a16 a18 a20 a22 h ha;have hlt:=q0e h;have hy:y∈t.Inner:=List.mem_of_mem_drop (by rw[h];exact List.mem_cons_self);apply ya0;simp only[q07 h,cT,q06 h,ih y hy (ht.mem hy),bS,q01 (show i<4611686018427387904 by omega),Trust.etaM];rw[q0i (by simp[q0f];omega),ihs (i+1) (acc++[y]) _ _ _ _ _ _ _ _ (q03 h) (by simp;omega)];simp
 apply yfb;have h1:z3j t.Nodes=some ((),t.Nodes):=ygo _ _ (by rw[q0i (by simp[q0f];omega)];rfl);rw[h1,bS,show(0:Int)=((0:Nat):Int)from rfl,l1 t.Inner 0 [] _ _ _ _ _ _ _ _ rfl (Nat.le_refl _)];show some (Trust.mk t.Threshold t.Nodes t.Inner)=some t;rw[Trust.etaM]
theorem qjd{m:Nomination}(ht:Fits m.Trust)(h1:m.Votes.length<1000000)(h2:m.Accepts.length<1000000):z2a m=some m:=by apply ye1;rw[qr4 _ ht,bS,q8d _ h1,bS,q8d _ h2,bS,Trust.etaM]
theorem qsh(l:List Nomination)(hl:l.length<1000000)(hm:∀m∈l,z2a m=some m)(n sl r s:Int)(t:Int)(ns:List Int)(is:List Trust)(ow:Val)(va aa ca:List Val)(d1 d2 d3 d4 d5:Int)(d6:List Int)(d7:List Trust)(d8:Val)(d9 d10 d11:List Val)(d12:List Nomination):∀(suf:List Nomination)(i:Nat)(acc:List Nomination),l.drop i=suf→acc.length≤i→z2w l ((l.length:Nat):Int) (i:Int) n sl r s t ns is ow va aa ca acc d1 d2 d3 d4 d5 d6 d7 d8 d9 d10 d11 d12=some ⟨n,sl,r,s,⟨t,ns,is⟩,ow,va,aa,ca,acc++suf⟩|[],i,acc,h,ha=>by apply y98;rw[q0j h,cF,List.append_nil]|m::suf,i,acc,h,ha=>by have hlt:=q0e h;apply y98;rw[q07 h,cT,q06 h,hm m (List.mem_of_mem_drop (i:=i) (by rw[h];simp)),bS,qmn,q0i (by simp[q0f];omega),q01 (by omega),qsh l hl hm n sl r s t ns is ow va aa ca d1 d2 d3 d4 d5 d6 d7 d8 d9 d10 d11 d12 suf (i+1) _ (q03 h) (by simp;omega)];simp
structure FreshN(n:Nominator):Prop where
 tr:Fits n.Trust
 votes:n.Votes.length<1000000
 accs:n.Accepts.length<1000000
 cands:n.Candidates.length<1000000
 heard:n.Heard.length<1000000
 msgs:∀m∈n.Heard,z2a m=some m
theorem qjz{n:Nominator}(h:FreshN n):z1z n=some n:=by apply yce;rw[qr4 _ h.tr,bS,q8d _ h.votes,bS,q8d _ h.accs,bS,q8d _ h.cands,bS];have:=qsh n.Heard h.heard h.msgs n.Node n.Slot n.Round n.Seq n.Trust.Threshold n.Trust.Nodes n.Trust.Inner n.Own n.Votes n.Accepts n.Candidates 0 0 0 0 0 [] [] [] [] [] [] [] n.Heard 0 [] rfl (Nat.le_refl _);refine Eq.trans this ?_;rw[Trust.etaM];rfl
theorem y6a{m:Nomination}(h:nomB m=true):z2a m=some m:=qjd (q46 (q1q.1 h).2.2.1).1 (q4q h).votes (q4q h).accs
theorem ReadyN.fresh{n:Nominator}(h:ReadyN n)(s:Int):FreshN {n with Seq:=s}:=⟨(q46 h.tr).1,by have:=h.vlen;show n.Votes.length<_;omega,by have:=h.alen;show n.Accepts.length<_;omega,by have:=h.clen;show n.Candidates.length<_;omega,by have:=h.hlen;show n.Heard.length<_;omega,fun m hm=>y6a (h.msg m hm).1⟩
theorem qqa{n:Nominator}(h:ReadyN n)(a34:List Member):∀(suf:List Nomination)(i:Nat)(acc:List Message),n.Heard.drop i=suf→acc=(n.Heard.take i).map msgOf→z39 acc n.Heard ((n.Heard.length:Nat):Int) (i:Int) n.Node n.Slot n.Round n.Seq n.Trust.Threshold n.Trust.Nodes n.Trust.Inner n.Own n.Votes n.Accepts n.Candidates n.Heard a34=some (viewN n)
 |[],i,acc,g,ha=>by have hh:=h.hlen;have hi:n.Heard.take i=n.Heard:=List.take_of_length_le (List.drop_eq_nil_iff.1 g);rw[hi]at ha;apply y8m;rw[q0j g,cF,Trust.etaM,ha,y62 h.node h.tr _ (by simp;omega) h.msgs];rfl|m::suf,i,acc,g,ha=>by
  have hlt:=q0e g;have hh:=h.hlen;apply y8m;rw[q07 g,cT,q06 g,Trust.etaM,q0i (by rw[ha];simp[q0f];omega),q01 (by omega)];refine qqa h a34 suf (i+1) _ (q03 g) ?_;rw[ha,List.take_add_one];have:n.Heard[i]?=some m:=by have:=congrArg (·[0]?) g;simpa using this
  simp[this,msgOf]
theorem qrj{n:Nominator}(h:ReadyN n):z5l n=some (viewN n):=yfl _ _ (qqa h [] n.Heard 0 [] rfl rfl)
theorem q6t(l:List Nomination)(hl:l.length<1000000)(hm:∀m∈l,nomB m=true)(x:Val):∀(suf:List Nomination)(i s t:Nat),l.drop i=suf→s<1024→t<1024→z1v x (s:Int) (t:Int) l ((l.length:Nat):Int) (i:Int)=some (((whoN (fun m=>decide (x∈m.Votes)) s suf:Nat):Int),((whoN (fun m=>decide (x∈m.Accepts)) t suf:Nat):Int))
 |[],i,s,t,h,_,_=>by apply y9m;rw[q0j h];rfl|m::suf,i,s,t,h,hs,ht=>by
  have hlt:=q0e h;have hb:=hm m (List.mem_of_mem_drop (i:=i) (by rw[h];simp));have hsm:=q4q hb;have hn:=(q1q.1 hb).1;have h0:=(q4y hn).1;apply y9m;rw[q07 h,cT,q06 h,qi7 _ (by have:=hsm.votes;omega),bS,qi7 _ (by have:=hsm.accs;omega),bS,q01 (by omega),qen,qen];have hs':=or_lt hs (qat hn);have ht':=or_lt ht (qat hn);rw[shlOr hs hn,shlOr ht hn];by_cases h1:x∈m.Votes<;>by_cases h2:x∈m.Accepts;·simp only[h1,h2,decide_true,cT,if_true];rw[q0v h0,q0v h0];exact q6t l hl hm x suf (i+1) _ _ (q03 h) hs' ht'
  ·simp only[h1,h2,decide_true,decide_false,cT,cF,if_true,fT,if_false];rw[q0v h0];exact q6t l hl hm x suf (i+1) _ _ (q03 h) hs' ht
  ·simp only[h1,h2,decide_true,decide_false,cT,cF,if_true,fT,if_false];rw[q0v h0];exact q6t l hl hm x suf (i+1) _ _ (q03 h) hs ht'
  ·simp only[h1,h2,decide_false,cF,fT,if_false];exact q6t l hl hm x suf (i+1) _ _ (q03 h) hs ht
theorem qiu{l:List Nomination}(hl:l.length<1000000)(hm:∀m∈l,nomB m=true)(x:Val):z4m l x=some (((q9t l x:Nat):Int),((accsN l x:Nat):Int)):=yef _ _ _ (q6t l hl hm x l 0 0 0 rfl (by decide) (by decide))
def nextR:Option Val→Val×Bool|some x=>(x,true)|none=>([],false)
theorem qvp(l:List Val):(setV l).length≤l.length:=q5x (qfm qht) fun _x hx=>q4g.1 hx
theorem qm9:∀(l:List Nomination),(∀m∈l,nomB m=true)→(q4i l).length≤80*l.length
 |[],_=>by simp[q4i]|m::l,h=>by
  have ih:=qm9 l fun k hk=>h k (by simp[hk]);obtain⟨_,_,_,h1,h2⟩:=q1q.1 (h m (by simp));have h1:=(q0h.1 h1).2.2;have h2:=(q0h.1 h2).2.2;have:q4i (m::l)=(m.Votes++m.Accepts)++q4i l:=by simp[q4i]
  rw[this];simp;omega
theorem qq3{n:Nominator}(h:ReadyN n)(l:List Val)(hl:l.length<1000000):∀(suf:List Val)(i:Nat),l.drop i=suf→z2b (allN n) l ((l.length:Nat):Int) (i:Int) n.Node n.Slot n.Round n.Seq n.Trust.Threshold n.Trust.Nodes n.Trust.Inner n.Own n.Votes n.Accepts n.Candidates n.Heard (viewN n).Members=some (nextR (suf.find? (canN n)))
 |[],i,g=>by apply y9g;rw[q0j g];rfl|y::suf,i,g=>by
  have hlt:=q0e g;have hlen:=h.len;have halen:=h.alen;have ih:=qq3 h l hl suf (i+1) (q03 g);obtain⟨n1,n2⟩:=h.node';have hacc:z4n ⟨(viewN n).Members⟩ n.Node ((q9t (allN n) y:Nat):Int) ((accsN (allN n) y:Nat):Int)=some (accB (viewN n) n.Node.toNat (q9t (allN n) y) (accsN (allN n) y)):=by have:=y55 h.view (y0c h.all y) (qeg h.all y) n1;rw[n2]at this;exact this
  apply y9g;rw[q07 g,cT,q06 g,qiu (by omega) h.all,bS,qi7 _ (by omega),bS,hacc,bS,q01 (by omega),ih,List.find?_cons];have h40:ltB ((n.Accepts.length:Nat):Int) 40=decide (n.Accepts.length<40):=by
   unfold ltB;by_cases e:n.Accepts.length<40
   ·have:((n.Accepts.length:Nat):Int)<40:=by omega
    simp[e,this]
   ·have:¬((n.Accepts.length:Nat):Int)<40:=by omega
    simp[e,this]
  rw[h40];simp only[canN];cases decide (y∈n.Accepts)<;>cases decide (n.Accepts.length<40)<;>cases accB (viewN n) n.Node.toNat (q9t (allN n) y) (accsN (allN n) y)<;>rfl
theorem qkn{n:Nominator}(h:ReadyN n):z3q n (viewN n)=some (nextR (nextN n)):=by apply yh8;have hh:=h.hlen;have hlen:=h.len;rw[qkt _ (by omega),bS,qnu,bS,qmn,q0i (by simp[q0f];omega)];have:z52 (n.Heard++[sayN n])=_:=qv7 hlen h.all;rw[this,bS];have h1:=qvp (q4i (allN n));have h2:=qm9 _ h.all;exact qq3 h (qdl n) (by show(setV (q4i (allN n))).length<_;omega) (qdl n) 0 rfl
theorem vals1(m:Nomination):q4i [m]=m.Votes++m.Accepts:=by simp[q4i]
theorem y0k{n:Nominator}(h:ReadyN n)(L:List Int)(r:List Val)(u k:Nat)(m:Nomination)(a3:Int)(l:List Val)(hl:l.length<1000000)(hv:∀x∈l,vvl x=true)(hk:k<n.Heard.length):∀(suf:List Val)(i:Nat)(V:List Val),l.drop i=suf→q18 V=true→z28 (qcc V suf) a3 L ((L.length:Nat):Int) (u:Int) n.Heard ((n.Heard.length:Nat):Int) ((k+1:Nat):Int) n.Node n.Slot n.Round n.Seq n.Trust.Threshold n.Trust.Nodes n.Trust.Inner n.Own n.Votes n.Accepts n.Candidates n.Heard=some r→z2z V a3 L ((L.length:Nat):Int) (u:Int) n.Heard ((n.Heard.length:Nat):Int) (k:Int) l ((l.length:Nat):Int) (i:Int) n.Node n.Slot n.Round n.Seq n.Trust.Threshold n.Trust.Nodes n.Trust.Inner n.Own n.Votes n.Accepts n.Candidates n.Heard m.Node m.Seq m.Trust.Threshold m.Trust.Nodes m.Trust.Inner m.Votes m.Accepts=some r|[],i,V,g,hV,hr=>by have hh:=h.hlen;apply y7t;rw[q0j g,cF,q01 (by omega)];exact hr|y::suf,i,V,g,hV,hr=>by have hlt:=q0e g;apply y7t;rw[q07 g,cT,q06 g,qhs hV,bS,q01 (by omega)];exact y0k h L r u k m a3 l hl hv hk suf (i+1) _ (q03 g) (q50 hV (hv y (List.mem_of_mem_drop (i:=i) (by rw[g];simp)))) hr
def foldH(u:Int)(V:List Val)(l:List Nomination):List Val:=l.foldl (fun V m=>if m.Node=u then qcc V (setV (m.Votes++m.Accepts))else V) V
theorem qst{n:Nominator}(h:ReadyN n)(L:List Int)(hL:L.length<1000000)(r:List Val)(u:Nat)(hu:u<L.length)(a3:Int):∀(suf:List Nomination)(k:Nat)(V:List Val),n.Heard.drop k=suf→q18 V=true→z1y (foldH a3 V suf) L ((L.length:Nat):Int) ((u+1:Nat):Int) n.Node n.Slot n.Round n.Seq n.Trust.Threshold n.Trust.Nodes n.Trust.Inner n.Own n.Votes n.Accepts n.Candidates n.Heard=some r→z28 V a3 L ((L.length:Nat):Int) (u:Int) n.Heard ((n.Heard.length:Nat):Int) (k:Int) n.Node n.Slot n.Round n.Seq n.Trust.Threshold n.Trust.Nodes n.Trust.Inner n.Own n.Votes n.Accepts n.Candidates n.Heard=some r
 |[],k,V,g,hV,hr=>by apply y9u;rw[q0j g,cF,q01 (by omega)];exact hr|m::suf,k,V,g,hV,hr=>by
  have hlt:=q0e g;have hh:=h.hlen;have hm:=(h.msg m (List.mem_of_mem_drop (i:=k) (by rw[g];simp))).1;apply y9u;rw[q07 g,cT,q06 g,qmn];by_cases e:m.Node=a3
  ·rw[e,q0m,cF,qv7 (l:=[m]) (by simp) (by simpa using hm),bS,vals1];have hs:∀x∈setV (m.Votes++m.Accepts),vvl x=true:=fun x hx=>qob hm x (q4g.1 hx);have hl2:=qvp (m.Votes++m.Accepts);have hsm:=q4q hm;have h1:=hsm.votes;have h2:=hsm.accs;obtain⟨_,_,_,q1,q2⟩:=q1q.1 hm;have q1:=(q0h.1 q1).2.2;have q2:=(q0h.1 q2).2.2;have h3:(setV (m.Votes++m.Accepts)).length<1000000:=by simp at hl2;omega
   have:=y0k h L r u k m a3 _ h3 hs hlt _ 0 V rfl hV (qst h L hL r u hu a3 suf (k+1) _ (q03 g) (q9z hV hs) (by
    have e2:foldH a3 V (m::suf)=foldH a3 (qcc V (setV (m.Votes++m.Accepts))) suf:=by show foldH a3 (if m.Node=a3 then _ else _) suf=_;rw[if_pos e]
    rw[e2]at hr;exact hr));rw[e]at this;exact this
  ·rw[q1e e,cT,q01 (by omega)];refine qst h L hL r u hu a3 suf (k+1) _ (q03 g) hV ?_;have e2:foldH a3 V (m::suf)=foldH a3 V suf:=by show foldH a3 (if m.Node=a3 then _ else _) suf=_;rw[if_neg e]
   rw[e2]at hr;exact hr
theorem y4k{n:Nominator}(h:ReadyN n)(L:List Int)(hL:L.length<1000000):∀(suf:List Int)(u:Nat)(V:List Val),L.drop u=suf→q18 V=true→z1y V L ((L.length:Nat):Int) (u:Int) n.Node n.Slot n.Round n.Seq n.Trust.Threshold n.Trust.Nodes n.Trust.Inner n.Own n.Votes n.Accepts n.Candidates n.Heard=some (suf.foldl (leadV n) V)
 |[],u,V,g,hV=>by apply y82;rw[q0j g];rfl|y::suf,u,V,g,hV=>by
  have hlt:=q0e g;have hV':=qk9 h (u:=y) hV;have ih:=y4k h L hL suf (u+1) (leadV n V y) (q03 g) hV';apply y82;rw[q07 g,cT,q06 g,List.foldl_cons];by_cases e:y=n.Node
  ·rw[e,q25,cT];rw[e]at ih;unfold leadV at ih⊢;simp only[if_true]at ih⊢;by_cases ho:n.Own=[];·rw[if_pos ho]at ih⊢;rw[show eqS n.Own []=true by simp[eqS,ho],nT,cF,q01 (by omega)];exact ih
   ·rw[if_neg ho]at ih⊢;rw[show eqS n.Own []=false by simp[eqS,ho],Bool.not_false,cT,qhs hV,bS,q01 (by omega)];exact ih
  ·rw[q2m e,cF];refine qst h L hL _ u hlt y n.Heard 0 V rfl hV ?_;have e2:foldH y V n.Heard=leadV n V y:=by unfold leadV foldH;rw[if_neg e]
   rw[e2];exact ih
theorem ReadyN.ask{n:Nominator}(h:ReadyN n):AskOk n.Trust n.Node n.Slot n.Round:=⟨h.tr,h.node,h.slot,h.round⟩
noncomputable def leadN(n:Nominator):List Int:=leadL n.Trust n.Node n.Slot n.Round
theorem y0e{n:Nominator}(_h:ReadyN n):(leadN n).length<1000000:=by have:=q8c (leadS n.Trust n.Node n.Slot n.Round);simp[leadN,leadL];omega
theorem y1m{n:Nominator}(h:ReadyN n):z64 n=some (qkr (leadN n) n):=by apply yeu;rw[y5h h.ask,bS,qqe (y76 h.tr n.Slot n.Round h.node),bS];exact y4k h (leadN n) (y0e h) (leadN n) 0 n.Votes rfl h.votes
theorem qnm{n:Nominator}(h:ReadyN n)(l:List Val)(hl:l.length≤40)(hv:∀x∈l,vvl x=true)(d1 d2 d3 d4 d5:Int)(d6:List Int)(d7:List Trust)(d8:Val)(d9 d10 d11:List Val)(d12:List Nomination):∀(suf:List Val)(i:Nat)(C:List Val),l.drop i=suf→q18 C=true→z29 (allN n) l ((l.length:Nat):Int) (i:Int) n.Node n.Slot n.Round n.Seq n.Trust.Threshold n.Trust.Nodes n.Trust.Inner n.Own n.Votes n.Accepts C n.Heard d1 d2 d3 d4 d5 d6 d7 d8 d9 d10 d11 d12 (viewN n).Members=some {n with Candidates:=candN n C suf}
 |[],i,C,g,hC=>by apply y9x;rw[q0j g,cF,Trust.etaM];rfl|y::suf,i,C,g,hC=>by
  have hlt:=q0e g;have hlen:=h.len;have hy:=hv y (List.mem_of_mem_drop (i:=i) (by rw[g];simp));obtain⟨n1,n2⟩:=h.node';have hacc:z49 ⟨(viewN n).Members⟩ n.Node ((accsN (allN n) y:Nat):Int)=some (confB (viewN n) n.Node.toNat (accsN (allN n) y)):=by have:=y7b h.view (qeg h.all y) n1;rw[n2]at this;exact this
  apply y9x;rw[q07 g,cT,q06 g,qiu (by omega) h.all,bS,hacc,bS,qhs hC,bS,q01 (by omega)];show _=some {n with Candidates:=candN n (if confB (viewN n) n.Node.toNat (accsN (allN n) y)then putV C y else C) suf};cases hc:confB (viewN n) n.Node.toNat (accsN (allN n) y)with|true=>rw[cT,if_pos rfl];exact qnm h l hl hv d1 d2 d3 d4 d5 d6 d7 d8 d9 d10 d11 d12 suf (i+1) _ (q03 g) (q50 hC hy)|false=>rw[cF,if_neg (by simp)];exact qnm h l hl hv d1 d2 d3 d4 d5 d6 d7 d8 d9 d10 d11 d12 suf (i+1) _ (q03 g) hC
theorem qw5(d1 d2 d3 d4 d5:Int)(d6:List Int)(d7:List Trust)(d8:Val)(d9 d10 d11:List Val)(d12:List Nomination):∀(k:Nat)(n:Nominator),ReadyN n→40-n.Accepts.length<k→z2k (nextR (nextN n)).1 (nextR (nextN n)).2 n.Node n.Slot n.Round n.Seq n.Trust.Threshold n.Trust.Nodes n.Trust.Inner n.Own n.Votes n.Accepts n.Candidates n.Heard d1 d2 d3 d4 d5 d6 d7 d8 d9 d10 d11 d12 (viewN n).Members=some (qih (q3t k n))|0,n,h,hk=>by omega|k+1,n,h,hk=>by rw[q3t];apply yc9;cases hx:nextN n with|none=>have hh:=h.hlen;simp only[nextR,cF];rw[qkt _ (by omega),bS,q8x,qnu,bS,qmn,q0i (by simp[q0f];omega)];exact qnm h n.Accepts h.alen h.avv d1 d2 d3 d4 d5 d6 d7 d8 d9 d10 d11 d12 n.Accepts 0 n.Candidates rfl h.cands|some x=>
   obtain⟨h1,h2,h3,_⟩:=qfk hx;have hv:=qry h h1;have hr:=h.withA hv;have hl:=qx6 h3 h2;simp only[nextR,cT];rw[qhs h.accs,bS];have hw:Nominator.mk n.Node n.Slot n.Round n.Seq (Trust.mk n.Trust.Threshold n.Trust.Nodes n.Trust.Inner) n.Own n.Votes (putV n.Accepts x) n.Candidates n.Heard=qgh n x:=by rw[Trust.etaM];rfl
   rw[hw];have hn':z3q (qgh n x) ⟨(viewN n).Members⟩=_:=qkn hr;rw[hn',bS];exact qw5 d1 d2 d3 d4 d5 d6 d7 d8 d9 d10 d11 d12 k (qgh n x) hr (by show 40-(putV n.Accepts x).length<k;omega)
theorem qw2{n:Nominator}(h:ReadyN n):z35 n=some (q0r (leadN n) n):=by
 apply yc8;have hl:=h.listen (leadN n);have go:=fun d1 d2 d3 d4 d5 d6 d7 d8 d9 d10 d11 d12=>qw5 d1 d2 d3 d4 d5 d6 d7 d8 d9 d10 d11 d12 60 _ hl (by omega);unfold q0r;by_cases e:n.Candidates=[]
 ·have e0:eqB ((n.Candidates.length:Nat):Int) 0=true:=by simp[eqB,e]
  rw[e0,cT,y1m h,bS];have hw:q1r (leadN n) n={n with Votes:=qkr (leadN n) n}:=by rw[q1r,if_pos e]
  have hm:Nominator.mk n.Node n.Slot n.Round n.Seq (Trust.mk n.Trust.Threshold n.Trust.Nodes n.Trust.Inner) n.Own (qkr (leadN n) n) n.Accepts n.Candidates n.Heard={n with Votes:=qkr (leadN n) n}:=by rw[Trust.etaM]
  rw[hw]at go hl⊢;rw[hm,qrj hl,bS,qkn hl,bS];exact go 0 0 0 0 0 [] [] [] [] [] [] []
 ·have e0:eqB ((n.Candidates.length:Nat):Int) 0=false:=by have:n.Candidates.length≠0:=fun e'=>e (List.length_eq_zero_iff.1 e');unfold eqB;rw[decide_eq_false];omega
  have hw:q1r (leadN n) n=n:=by rw[q1r,if_neg e]
  rw[hw]at go;rw[e0,cF,qrj h,bS,qkn h,bS,hw];exact go 0 0 0 0 0 [] [] [] [] [] [] []
theorem qqc(l k:List Val)(hl:l.length<1152921504606846976)(hk:l.length=k.length):∀(suf suk:List Val)(i:Nat),l.drop i=suf→k.drop i=suk→z1j l k ((l.length:Nat):Int) (i:Int)=some (decide (suf=suk))
 |[],suk,i,h,h'=>by
  have:suk=[]:=by rw[←h',List.drop_eq_nil_iff,←hk];exact List.drop_eq_nil_iff.1 h
  subst this;apply y96;rw[q0j h];simp|y::suf,[],i,h,h'=>by have:=q0e h;have:=List.drop_eq_nil_iff.1 h';omega|y::suf,z::suk,i,h,h'=>by
  have hlt:=q0e h;apply y96;rw[q07 h,cT,q06 h,q06 h',q01 (by omega),qqc l k hl hk suf suk (i+1) (q03 h) (q03 h')];by_cases hx:y=z;·subst hx;simp[eqS]
  ·simp[eqS,hx]
theorem qpk(l k:List Val)(hl:l.length<1152921504606846976):z21 l k=some (decide (l=k)):=by
 apply yd1;by_cases hk:l.length=k.length;·rw[hk,q0m,cF,←hk];exact qqc l k hl hk l k 0 rfl rfl
 ·rw[q1e (by omega),cT];have:l≠k:=fun e=>hk (by rw[e]);simp[this]
theorem qqd{b n:Nominator}(hb:ReadyN b)(h:ReadyN n):z2h b n=some (turnN b (q0r (leadN n) n)):=by
 have hs:=h.settle (leadN n);generalize hw:q0r (leadN n) n=w at hs;have h1:=hb.vlen;have h2:=hb.alen;have hq:=hs.seq;have f0:z1z w=some w:=qjz (hs.fresh w.Seq);have f1:z1z {w with Seq:=w.Seq+1}=some {w with Seq:=w.Seq+1}:=qjz (hs.fresh _);have e0:Nominator.mk w.Node w.Slot w.Round (addI .i64 w.Seq 1) (Trust.mk w.Trust.Threshold w.Trust.Nodes w.Trust.Inner) w.Own w.Votes w.Accepts w.Candidates w.Heard={w with Seq:=w.Seq+1}:=by rw[Trust.etaM,q1x (by omega) (by omega)]
 apply ydq;rw[qw2 h,hw,bS,y6j _ (q1v hb.tr),bS,qpk _ _ (by omega),bS,qpk _ _ (by omega),bS,e0,f1,bS,f0,bS,q8x,q8x,turnN];by_cases e1:b.Trust=w.Trust<;>by_cases e2:b.Votes=w.Votes<;>by_cases e3:b.Accepts=w.Accepts<;>simp[e1,e2,e3]
def newN(k slot:Int)(t:Trust)(own:Val):Nominator:=⟨k,slot,1,1,t,own,[],[],[],[]⟩
noncomputable def qpp(k slot:Int)(t:Trust)(own:Val):Nominator×Int:=if inR k=false then(q9s,5)else if slot<0∨1000000<slot then(q9s,1)else if verr t≠0 then(q9s,verr t)else if 200<own.length then(q9s,3)else(q0r (leadN (newN k slot t own)) (newN k slot t own),0)
theorem qlm{k slot:Int}{t:Trust}{own:Val}(hk:inR k=true)(hs:0≤slot∧slot≤1000000)(ht:valid t=true)(ho:own.length≤200):ReadyN (newN k slot t own):=⟨hk,hs,by simp[newN],by simp[newN],ht,ho,rfl,rfl,rfl,fun x hx=>by simp[newN]at hx,rfl⟩
theorem qln(k slot:Int){t:Trust}(ht:Small t)(own:Val)(hown:own.length<1000000):z34 k slot t own=some (qpp k slot t own):=by apply ydz;rw[qon,bS,qbf _ ht,bS,qpp];cases hk:inR k with|false=>rfl|true=>
  simp only[nT,cF,Bool.true_eq_false,if_false];by_cases h1:slot<0;·rw[q02 h1,cT,if_pos (.inl h1)];rfl
  ·by_cases h2:1000000<slot;·rw[q00 (by omega),cF,q02 h2,cT,if_pos (.inr h2)];rfl
   ·rw[q00 (by omega),cF,q00 (by omega),cF,if_neg (by omega)];by_cases h3:verr t=0
    ·have hv:=(q67 t).1 h3;rw[h3,q0m,cF,if_neg (by simp)];by_cases h4:200<own.length;·rw[q02 (by omega),cT,if_pos h4];rfl
     ·rw[q00 (by omega),cF,if_neg h4,Trust.etaM];have hr:=qlm hk (slot:=slot) (by omega) hv (show own.length≤200 by omega);have hs:=qw2 hr;have hw:=hr.settle (leadN (newN k slot t own));have hf:=qjz (hw.fresh (q0r (leadN (newN k slot t own)) (newN k slot t own)).Seq);have hs':z35 ⟨k,slot,1,1,t,own,[],[],[],[]⟩=_:=hs;have hf':z1z (q0r (leadN (newN k slot t own)) (newN k slot t own))=_:=hf;rw[hs',bS,hf',bS];rw[Trust.etaM]
    ·rw[q1e h3,cT,if_pos h3];rfl
noncomputable def turned(n u:Nominator):Nominator:=turnN n (q0r (leadN u) u)
noncomputable def hearN(n:Nominator)(m:Nomination):Nominator×Int:=if qhc n=false∨nomB m=false∨m.Node=n.Node then(q9s,1)else if oldN n.Heard m=true then(q9s,9)else(turned n {n with Heard:=q1w m n.Heard},0)
noncomputable def tickN(n:Nominator):Nominator×Int:=if qhc n=false then(q9s,1)else if n.Round=1000 then(q9s,3)else(turned n {n with Round:=n.Round+1},0)
theorem qqg(x:Nomination)(k:Int):z4q x k=some (if x.Node<k then-1 else if k<x.Node then 1 else 0):=ye3 _ _ _ (by rw[qdg];rfl)
theorem qss{l:List Nomination}(hl:l.length≤10)(hp:l.Pairwise (fun a b=>a.Node<b.Node))(k:Int):∀(n i j:Nat),j-i≤n→i≤posN k l→posN k l≤j→j≤l.length→z0f l k ((l.length:Nat):Int) (i:Int) (j:Int)=some (((posN k l:Nat):Int),q7x k l)
 |n,i,j,hn,hi,hj,hjl=>by
  apply yh1;by_cases hij:i<j
  ·obtain⟨n,rfl⟩:∃m,n=m+1:=⟨n-1,by omega⟩;have hmid:=y0t ⟨i,by omega⟩ ⟨j,by omega⟩;dsimp only at hmid;have hml:(i+j)/2<l.length:=by omega
   have hg:l[(i+j)/2]?=some l[(i+j)/2]:=by simp[hml]
   have hpl:=qfi (k:=k) hp _ _ hg;rw[q02 (by omega),cT,hmid,q0l (by omega) (by rw[tN];exact hg),qqg,bS];by_cases h1:l[(i+j)/2].Node<k;·rw[if_pos h1,q02 (by decide),cT,q01 (by omega)];exact qss hl hp k n ((i+j)/2+1) j (by omega) (by have:=hpl.1 h1;omega) hj hjl
   ·rw[if_neg h1,q00 (by split<;>decide),cF];exact qss hl hp k n i ((i+j)/2) (by omega) hi (by have:¬(i+j)/2<posN k l:=fun h=>h1 (hpl.2 h);omega) (by omega)
  ·have hij':i=posN k l:=by omega
   subst hij';rw[q00 (by omega),cF];unfold q7x;by_cases he:posN k l<l.length
   ·have hg:l[posN k l]?=some l[posN k l]:=List.getElem?_eq_getElem he;have hpl:=qfi (k:=k) hp _ _ hg;have h1:¬l[posN k l].Node<k:=by rw[hpl];omega
    rw[q02 (by omega),cT,q0l (by omega) (by rw[tN];exact hg),qqg,bS,hg,if_neg h1];by_cases h2:k<l[posN k l].Node
    ·have:¬l[posN k l].Node=k:=by omega
     simp[h2,this,eqB]
    ·have:l[posN k l].Node=k:=by omega
     simp[this,eqB]
   ·rw[q00 (by omega),cF,List.getElem?_eq_none (by omega)]
theorem yax{l:List Nomination}(hl:l.length≤10)(hp:l.Pairwise (fun a b=>a.Node<b.Node))(k:Int):z15 l k=some (((posN k l:Nat):Int),q7x k l):=by apply yg1;exact qss hl hp k l.length 0 l.length (by omega) (by omega) (qsp k l) (Nat.le_refl _)
theorem y0j(l:List Nomination):(l.map q0y).all (q74 7)=true:=by rw[List.all_eq_true];intro x hx;obtain⟨y,_,rfl⟩:=List.mem_map.1 hx;rfl
theorem qv5(l:List Nomination)(hl:l.length<1000000)(m:Nomination)(i:Nat)(hi:i≤l.length):z4i (i:Int) [m] l=some (l.take i++m::l.drop i,()):=by
 refine qks (T:=tn) (m:=q34 7) sigOk (by kernel_rfl) rfl ?_;show libA (q34 7) [.ref 0,.d (.v (.int .i64 i)),.d (.list [q0y m])] [[.own (l.map q0y) false]]=some (.d (.list ((l.take i++m::l.drop i).map q0y)),[[.undef]]);unfold libA q34;have h1:(i:Int)≤((l.map q0y).length:Int):=by simp;omega
 have h2:(l.map q0y).length<q0f:=by simp[q0f];omega
 have h3:q74 7 (q0y m)=true:=rfl;simp only[Int.natCast_nonneg,h1,h2,h3,y0j,and_self,if_true,tN];simp only[List.map_append,List.map_cons,List.map_take,List.map_drop];rfl
theorem qpz{n:Nominator}(hs:SmallR n){m:Nomination}(hm:SmallN m):z3r n m=some (hearN n m):=by apply yec;rw[qmp hs,bS,qu5 hm,bS,hearN];cases hv:qhc n with|false=>rfl|true=>cases hx:nomB m with|false=>rfl|true=>
   have h:=q62.1 hv;simp only[nT,cF,Bool.true_eq_false,false_or];by_cases hn:m.Node=n.Node;·rw[if_pos hn,hn,q25];rfl
   ·rw[if_neg hn,q2m hn,cF];have hp:=h.asc;have hh:=h.hlen;rw[yax hh hp,bS,qkt _ (by omega)];have hpl:=qsp m.Node n.Heard;have hw:∀H,Nominator.mk n.Node n.Slot n.Round n.Seq (Trust.mk n.Trust.Threshold n.Trust.Nodes n.Trust.Inner) n.Own n.Votes n.Accepts n.Candidates H={n with Heard:=H}:=fun H=>by rw[Trust.etaM]
    have ht:=qqd h (h.withH hx hn);rw[qig]at ht⊢;simp only[bS,qmn];cases hf:q7x m.Node n.Heard with
    |true=>rw[hf,if_pos rfl]at ht;unfold q7x at hf;cases hg:n.Heard[posN m.Node n.Heard]? with|none=>rw[hg]at hf;cases hf|some y=>
      rw[hg]at hf;have hy:y.Node=m.Node:=by simpa using hf
      have hold:oldN n.Heard m=(decide (y.Node=m.Node)&&decide (m.Seq≤y.Seq)):=by rw[qmo hp,hg]
      simp only[cT,if_true];rw[hold,q0l (by omega) (by rw[tN];exact hg),q0l (by omega) (by rw[tN];exact hg),q47 (by rw[tN];exact hg),tN,hw,ht,bS,q8x];by_cases hq:m.Seq≤y.Seq<;>simp[leB,hy,hq]<;>rfl
    |false=>
     rw[hf,if_neg (by simp)]at ht;unfold q7x at hf;have hold:oldN n.Heard m=false:=by rw[qmo hp];cases hg:n.Heard[posN m.Node n.Heard]? with|none=>rfl|some y=>rw[hg]at hf;simp only at hf;simp[hf]
     simp only[cF,hold,fT,if_false];rw[qv5 _ (by omega) m _ hpl,bS,hw,ht,bS,q8x];rfl
theorem qzw{n:Nominator}(hs:SmallR n):z5m n=some (tickN n):=by apply yeg;rw[qmp hs,bS,tickN];cases hv:qhc n with|false=>rfl|true=>
  have h:=q62.1 hv;simp only[nT,cF,Bool.true_eq_false,if_false];by_cases e:n.Round=1000;·rw[e,q25,cT,if_pos rfl];rfl
  ·have hr:=h.round;rw[q2m e,cF,if_neg e,q1x (by omega) (by omega)];have hw:Nominator.mk n.Node n.Slot (n.Round+1) n.Seq (Trust.mk n.Trust.Threshold n.Trust.Nodes n.Trust.Inner) n.Own n.Votes n.Accepts n.Candidates n.Heard={n with Round:=n.Round+1}:=by rw[Trust.etaM]
   rw[hw,qqd h (h.withR (by omega) (by omega)),bS,q8x];rfl
theorem qpl{n:Nominator}(ht:Fits n.Trust)(h1:n.Votes.length<1000000)(h2:n.Accepts.length<1000000):z45 n=some (sayN n):=by apply ygs;rw[qnu,bS,qjd (m:=sayN n) ht h1 h2,bS,qmn]
noncomputable def nomEq(a b:Nomination):Bool:=decide (a.Node=b.Node)&&(decide (a.Seq=b.Seq)&&(decide (a.Trust=b.Trust)&&(decide (a.Votes=b.Votes)&&decide (a.Accepts=b.Accepts))))
theorem qqk{a b:Nomination}:nomEq a b=true↔a=b:=by cases a;cases b;simp[nomEq]
noncomputable def q9j:List Nomination→List Nomination→Bool|[],[]=>true|a::l,b::k=>nomEq a b&&q9j l k|_,_=>false
theorem qbp:∀{l k:List Nomination},q9j l k=true↔l=k|[],[]=>by simp[q9j]|[],_::_=>by simp[q9j]|_::_,[]=>by simp[q9j]|a::l,b::k=>by rw[q9j,aT,qqk,qbp];simp
noncomputable def sameN(a b:Nominator):Bool:=nomEq (sayN a) (sayN b)&&(decide (a.Slot=b.Slot)&&(decide (a.Round=b.Round)&&(decide (a.Own=b.Own)&&(decide (a.Candidates=b.Candidates)&&q9j a.Heard b.Heard))))
theorem qqv{a b:Nominator}:sameN a b=true↔a=b:=by
 simp only[sameN,aT,dT',qqk,qbp];constructor;·rintro⟨h1,h2,h3,h4,h5,h6⟩;cases a;cases b;simp only[sayN,Nomination.mk.injEq]at*;obtain⟨rfl,rfl,rfl,rfl,rfl⟩:=h1;subst h2;subst h3;subst h4;subst h5;subst h6;rfl
 ·rintro rfl;exact⟨rfl,rfl,rfl,rfl,rfl,rfl⟩
theorem qqh(l k:List Val)(hl:l.length<1152921504606846976)(hk:l.length=k.length):∀(suf suk:List Val)(i:Nat),l.drop i=suf→k.drop i=suk→z5s l k ((l.length:Nat):Int) (i:Int)=some (decide (suf=suk))
 |[],suk,i,h,h'=>by
  have:suk=[]:=by rw[←h',List.drop_eq_nil_iff,←hk];exact List.drop_eq_nil_iff.1 h
  subst this;apply y8l;rw[q0j h];simp|y::suf,[],i,h,h'=>by have:=q0e h;have:=List.drop_eq_nil_iff.1 h';omega|y::suf,z::suk,i,h,h'=>by
  have hlt:=q0e h;apply y8l;rw[q07 h,cT,q06 h,q06 h',q01 (by omega),qqh l k hl hk suf suk (i+1) (q03 h) (q03 h')];by_cases hx:y=z;·subst hx;simp[eqS]
  ·simp[eqS,hx]
theorem q5e(l k:List Val)(hl:l.length<1152921504606846976):z5x l k=some (decide (l=k)):=by
 apply yfc;by_cases hk:l.length=k.length;·rw[hk,q0m,cF,←hk];exact qqh l k hl hk l k 0 rfl rfl
 ·rw[q1e (by omega),cT];have:l≠k:=fun e=>hk (by rw[e]);simp[this]
theorem qzc{a:Nomination}(h:SmallN a)(b:Nomination):z4l a b=some (nomEq a b):=by apply ygb;rw[qv8 _ h.tr,bS,q5e _ _ (by have:=h.votes;omega),bS,q5e _ _ (by have:=h.accs;omega)];simp only[eqB,nomEq,bS];cases decide (a.Node=b.Node)<;>cases decide (a.Seq=b.Seq)<;>cases decide (a.Trust=b.Trust)<;>cases decide (a.Votes=b.Votes)<;>rfl
theorem qq2(a b:Nominator)(hl:a.Heard.length<1000000)(hk:a.Heard.length=b.Heard.length)(hm:∀m∈a.Heard,SmallN m):∀(suf suk:List Nomination)(i:Nat),a.Heard.drop i=suf→b.Heard.drop i=suk→z4y ((a.Heard.length:Nat):Int) (i:Int) a.Node a.Slot a.Round a.Seq a.Trust.Threshold a.Trust.Nodes a.Trust.Inner a.Own a.Votes a.Accepts a.Candidates a.Heard b.Node b.Slot b.Round b.Seq b.Trust.Threshold b.Trust.Nodes b.Trust.Inner b.Own b.Votes b.Accepts b.Candidates b.Heard=some (q9j suf suk)
 |[],suk,i,h,h'=>by
  have:suk=[]:=by rw[←h',List.drop_eq_nil_iff,←hk];exact List.drop_eq_nil_iff.1 h
  subst this;apply y89;rw[q0j h];rfl|y::suf,[],i,h,h'=>by have:=q0e h;have:=List.drop_eq_nil_iff.1 h';omega|y::suf,z::suk,i,h,h'=>by have hlt:=q0e h;apply y89;rw[q07 h,cT,q06 h,q06 h',qzc (hm y (List.mem_of_mem_drop (i:=i) (by rw[h];simp))),bS,q01 (by omega),qq2 a b hl hk hm suf suk (i+1) (q03 h) (q03 h'),q9j];cases nomEq y z<;>rfl
theorem qyf{a:Nominator}(h:SmallR a)(b:Nominator):z72 a b=some (sameN a b):=by
 apply yg4;rw[qv8 _ h.tr,bS,q5e _ _ (by have:=h.votes;omega),bS,q5e _ _ (by have:=h.accs;omega),bS,q5e _ _ (by have:=h.cands;omega),bS];have heq:(bif neB ((a.Heard.length:Nat):Int) ((b.Heard.length:Nat):Int)then some false else z4y ((a.Heard.length:Nat):Int) 0 a.Node a.Slot a.Round a.Seq a.Trust.Threshold a.Trust.Nodes a.Trust.Inner a.Own a.Votes a.Accepts a.Candidates a.Heard b.Node b.Slot b.Round b.Seq b.Trust.Threshold b.Trust.Nodes b.Trust.Inner b.Own b.Votes b.Accepts b.Candidates b.Heard)=some (q9j a.Heard b.Heard):=by
  by_cases hk:a.Heard.length=b.Heard.length
  ·have:neB ((a.Heard.length:Nat):Int) ((b.Heard.length:Nat):Int)=false:=by rw[hk];exact q0m _
   rw[this,cF];exact qq2 a b h.heard hk h.msgs a.Heard b.Heard 0 rfl rfl
  ·rw[q1e (by omega),cT];congr 1;cases e:q9j a.Heard b.Heard with|false=>rfl|true=>exact absurd (by rw[qbp.1 e]) hk
 rw[heq];have e:sameN a b=(decide (a.Node=b.Node)&&(decide (a.Slot=b.Slot)&&(decide (a.Round=b.Round)&&(decide (a.Seq=b.Seq)&&(decide (a.Own=b.Own)&&(decide (a.Trust=b.Trust)&&(decide (a.Votes=b.Votes)&&(decide (a.Accepts=b.Accepts)&&(decide (a.Candidates=b.Candidates)&&q9j a.Heard b.Heard))))))))):=by
  rw[Bool.eq_iff_iff,qqv];simp only[aT,dT',qbp];constructor;·rintro rfl;exact⟨rfl,rfl,rfl,rfl,rfl,rfl,rfl,rfl,rfl,rfl⟩
  ·rintro⟨h1,h2,h3,h4,h5,h6,h7,h8,h9,h10⟩;cases a;cases b;simp only at h1 h2 h3 h4 h5 h6 h7 h8 h9 h10;subst h1;subst h2;subst h3;subst h4;subst h5;subst h6;subst h7;subst h8;subst h9;subst h10;rfl
 rw[e];simp only[neB,eqS];cases decide (a.Node=b.Node)<;>cases decide (a.Slot=b.Slot)<;>cases decide (a.Round=b.Round)<;>cases decide (a.Seq=b.Seq)<;>cases decide (a.Own=b.Own)<;>cases decide (a.Trust=b.Trust)<;>cases decide (a.Votes=b.Votes)<;>cases decide (a.Accepts=b.Accepts)<;>cases decide (a.Candidates=b.Candidates)<;>rfl
def someV:List Val:=[[97],[98],[99],[97,97],[97,98],[122,122],[97,98,99]]
theorem qkx:q18 someV=true:=by decide+kernel
theorem qpu{k:List Val}(h:k.Sublist someV):q18 k=true:=by obtain⟨h1,h2,h3⟩:=q0h.1 qkx;have:=h.length_le;exact q0h.2 ⟨fun x hx=>h1 x (h.subset hx),h2.sublist h,by omega⟩
theorem y2s{l:List Int}{i:Int}(h:q0t l i):∃x j,z7d l i=some (x,l,j)∧x∈someV∧q0t l j:=by
 obtain⟨x0,i0,g0,g1,g2,g3⟩:=N_ok (n:=8) (by omega) (by omega) h;have key:∀x:Val,([[97],[98],[97,97],[97,98],[99],[122,122],[97,98,99],[98]]:List Val)[x0.toNat]?=some x→x∈someV→∃x j,z7d l i=some (x,l,j)∧x∈someV∧q0t l j:=fun x hx hs=>by refine⟨x,i0,yhh _ _ _ ?_,hs,g3⟩;rw[g0,bS];exact q0l g1 hx _
 have:x0=0∨x0=1∨x0=2∨x0=3∨x0=4∨x0=5∨x0=6∨x0=7:=by omega
 rcases this with e|e|e|e|e|e|e|e<;>subst e;·exact key [97] rfl (by decide)
 ·exact key [98] rfl (by decide)
 ·exact key [97,97] rfl (by decide)
 ·exact key [97,98] rfl (by decide)
 ·exact key [99] rfl (by decide)
 ·exact key [122,122] rfl (by decide)
 ·exact key [97,98,99] rfl (by decide)
 ·exact key [98] rfl (by decide)
theorem qb9{l:List Int}(n:Int):∀(suf:List Val)(a:Nat)(acc:List Val)(i:Int),someV.drop a=suf→acc.Sublist (someV.take a)→q0t l i→∃k j,z3d n acc someV ((someV.length:Nat):Int) (a:Int) l i=some (k,l,j)∧k.Sublist someV∧q0t l j
 |[],a,acc,i,g,ha,h=>by refine⟨acc,i,qvn _ _ _ _ _ _ _ _ (by rw[q0j g];rfl),?_,h⟩;rw[List.take_of_length_le (List.drop_eq_nil_iff.1 g)]at ha;exact ha|y::suf,a,acc,i,g,ha,h=>by
  have hlt:=q0e g;have h7:someV.length=7:=rfl;have hy:someV[a]?=some y:=by have:=congrArg (·[0]?) g;simpa using this
  have hts:someV.take (a+1)=someV.take a++[y]:=by rw[List.take_add_one,hy];rfl
  have stay:acc.Sublist (someV.take (a+1)):=by rw[hts];exact ha.trans (List.sublist_append_left _ _)
  have more:(acc++[y]).Sublist (someV.take (a+1)):=by rw[hts];exact ha.append (List.Sublist.refl _)
  have hal:=ha.length_le;by_cases hn:((acc.length:Nat):Int)<n
  ·obtain⟨x0,i0,g0,g1,g2,g3⟩:=N_ok (n:=3) (by omega) (by omega) h;by_cases e:x0=0;·obtain⟨k,j,r1,r2,r3⟩:=qb9 n suf (a+1) (acc++[y]) i0 (q03 g) more g3;refine⟨k,j,qvn _ _ _ _ _ _ _ _ ?_,r2,r3⟩;rw[q07 g,cT,q06 g,q02 hn,cT,g0,bS];dsimp only;rw[e,q25,cT,q0i (by simp[q0f];simp at hal;omega),q01 (by omega)];exact r1
   ·obtain⟨k,j,r1,r2,r3⟩:=qb9 n suf (a+1) acc i0 (q03 g) stay g3;refine⟨k,j,qvn _ _ _ _ _ _ _ _ ?_,r2,r3⟩;rw[q07 g,cT,q06 g,q02 hn,cT,g0,bS];dsimp only;rw[q2m e,cF,q01 (by omega)];exact r1
  ·obtain⟨k,j,r1,r2,r3⟩:=qb9 n suf (a+1) acc i (q03 g) stay h;refine⟨k,j,qvn _ _ _ _ _ _ _ _ ?_,r2,r3⟩;rw[q07 g,cT,q06 g,q00 (by omega),cF,q01 (by omega)];exact r1
theorem qm4(n:Int){l:List Int}{i:Int}(h:q0t l i):∃k j,z79 n l i=some (k,l,j)∧k.Sublist someV∧q0t l j:=by obtain⟨k,j,r1,r2,r3⟩:=qb9 (l:=l) n someV 0 [] i rfl (List.nil_sublist _) h;exact⟨k,j,yfd _ _ _ _ r1,r2,r3⟩
structure DrawnN(n:Int)(m:Nomination):Prop where
 msg:nomB m=true
 node:0≤m.Node∧m.Node<n
 seq:1≤m.Seq∧m.Seq≤5
 votes:∀x∈m.Votes,x∈someV
 accs:∀x∈m.Accepts,x∈someV
theorem y3f{n:Int}(h1:1≤n)(h2:n≤10){l:List Int}{i:Int}(h:q0t l i):∃t j,z6u n 2 l i=some (t,l,j)∧valid t=true∧q0t l j:=by obtain⟨t,j,g1,g2,_,g4⟩:=qwa h1 h2 1 (by decide) h;exact⟨t,j,g1,g2.1,g4⟩
theorem ql7{n:Int}(h1:1≤n)(h2:n≤10){l:List Int}{i:Int}(h:q0t l i):∃m j,z6n n l i=some (m,l,j)∧DrawnN n m∧q0t l j:=by obtain⟨x0,i0,g0,g0',g0'x,a0⟩:=N_ok (n:=n) (by omega) (by omega) h;obtain⟨x1,i1,g1,g1',g1'x,a1⟩:=q78 (a:=1) (b:=5) (by omega) (by omega) (by omega) a0;obtain⟨t,i2,g2,g2',a2⟩:=y3f h1 h2 a1;obtain⟨k,i3,g3,g3',a3⟩:=qm4 3 a2;obtain⟨q,i4,g4,g4',a4⟩:=qm4 2 a3;refine⟨⟨x0,x1,t,k,q⟩,i4,ycs _ _ _ _ ?_,⟨q1q.2 ⟨by simp[inR];omega,by show 1≤x1;omega,g2',qpu g3',qpu g4'⟩,by dsimp only;omega,by dsimp only;omega,fun x hx=>g3'.subset hx,fun x hx=>g4'.subset hx⟩,a4⟩;rw[g0,bS];dsimp only;rw[g1,bS];dsimp only;rw[g2,bS];dsimp only;rw[g3,bS];dsimp only;rw[g4,bS,Trust.etaM]
structure InV(n:Nominator):Prop where
 own:n.Own=[]∨n.Own∈someV
 votes:∀x∈n.Votes,x∈someV
 accs:∀x∈n.Accepts,x∈someV
 heard:∀m∈n.Heard,(∀x∈m.Votes,x∈someV)∧∀x∈m.Accepts,x∈someV
theorem qyb{V:List Val}(h:q18 V=true)(hv:∀x∈V,x∈someV):V.length<40:=by have:=q3i (q0h.1 h).2.1 hv;have:someV.length=7:=rfl;omega
theorem y78{n:Nominator}(h:InV n){V:List Val}(hV:∀x∈V,x∈someV)(u:Int):∀x∈leadV n V u,x∈someV:=by
 intro x hx;unfold leadV at hx;split at hx
 ·split at hx;·exact hV x hx
  ·rename_i ho;rcases qbh hx with h1|h1;·exact hV x h1
   ·rw[h1];exact h.own.resolve_left ho
 ·rcases qlr hx with h1|⟨m,h1,_,h2⟩;·exact hV x h1
  ·rcases h2 with h2|h2;·exact(h.heard m h1).1 x h2
   ·exact(h.heard m h1).2 x h2
theorem qwh{n:Nominator}(h:InV n):∀(L:List Int){V:List Val},(∀x∈V,x∈someV)→∀x∈L.foldl (leadV n) V,x∈someV|[],_,hV=>hV|u::L,V,hV=>qwh h L (V:=leadV n V u) (y78 h hV u)
theorem InV.listen{n:Nominator}(h:InV n)(L:List Int):InV (q1r L n):=by
 unfold q1r;split;·exact⟨h.own,qwh h L h.votes,h.accs,h.heard⟩
 ·exact h
theorem InV.known{n:Nominator}(h:InV n){x:Val}(hx:x∈qdl n):x∈someV:=by
 obtain⟨m,hm,hx⟩:=qfs.1 (q4g.1 hx);rcases List.mem_append.1 hm with hm|hm
 ·rcases hx with hx|hx;·exact(h.heard m hm).1 x hx
  ·exact(h.heard m hm).2 x hx
 ·simp at hm;subst hm;rcases hx with hx|hx;·exact h.votes x hx
  ·exact h.accs x hx
theorem InV.settleF:∀(k:Nat){n:Nominator},InV n→InV (q3t k n)|0,_,h=>h|k+1,n,h=>by rw[q3t];cases hx:nextN n with|none=>exact h|some x=>
   refine InV.settleF k (n:=qgh n x) ⟨h.own,h.votes,fun y hy=>?_,h.heard⟩;rcases qbh hy with e|e;·exact h.accs y e
   ·rw[e];exact h.known (qfk hx).1
theorem InV.settle{n:Nominator}(h:InV n)(L:List Int):InV (q0r L n):=by have:=(h.listen L).settleF 60;exact⟨this.own,this.votes,this.accs,this.heard⟩
theorem InV.turn{b n:Nominator}(h:InV n):InV (turned b n):=by obtain⟨s,_,g2,_⟩:=q7o b (q0r (leadN n) n);unfold turned;rw[g2];have:=h.settle (leadN n);exact⟨this.own,this.votes,this.accs,this.heard⟩
theorem InV.hear{n:Nominator}(h:InV n){m:Nomination}(h1:∀x∈m.Votes,x∈someV)(h2:∀x∈m.Accepts,x∈someV):InV {n with Heard:=q1w m n.Heard}:=⟨h.own,h.votes,h.accs,fun k hk=>by
  rcases qfw hk with e|e;·subst e;exact⟨h1,h2⟩
  ·exact h.heard k e⟩
def mayV(n:Nominator)(x:Val)(u:Int):Prop:=u=n.Node∧x=n.Own∧n.Own≠[]∨u≠n.Node∧∃m∈n.Heard,m.Node=u∧(x∈m.Votes∨x∈m.Accepts)
def atN(S:List Nominator)(b:Nat):Nominator:=S.getD b q9s
def OldS(S:List Nominator)(a b:Nat):Prop:=oldN (atN S b).Heard (sayN (atN S a))=true
noncomputable def q72(S:List Nominator)(a b:Nat):Nominator:=turned (atN S b) {atN S b with Heard:=q1w (sayN (atN S a)) (atN S b).Heard}
theorem qb0{S:List Nominator}{b:Nat}(h:b<S.length):S[b]?=some (atN S b):=by simp[atN,List.getD_eq_getElem?_getD,h]
theorem y32{S:List Nominator}{b:Nat}(h:b<S.length)(x:Nominator)(c:Nat):atN (S.set b x) c=if b=c then x else atN S c:=by
 simp only[atN,List.getD_eq_getElem?_getD,List.getElem?_set];by_cases e:b=c;·subst e;simp[h]
 ·simp[e]
structure CalmI(N to M:Nat)(I:List Nominator→Prop):Prop where
 n10:N≤10
 to10:to<1024
 len:∀S,I S→S.length=N
 ready:∀S,I S→∀b,b<N→ReadyN (atN S b)node:∀S,I S→∀b,b<N→(atN S b).Node=(b:Int)step:∀S,I S→∀a b,a<N→b<N→a≠b→to.testBit b=true→oldN (atN S b).Heard (sayN (atN S a))=false→I (S.set b (q72 S a b))pot:∀S,I S→(S.map fun n=>n.Seq.toNat).sum≤M
def Pair(N to a b:Nat):Prop:=a<N∧b<N∧a≠b∧to.testBit b=true
structure TransN(N to:Nat)(I:List Nominator→Prop)(P:Nat→Nat→Prop)(S:List Nominator)(ag:Bool)(S':List Nominator)(ag':Bool):Prop where
 inv:I S'
 mono:∀c,c<N→(atN S c).Seq≤(atN S' c).Seq
 quiet:ag'=false→ag=false∧S'=S
 old:(∀c,c<N→(atN S' c).Seq=(atN S c).Seq)→(∀c d,P c d→OldS S' c d)∧∀c d,c<N→d<N→OldS S c d→OldS S' c d
 calm:(∀c d,Pair N to c d→OldS S c d)→S'=S∧ag'=ag
theorem TransN.refl{N to:Nat}{I:List Nominator→Prop}{S:List Nominator}{ag:Bool}(h:I S):TransN N to I (fun _ _=>False) S ag S ag:=⟨h,fun _ _=>Int.le_refl _,fun e=>⟨e,rfl⟩,fun _=>⟨fun _ _ e=>e.elim,fun _ _ _ _ e=>e⟩,fun _=>⟨rfl,rfl⟩⟩
theorem TransN.weak{N to:Nat}{I:List Nominator→Prop}{P Q:Nat→Nat→Prop}{S S':List Nominator}{ag ag':Bool}(h:TransN N to I P S ag S' ag')(hq:∀c d,Q c d→P c d):TransN N to I Q S ag S' ag':=⟨h.inv,h.mono,h.quiet,fun e=>⟨fun c d q=>(h.old e).1 c d (hq c d q),(h.old e).2⟩,h.calm⟩
theorem TransN.trans{N to:Nat}{I:List Nominator→Prop}{P Q:Nat→Nat→Prop}{S S1 S2:List Nominator}{ag ag1 ag2:Bool}(hQ:∀c d,P c d→c<N∧d<N)(h:TransN N to I P S ag S1 ag1)(h':TransN N to I Q S1 ag1 S2 ag2):TransN N to I (fun c d=>P c d∨Q c d) S ag S2 ag2:=by
 refine⟨h'.inv,fun c hc=>Int.le_trans (h.mono c hc) (h'.mono c hc),fun e=>?_,fun e=>?_,fun e=>?_⟩;·obtain⟨e1,e2⟩:=h'.quiet e;obtain⟨e3,e4⟩:=h.quiet e1;exact⟨e3,e2.trans e4⟩
 ·have e1:∀c,c<N→(atN S1 c).Seq=(atN S c).Seq:=fun c hc=>by have:=h.mono c hc;have:=h'.mono c hc;have:=e c hc;omega
  have e2:∀c,c<N→(atN S2 c).Seq=(atN S1 c).Seq:=fun c hc=>by have:=e1 c hc;have:=e c hc;omega
  obtain⟨o1,o2⟩:=h.old e1;obtain⟨o3,o4⟩:=h'.old e2;refine⟨fun c d hp=>?_,fun c d hc hd ho=>o4 c d hc hd (o2 c d hc hd ho)⟩;rcases hp with hp|hp;·exact o4 c d (hQ c d hp).1 (hQ c d hp).2 (o1 c d hp)
  ·exact o3 c d hp
 ·obtain⟨e1,e2⟩:=h.calm e;subst e1;obtain⟨e3,e4⟩:=h'.calm e;exact⟨e3,e4.trans e2⟩
theorem y49(m:Nomination)(l:List Nomination):oldN (q1w m l) m=true:=by rw[oldN,List.any_eq_true];exact⟨m,qd0,by simp⟩
theorem y1v{l:List Nomination}{m k:Nomination}(h:oldN l k=true)(hm:oldN l m=false):oldN (q1w m l) k=true:=by
 rw[oldN,List.any_eq_true]at h⊢;obtain⟨x,h1,h2⟩:=h;simp only[aT,dT']at h2;by_cases e:x.Node=m.Node;·refine⟨m,qd0,?_⟩;rw[oldN,List.any_eq_false]at hm;have:=hm x h1;simp only[aT,dT',not_and,e,forall_const]at this;simp only[aT,dT'];exact⟨by rw[←e];exact h2.1,by omega⟩
 ·exact⟨x,ql4 e h1,by simp[h2]⟩
section
variable {N to M : Nat} {I : List Nominator → Prop} (hC : CalmI N to M I)
include hC
theorem qgn{S:List Nominator}(h:I S){a b:Nat}(hp:Pair N to a b)(ho:oldN (atN S b).Heard (sayN (atN S a))=false):hearN (atN S b) (sayN (atN S a))=(q72 S a b,0)∧StepN (atN S b) (q72 S a b)∧(q72 S a b).Heard=q1w (sayN (atN S a)) (atN S b).Heard:=by
 obtain⟨h1,h2,h3,h4⟩:=hp;have hb:=hC.ready S h b h2;have ha:=hC.ready S h a h1;have hne:(sayN (atN S a)).Node≠(atN S b).Node:=by show(atN S a).Node≠_;rw[hC.node S h a h1,hC.node S h b h2];omega
 have hu:=hb.withH ha.say hne;refine⟨?_,(qft (n:=atN S b) hu (leadN {atN S b with Heard:=q1w (sayN (atN S a)) (atN S b).Heard}) rfl rfl rfl rfl rfl rfl).1,?_⟩;·rw[hearN,if_neg (by rw[q62.2 hb,ha.say];simp[hne]),if_neg (by rw[ho];simp)];rfl
 ·obtain⟨s,_,g2,_⟩:=q7o (atN S b) (q0r (leadN {atN S b with Heard:=q1w (sayN (atN S a)) (atN S b).Heard}) {atN S b with Heard:=q1w (sayN (atN S a)) (atN S b).Heard});obtain⟨A,C,f1,_⟩:=q5p (leadN {atN S b with Heard:=q1w (sayN (atN S a)) (atN S b).Heard}) {atN S b with Heard:=q1w (sayN (atN S a)) (atN S b).Heard};unfold q72 turned;rw[g2,f1]
theorem qyn{S:List Nominator}(h:I S){ag:Bool}{a b:Nat}(hp:Pair N to a b)(ho:oldN (atN S b).Heard (sayN (atN S a))=false):TransN N to I (fun c d=>c=a∧d=b) S ag (S.set b (q72 S a b)) (ag||!sameN (atN S b) (q72 S a b)):=by
 obtain⟨f1,f2,f3⟩:=qgn hC h hp ho;have hl:=hC.len S h;have hp':=hp;obtain⟨h1,h2,h3,h4⟩:=hp';have hset:=y32 (S:=S) (b:=b) (by omega) (q72 S a b);have hsay:∀c,c<N→(atN (S.set b (q72 S a b)) c).Seq=(atN S c).Seq→∀l,oldN l (sayN (atN (S.set b (q72 S a b)) c))=oldN l (sayN (atN S c)):=fun c hc e l=>by
  have hn:(atN (S.set b (q72 S a b)) c).Node=(atN S c).Node:=by
   rw[hset];split;·rename_i e';subst e';exact f2.node
   ·rfl
  unfold oldN sayN;simp only[e,hn]
 refine⟨hC.step S h a b h1 h2 h3 h4 ho,fun c hc=>?_,fun e=>?_,fun e=>⟨fun c d hcd=>?_,fun c d hc hd hold=>?_⟩,fun e=>?_⟩
 ·rw[hset];split;·rename_i e;subst e;have:=f2.seq;omega
  ·exact Int.le_refl _
 ·cases hag:ag with|true=>rw[hag]at e;simp at e|false=>
   rw[hag,Bool.false_or,Bool.not_eq_false']at e;refine⟨rfl,?_⟩;rw[←qqv.1 e];apply List.ext_getElem?;intro i;rw[List.getElem?_set];split;·rename_i e';subst e';rw[if_pos (by omega),qb0 (by omega)]
   ·rfl
 ·obtain⟨rfl,rfl⟩:=hcd;show oldN _ _=true;rw[hsay c h1 (e c h1),hset,if_pos rfl,f3];exact y49 _ _
 ·show oldN _ _=true;rw[hsay c hc (e c hc),hset];split;·rename_i e';subst e';rw[f3];exact y1v hold ho
  ·exact hold
 ·exact absurd (e a b hp) (by unfold OldS;rw[ho];simp)
theorem qnx(i:Int)(a:Nat)(ha:a<N):∀(r b:Nat)(S:List Nominator)(ag:Bool),b+r=N→I S→∃S' ag',TransN N to I (fun c d=>c=a∧b≤d∧Pair N to c d) S ag S' ag'∧∀R,z3x (to:Int) S' i ag' ((N:Nat):Int) ((a+1:Nat):Int)=some R→z1m (to:Int) S i ag (a:Int) ((N:Nat):Int) (a:Int) ((N:Nat):Int) (b:Int)=some R
 |0,b,S,ag,hb,h=>by
  have hn:=hC.n10;refine⟨S,ag,(TransN.refl h).weak fun c d hcd=>?_,fun R hR=>qpc _ _ _ _ _ _ _ _ _ _ ?_⟩;·obtain⟨_,h1,_,h2,_⟩:=hcd;omega
  ·rw[q00 (by omega),cF,q01 (by omega)];exact hR|r+1,b,S,ag,hb,h=>by
  have hn:=hC.n10;have hl:=hC.len S h;have hto:=hC.to10;have hbN:b<N:=by omega
  have skip:¬Pair N to a b→∃S' ag',TransN N to I (fun c d=>c=a∧b≤d∧Pair N to c d) S ag S' ag'∧∀R,z3x (to:Int) S' i ag' ((N:Nat):Int) ((a+1:Nat):Int)=some R→z1m (to:Int) S i ag (a:Int) ((N:Nat):Int) (a:Int) ((N:Nat):Int) ((b+1:Nat):Int)=some R:=fun hno=>by
   obtain⟨S',ag',t1,t2⟩:=qnx i a ha r (b+1) S ag (by omega) h;refine⟨S',ag',t1.weak fun c d⟨h1,h2,h3⟩=>⟨h1,?_,h3⟩,t2⟩;by_cases e:d=b;·subst e;subst h1;exact absurd h3 hno
   ·omega
  by_cases hab:a=b;·subst hab;obtain⟨S',ag',t1,t2⟩:=skip (fun e=>e.2.2.1 rfl);refine⟨S',ag',t1,fun R hR=>qpc _ _ _ _ _ _ _ _ _ _ ?_⟩;rw[q02 (by omega),cT,q25,cT,q01 (by omega)];exact t2 R hR
  ·cases hbit:to.testBit b with|false=>obtain⟨S',ag',t1,t2⟩:=skip (fun e=>by have:=e.2.2.2;rw[hbit]at this;cases this);refine⟨S',ag',t1,fun R hR=>qpc _ _ _ _ _ _ _ _ _ _ ?_⟩;rw[q02 (by omega),cT,q2m (by omega),cF,q14 hto,bS,q2x (by omega),hbit,Bool.not_false,cT,q01 (by omega)];exact t2 R hR|true=>
    have hp:Pair N to a b:=⟨ha,hbN,hab,hbit⟩;have hra:=hC.ready S h a ha;have hrb:=hC.ready S h b hbN;have hga:=qb0 (S:=S) (b:=a) (by omega);have hgb:=qb0 (S:=S) (b:=b) (by omega);have hsay:z45 (atN S a)=some (sayN (atN S a)):=qpl (q46 hra.tr).1 (by have:=hra.vlen;omega) (by have:=hra.alen;omega);have hhear:=qpz hrb.small (q4q hra.say);have n1:∀{β:Type}(k:Nominator→Option β),nth S (b:Int) k=k (atN S b):=fun k=>q0l (by omega) (by rw[tN];exact hgb) k;have n2:∀{β:Type}(k:Nominator→Option β),nth S (a:Int) k=k (atN S a):=fun k=>q0l (by omega) (by rw[tN];exact hga) k;have n3:∀{β:Type}(k:Nominator→Option β),nthN S b k=k (atN S b):=fun k=>q47 hgb k
    have n4:∀{β:Type}(k:Nominator→Option β),nthN S a k=k (atN S a):=fun k=>q47 hga k;cases ho:oldN (atN S b).Heard (sayN (atN S a))with|true=>
     have hne:(sayN (atN S a)).Node≠(atN S b).Node:=by show(atN S a).Node≠_;rw[hC.node S h a ha,hC.node S h b hbN];omega
     have hh:hearN (atN S b) (sayN (atN S a))=(q9s,9):=by rw[hearN,if_neg (by rw[q62.2 hrb,hra.say];simp[hne]),if_pos ho]
     obtain⟨S',ag',t1,t2⟩:=qnx i a ha r (b+1) S ag (by omega) h;refine⟨S',ag',?_,fun R hR=>qpc _ _ _ _ _ _ _ _ _ _ ?_⟩
     ·refine⟨t1.inv,t1.mono,t1.quiet,fun e=>⟨fun c d⟨h1,h2,h3⟩=>?_,(t1.old e).2⟩,t1.calm⟩;by_cases e':d=b;·subst e';subst h1;exact(t1.old e).2 c d ha hbN ho
      ·exact(t1.old e).1 c d ⟨h1,by omega,h3⟩
     ·rw[q02 (by omega),cT,q2m (by omega),cF,q14 hto,bS,q2x (by omega),hbit,nT,cF,n1,n2,tN,tN,n3,n4,hsay,bS,hhear,bS,hh,q01 (by omega)];exact t2 R hR|false=>
     obtain⟨hh,_,_⟩:=qgn hC h hp ho;have tp:=qyn hC h (ag:=ag) hp ho;obtain⟨S',ag',t1,t2⟩:=qnx i a ha r (b+1) (S.set b (q72 S a b)) (ag||!sameN (atN S b) (q72 S a b)) (by omega) tp.inv;refine⟨S',ag',(tp.trans (fun c d hcd=>by obtain⟨rfl,rfl⟩:=hcd;exact⟨ha,hbN⟩) t1).weak fun c d⟨h1,h2,h3⟩=>?_,fun R hR=>qpc _ _ _ _ _ _ _ _ _ _ ?_⟩
     ·by_cases e':d=b;·exact .inl ⟨h1,e'⟩
      ·exact .inr ⟨h1,by omega,h3⟩
     ·rw[q02 (by omega),cT,q2m (by omega),cF,q14 hto,bS,q2x (by omega),hbit,nT,cF,n1,n2,tN,tN,n3,n4,hsay,bS,hhear,bS,hh,q01 (by omega)];have hm:=qyf hrb.small (q72 S a b);dsimp only;rw[q0m,cF,q25,cT,q8x,n1,n1,n3,n3,hm,bS];cases hag:ag with|true=>rw[hag,Bool.true_or]at t2;rw[cT];exact t2 R hR|false=>rw[hag,Bool.false_or]at t2;rw[cF,n1,n3];exact t2 R hR
theorem y0o(i:Int):∀(r a:Nat)(S:List Nominator)(ag:Bool),a+r=N→I S→∃S' ag',TransN N to I (fun c d=>a≤c∧Pair N to c d) S ag S' ag'∧∀R,(bif(!ag')then some (S',true)else z3v (to:Int) S' (addI .i64 i 1))=some R→z3x (to:Int) S i ag ((N:Nat):Int) (a:Int)=some R
 |0,a,S,ag,ha,h=>by
  refine⟨S,ag,(TransN.refl h).weak fun c d hcd=>?_,fun R hR=>y7g _ _ _ _ _ _ _ ?_⟩;·obtain⟨h1,h2,_⟩:=hcd;omega
  ·rw[q00 (by omega),cF];exact hR|r+1,a,S,ag,ha,h=>by
  obtain⟨S1,ag1,t1,t2⟩:=qnx hC i a (by omega) N 0 S ag (by omega) h;obtain⟨S2,ag2,t3,t4⟩:=y0o i r (a+1) S1 ag1 (by omega) t1.inv;have hl:=hC.len S h;refine⟨S2,ag2,(t1.trans (fun c d hcd=>⟨hcd.2.2.1,hcd.2.2.2.1⟩) t3).weak fun c d⟨h1,h2⟩=>?_,fun R hR=>y7g _ _ _ _ _ _ _ ?_⟩
  ·by_cases e:c=a;·exact .inl ⟨e,by omega,h2⟩
   ·exact .inr ⟨by omega,h2⟩
  ·rw[q02 (by omega),cT,hl];exact t2 R (t4 R hR)
theorem yfe{S S':List Nominator}(h:I S)(h':I S')(hm:∀c,c<N→(atN S c).Seq≤(atN S' c).Seq)(hne:¬∀c,c<N→(atN S' c).Seq=(atN S c).Seq):(S.map fun n=>n.Seq.toNat).sum<(S'.map fun n=>n.Seq.toNat).sum:=by
 have hl:=hC.len S h;have hl':=hC.len S' h';have hq:∀c,c<N→1≤(atN S c).Seq:=fun c hc=>(hC.ready S h c hc).seq.1;have key:∀(l l':List Nominator),l.length=l'.length→(∀c,c<l.length→1≤(atN l c).Seq∧(atN l c).Seq≤(atN l' c).Seq)→(l.map fun n=>n.Seq.toNat).sum≤(l'.map fun n=>n.Seq.toNat).sum∧((l.map fun n=>n.Seq.toNat).sum=(l'.map fun n=>n.Seq.toNat).sum→∀c,c<l.length→(atN l' c).Seq=(atN l c).Seq):=by intro l;induction l with
  |nil=>intro l' hl _;cases l' with|nil=>exact⟨Nat.le_refl _,fun _ c hc=>by simp at hc⟩|cons _ _=>simp at hl
  |cons x r ih=>intro l' hl hc;cases l' with|nil=>simp at hl|cons y r'=>have h0:=hc 0 (by simp);have h0:1≤x.Seq∧x.Seq≤y.Seq:=h0;obtain⟨i1,i2⟩:=ih r' (by simpa using hl) fun c hcr=>hc (c+1) (by simpa using hcr);simp only[List.map_cons,List.sum_cons];refine⟨by omega,fun e c hc'=>?_⟩;cases c with|zero=>show y.Seq=x.Seq;omega|succ c=>exact i2 (by omega) c (by simpa using hc')
 obtain⟨k1,k2⟩:=key S S' (by omega) fun c hc=>⟨hq c (by omega),hm c (by omega)⟩;by_cases e:(S.map fun n=>n.Seq.toNat).sum=(S'.map fun n=>n.Seq.toNat).sum;·exact absurd (fun c hc=>k2 e c (by omega)) hne
 ·omega
theorem qun:∀(r i:Nat)(S:List Nominator),i+r=200→I S→(M+2≤(S.map fun n=>n.Seq.toNat).sum+r∨1≤r∧∀c d,Pair N to c d→OldS S c d)→∃S',z3v (to:Int) S (i:Int)=some (S',true)∧I S'∧∀c d,Pair N to c d→OldS S' c d
 |0,i,S,hi,h,hr=>by have:=hC.pot S h;omega|r+1,i,S,hi,h,hr=>by
  have hl:=hC.len S h;obtain⟨S1,ag1,t1,t2⟩:=y0o hC (i:Int) N 0 S false (by omega) h;have head:∀R,(bif(!ag1)then some (S1,true)else z3v (to:Int) S1 ((i+1:Nat):Int))=some R→z3v (to:Int) S (i:Int)=some R:=fun R hR=>by apply ye2;rw[q02 (by omega),cT,hl];refine t2 R ?_;rw[q01 (by omega)];exact hR
  have full:(∀c,c<N→(atN S1 c).Seq=(atN S c).Seq)→∀c d,Pair N to c d→OldS S1 c d:=fun e c d hp=>(t1.old e).1 c d ⟨Nat.zero_le _,hp⟩;cases hag:ag1 with|false=>obtain⟨_,e⟩:=t1.quiet hag;subst e;exact⟨S1,head _ (by rw[hag];rfl),h,full fun _ _=>rfl⟩|true=>
   rcases hr with hr|⟨_,hr⟩
   ·by_cases e:∀c,c<N→(atN S1 c).Seq=(atN S c).Seq;·have hpot:=hC.pot S h;obtain⟨S',g1,g2,g3⟩:=qun r (i+1) S1 (by omega) t1.inv (.inr ⟨by omega,full e⟩);exact⟨S',head _ (by rw[hag];exact g1),g2,g3⟩
    ·have hlt:=yfe hC h t1.inv t1.mono e;obtain⟨S',g1,g2,g3⟩:=qun r (i+1) S1 (by omega) t1.inv (.inl (by omega));exact⟨S',head _ (by rw[hag];exact g1),g2,g3⟩
   ·have:=(t1.calm hr).2;rw[hag]at this;cases this
theorem yat{S:List Nominator}(h:I S)(hr:M+2≤(S.map fun n=>n.Seq.toNat).sum+200):∃S',law22_calm S (to:Int)=some (S',true)∧I S'∧∀c d,Pair N to c d→OldS S' c d:=by have hl:=hC.len S h;have hn:=hC.n10;obtain⟨S',g1,g2,g3⟩:=qun hC 200 0 S rfl h (.inl hr);refine⟨S',law22_calm_le _ _ _ ?_,g2,g3⟩;rw[q0i (by simp[q0f];omega),List.nil_append];exact g1
end
end Go.Proofs.YtglokalgdbegeaaGreat
namespace Go.Proofs.YtglokalgdbegeaaGreat
open Go Go.Ab Go.Sort
def q84(c:Config)(s:Nat):Bool:=twoB (delC s c)
theorem ValidC.cerr{c:Config}(h:ValidC c):cerr c=0:=q3v.2 h
theorem qb3{n s:Nat}(hn:n≤10)(hs:s<2^n):s<1024:=by have:=pow10 hn;omega
def askE(c:Config)(z:Int):Int:=if cerr c≠0 then cerr c else if z<0 then 1 else if((2^c.Members.length-1:Nat):Int)<z then 1 else 0
theorem ql0{c:Config}{z:Int}(h:askE c z=0):ValidC c∧∃s:Nat,z=(s:Int)∧s<2^c.Members.length:=by
 unfold askE at h;have hp1:=Nat.two_pow_pos c.Members.length;split at h;·rename_i h1;exact absurd h h1
 ·rename_i h1;refine⟨q3v.1 (Classical.not_not.1 h1),z.toNat,?_,?_⟩
  ·split at h;·omega
   ·omega
  ·split at h;·omega
   ·split at h<;>omega
theorem qo3{c:Config}(hv:ValidC c){s:Nat}(hs:s<2^c.Members.length):askE c (s:Int)=0:=by unfold askE;rw[hv.cerr,if_neg (by simp),if_neg (by omega),if_neg (by omega)]
end Go.Proofs.YtglokalgdbegeaaGreat
namespace Go.Proofs.YtglokalgdbegeaaGreat
open Go Go.Ab Go.Sort
end Go.Proofs.YtglokalgdbegeaaGreat
namespace Go.Proofs.YtglokalgdbegeaaGreat
open Go Go.Ab Go.Sort
theorem nz{a:Nat}:a≠0↔∃i,a.testBit i=true:=⟨y5y,fun⟨i,hi⟩e=>by rw[e,Nat.zero_testBit]at hi;cases hi⟩
theorem qvg{a b:Nat}:a&&&b≠0↔∃i,a.testBit i=true∧b.testBit i=true:=by rw[nz];simp only[Nat.testBit_and,aT]
theorem qog{a b:Nat}:ndiff a b≠0↔∃i,a.testBit i=true∧b.testBit i=false:=by rw[nz];simp only[q04,aT,Bool.not_eq_true']
def full(c:Config):Nat:=2^c.Members.length-1
theorem qhu{c:Config}{i:Nat}:(full c).testBit i=decide (i<c.Members.length):=by rw[full,Nat.testBit_two_pow_sub_one]
theorem q8k{c:Config}(hn:c.Members.length≤10):full c<1024:=by have:=pow10 hn;unfold full;omega
theorem qfz{c:Config}{s:Nat}:s<2^c.Members.length↔Sub s (full c):=q7m
theorem y02{c:Config}(hn:c.Members.length≤10):Sub (decl c) (full c):=qfz.1 (qan hn)
structure PairOk(n:Nat)(lo hi:Config):Prop where
 lok:ConfOk n lo
 hik:ConfOk n hi
 len:lo.Members.length=hi.Members.length
 dec:decl lo=decl hi
 imp:∀k s,(decl lo).testBit k=true→s<1024→sat s (tr hi k)=true→sat s (tr lo k)=true
variable {n : Nat} {lo hi : Config}
theorem PairOk.self{c:Config}(h:ConfOk n c):PairOk n c c:=⟨h,h,rfl,rfl,fun _ _ _ _ h=>h⟩
theorem PairOk.fullEq(h:PairOk n lo hi):full lo=full hi:=by unfold full;rw[h.len]
theorem qp2(h:PairOk n lo hi){q:Nat}(hq:q2g hi q):q2g lo q:=⟨hq.1,by rw[h.dec];exact hq.2.1,fun k hk=>h.imp k q (by rw[h.dec];exact hq.2.1 k hk) (qro hq) (hq.2.2 k hk)⟩
theorem qkb{s z:Nat}(h:Sub s z){t:Trust}(hs:sat s t=true):sat z t=true:=qom (qnr h) t hs
theorem ydj{c:Config}{a b:Nat}(ha:q2g c a)(hb:q2g c b):q2g c (a|||b):=by
 refine⟨fun e=>ha.1 (Nat.le_zero.1 (e▸(Nat.left_le_or:a≤a|||b))),ha.2.1.or hb.2.1,fun k hk=>?_⟩;rw[Nat.testBit_or,Bool.or_eq_true]at hk;rcases hk with hk|hk;·exact qkb Sub.left (ha.2.2 k hk)
 ·exact qkb Sub.right (hb.2.2 k hk)
def QL(c:Config)(b y:Nat):Prop:=y≠0∧Sub y (decl c)∧(∀i,y.testBit i=true→b.testBit i=false)∧∀k,y.testBit k=true→sat (y|||b) (tr c k)=true
theorem yeb{c:Config}{b y:Nat}:q2g (delC b c) y↔QL c b y:=by
 constructor;·intro h;have hd:∀i,y.testBit i=true→b.testBit i=false:=fun i hi=>(q40.1 (h.2.1 i hi)).2;have h':=(qm6 (qro h) hd).1 h;exact⟨h'.1,h'.2.1,hd,h'.2.2⟩
 ·rintro⟨h1,h2,h3,h4⟩;exact(qm6 (h2.lt (q8z c)) h3).2 ⟨h1,h2,h4⟩
theorem qau{c:Config}{b d y:Nat}(hbd:Sub b d)(h:QL c b y)(h0:ndiff y d≠0):QL c d (ndiff y d):=by
 refine⟨h0,fun i hi=>h.2.1 i ?_,fun i hi=>?_,fun k hk=>?_⟩;·rw[q04,aT]at hi;exact hi.1
 ·rw[q04,aT,Bool.not_eq_true']at hi;exact hi.2
 ·rw[q04,aT]at hk;rw[qtd];refine qkb (fun i hi=>?_) (h.2.2.2 k hk.1);rw[Nat.testBit_or,Bool.or_eq_true]at hi⊢;exact hi.imp id (hbd i)
theorem y9r{c:Config}{q:Nat}(h:q2g c q):QL c 0 q:=⟨h.1,h.2.1,fun i _=>Nat.zero_testBit i,fun k hk=>by rw[Nat.or_zero];exact h.2.2 k hk⟩
theorem qvh(b:Nat):Sub 0 b:=fun i hi=>by rw[Nat.zero_testBit]at hi;cases hi
theorem qsb{c:Config}{b q:Nat}(h:q2g c q)(hd:∀i,q.testBit i=true→b.testBit i=false):QL c b q:=⟨h.1,h.2.1,hd,fun k hk=>qkb Sub.left (h.2.2 k hk)⟩
theorem qj9{c:Config}(hn:c.Members.length≤10){b:Nat}:q84 c b=true↔∃x y,QL c b x∧QL c b y∧x&&&y=0:=by unfold q84;rw[y77 (by rw[qx7];exact hn)];simp only[yeb]
theorem qjt{c:Config}(hn:c.Members.length≤10){b x y:Nat}(h:q84 c b=false)(hx:QL c b x)(hy:QL c b y):∃i,x.testBit i=true∧y.testBit i=true:=by apply qvg.1;intro e;rw[(qj9 hn).2 ⟨x,y,hx,hy,e⟩]at h;cases h
def qka(c:Config)(b:Nat):Bool:=ndiff (full c) b==0||quoB c (ndiff (full c) b)
def isB(lo hi:Config)(b:Nat):Bool:=qka hi b&&!q84 lo b
theorem y36{c:Config}(hn:c.Members.length≤10)(b:Nat):ndiff (full c) b<1024:=q7t (q8k hn)
theorem y3b{c:Config}(hn:c.Members.length≤10){b:Nat}:qka c b=true↔ndiff (full c) b=0∨q2g c (ndiff (full c) b):=by unfold qka;rw[Bool.or_eq_true,beq_iff_eq,qi8 (y36 hn b)]
theorem ConfOk.le10{c:Config}(h:ConfOk n c)(hn:n≤10):c.Members.length≤10:=Nat.le_trans h.le hn
theorem qcy(h:PairOk n lo hi)(hn:n≤10){b:Nat}:isB lo hi b=true↔(ndiff (full lo) b=0∨q2g hi (ndiff (full lo) b))∧q84 lo b=false:=by unfold isB;rw[aT,y3b (h.hik.le10 hn),←h.fullEq,Bool.not_eq_true']
theorem q3k{a b:Nat}:ndiff a b=0↔Sub a b:=by rw[←qf1,subB,beq_iff_eq]
theorem y64(h:PairOk n lo hi)(hn:n≤10):isB lo hi (full lo)=true:=by rw[qcy h hn];refine⟨.inl (q3k.2 (Sub.refl _)),?_⟩;rw[←Bool.not_eq_true,qj9 (h.lok.le10 hn)];rintro⟨x,_,⟨h1,h2,h3,_⟩,_⟩;obtain⟨i,hi⟩:=nz.1 h1;have:=y02 (h.lok.le10 hn) i (h2 i hi);rw[h3 i hi]at this;cases this
theorem meets(h:PairOk n lo hi)(hn:n≤10){ill x y:Nat}(hx:isB lo hi x=true)(hy:isB lo hi y=true)(hill:q84 lo ill=false)(ix:Sub ill x)(iy:Sub ill y)(lx:Sub x (full lo))(ly:Sub y (full lo)):isB lo hi (x&&&y)=true:=by
 have hle:=h.lok.le10 hn;obtain⟨ax,sx⟩:=(qcy h hn).1 hx;obtain⟨ay,sy⟩:=(qcy h hn).1 hy;rcases ax with ax|ax;·rw[show x&&&y=y from(Sub.and_right x y).antisymm (fun i hi=>by rw[Nat.testBit_and,q3k.1 ax i (ly i hi),hi];rfl)];exact hy
 rcases ay with ay|ay;·rw[show x&&&y=x from(Sub.and_left x y).antisymm (fun i hi=>by rw[Nat.testBit_and,q3k.1 ay i (lx i hi),hi];rfl)];exact hx
 have hU:ndiff (full lo) (x&&&y)=ndiff (full lo) x|||ndiff (full lo) y:=by apply Nat.eq_of_testBit_eq;intro i;simp only[Nat.testBit_or,q04,Nat.testBit_and];cases(full lo).testBit i<;>cases x.testBit i<;>cases y.testBit i<;>rfl
 rw[qcy h hn,hU];refine⟨.inr (ydj ax ay),?_⟩;have bx:∀i,(ndiff (full lo) x).testBit i=true→x.testBit i=false:=fun i hi=>by rw[q04,aT,Bool.not_eq_true']at hi;exact hi.2
 have by':∀i,(ndiff (full lo) y).testBit i=true→y.testBit i=false:=fun i hi=>by rw[q04,aT,Bool.not_eq_true']at hi;exact hi.2
 have off:∀{a b:Nat},Sub a b→∀i,b.testBit i=false→a.testBit i=false:=fun{a b}hs i hi=>by cases ha:a.testBit i with|false=>rfl|true=>rw[hs i ha]at hi;cases hi
 obtain⟨m,m1,m2⟩:=qjt hle hill (qsb (qp2 h ax) fun i hi=>off ix i (bx i hi)) (qsb (qp2 h ay) fun i hi=>off iy i (by' i hi));have claim:∀A,QL lo (x&&&y) A→ndiff A x≠0:=by intro A hA h0;have hsub:=q3k.1 h0;obtain⟨i,hi⟩:=nz.1 hA.1;have hxy:=hA.2.2.1 i hi;rw[Nat.testBit_and,hsub i hi,tA']at hxy;have hAy:=qau (Sub.and_right x y) hA (qog.2 ⟨i,hi,hxy⟩);have hUy:=qau (qvh y) (y9r (qp2 h ax)) (qog.2 ⟨m,m1,by' m m2⟩);obtain⟨j,j1,j2⟩:=qjt hle sy hAy hUy;rw[q04,aT]at j1 j2;have:=bx j j2.1;rw[hsub j j1.1]at this;cases this
 rw[←Bool.not_eq_true,qj9 hle];rintro⟨A,B,hA,hB,hAB⟩;obtain⟨j,j1,j2⟩:=qjt hle sx (qau (Sub.and_left x y) hA (claim A hA)) (qau (Sub.and_left x y) hB (claim B hB));rw[q04,aT]at j1 j2;exact qvg.2 ⟨j,j1.1,j2.1⟩ hAB
def alls(lo hi:Config)(ill:Nat):List Nat:=(q9q (full lo)).filter fun b=>ndiff ill b==0&&isB lo hi b
theorem q5w{ill b:Nat}:b∈alls lo hi ill↔Sub b (full lo)∧Sub ill b∧isB lo hi b=true:=by unfold alls;rw[List.mem_filter,q43,aT,beq_iff_eq,q3k]
theorem y42(h:PairOk n lo hi)(hn:n≤10){ill:Nat}(hill:Sub ill (full lo)):full lo∈alls lo hi ill:=q5w.2 ⟨Sub.refl _,hill,y64 h hn⟩
def ands:List Nat→Nat→Nat:=fun l a=>l.foldl (fun a b=>a&&&b) a
theorem qwb:∀(l:List Nat)(a:Nat),Sub (ands l a) a∧∀b∈l,Sub (ands l a) b
 |[],a=>⟨Sub.refl _,fun b hb=>by cases hb⟩|x::l,a=>by
  obtain⟨h1,h2⟩:=qwb l (a&&&x);refine⟨h1.trans (Sub.and_left _ _),fun b hb=>?_⟩;rcases List.mem_cons.1 hb with rfl|hb;·exact h1.trans (Sub.and_right _ _)
  ·exact h2 b hb
theorem qid{p:Nat→Prop}(hp:∀a b,p a→p b→p (a&&&b)):∀(l:List Nat)(a:Nat),p a→(∀b∈l,p b)→p (ands l a)|[],_,ha,_=>ha|x::l,a,ha,h=>qid hp l (a&&&x) (hp a x ha (h x (by simp))) (fun b hb=>h b (by simp[hb]))
theorem yah{z:Nat}:∀(l:List Nat)(a:Nat),Sub z a→(∀b∈l,Sub z b)→Sub z (ands l a):=fun l a ha h=>qid (p:=fun b=>Sub z b) (fun a b ha hb i hi=>by rw[Nat.testBit_and,ha i hi,hb i hi];rfl) l a ha h
def bef(lo hi:Config)(ill:Nat):Nat:=if q84 lo ill then full lo else ands (alls lo hi ill) (full lo)
theorem ybv{ill:Nat}(hill:Sub ill (full lo)):Sub ill (bef lo hi ill):=by
 unfold bef;split;·exact hill
 ·exact yah _ _ hill fun b hb=>(q5w.1 hb).2.1
theorem y0y(h:PairOk n lo hi)(hn:n≤10){ill:Nat}(hill:Sub ill (full lo))(hs:q84 lo ill=false):bef lo hi ill∈alls lo hi ill:=by unfold bef;rw[hs];exact qid (p:=fun b=>b∈alls lo hi ill) (fun a b ha hb=>by obtain⟨a1,a2,a3⟩:=q5w.1 ha;obtain⟨b1,b2,b3⟩:=q5w.1 hb;exact q5w.2 ⟨(Sub.and_left _ _).trans a1,fun i hi=>by rw[Nat.testBit_and,a2 i hi,b2 i hi];rfl,meets h hn a3 b3 hs a2 b2 a1 b1⟩) _ _ (y42 h hn hill) fun b hb=>hb
theorem qfh(h:PairOk n lo hi)(hn:n≤10){ill:Nat}(hill:Sub ill (full lo))(h0:ndiff (full lo) (bef lo hi ill)≠0):q84 lo ill=false∧q2g hi (ndiff (full lo) (bef lo hi ill)):=by cases hs:q84 lo ill with|true=>exfalso;apply h0;rw[q3k];unfold bef;rw[hs];exact Sub.refl _|false=>obtain⟨_,_,hb⟩:=q5w.1 (y0y h hn hill hs);exact⟨rfl,((qcy h hn).1 hb).1.resolve_left h0⟩
theorem ybi{c:Config}(h:ConfOk n c)(_hn:n≤10){k:Nat}(hk:(decl c).testBit k=true):Sub (uses (tr c k)) (full c):=by obtain⟨m,m1,m2,m3⟩:=q83 hk;have:=(h.good m (List.mem_of_getElem? m1) m3).2;rw[m2];exact qfz.1 (qm7 _ this)
theorem qp4{c:Config}(h:ConfOk n c)(hn:n≤10){k s z:Nat}(hk:(decl c).testBit k=true)(hs:∀i,(full c).testBit i=true→s.testBit i=z.testBit i):sat s (tr c k)=sat z (tr c k):=by apply qxi;intro j hj;obtain⟨i,rfl,hi,hb⟩:=qwk hj;rw[q2x hi,q2x hi];exact hs i (ybi h hn hk i hb)
theorem follows(h:PairOk n lo hi)(hn:n≤10){ill x g:Nat}(hill:Sub ill (full lo))(hg:q2g lo g)(h0:g&&&ndiff (full lo) (bef lo hi ill)≠0)(hx:Sub (g&&&ndiff (full lo) (bef lo hi ill)) x)(hne:¬Sub (ndiff (full lo) (bef lo hi ill)) x):∃v,(ndiff (full lo) (bef lo hi ill)).testBit v=true∧x.testBit v=false∧blk lo v (ndiff (full lo) (bef lo hi ill)&&&x)=true:=by
 have hle:=h.lok.le10 hn;have ha0:ndiff (full lo) (bef lo hi ill)≠0:=by obtain⟨i,_,h2⟩:=qvg.1 h0;exact nz.2 ⟨i,h2⟩
 obtain⟨hs,hq⟩:=qfh h hn hill ha0;have hb:=y0y h hn hill hs;obtain⟨_,_,hbi⟩:=q5w.1 hb;have hsb:=((qcy h hn).1 hbi).2;generalize hB:bef lo hi ill=b at*;apply Classical.byContradiction;intro hno;have hno':∀v,(ndiff (full lo) b).testBit v=true→x.testBit v=false→blk lo v (ndiff (full lo) b&&&x)=false:=fun v h1 h2=>by cases hk:blk lo v (ndiff (full lo) b&&&x)with|false=>rfl|true=>exact absurd ⟨v,h1,h2,hk⟩ hno
 have hdec:Sub (ndiff (full lo) b) (decl lo):=by rw[h.dec];exact hq.2.1
 have hW0:ndiff (ndiff (full lo) b) x≠0:=fun e=>hne (q3k.1 e);have hW:QL lo b (ndiff (ndiff (full lo) b) x):=by
  refine⟨hW0,fun i hi=>hdec i ?_,fun i hi=>?_,fun k hk=>?_⟩;·rw[q04,aT]at hi;exact hi.1
  ·rw[q04,q04]at hi;simp only[aT,Bool.not_eq_true']at hi;exact hi.1.2
  ·rw[q04 (ndiff (full lo) b) x,aT,Bool.not_eq_true']at hk;have hkd:=hdec k hk.1;have:=hno' k hk.1 hk.2;unfold blk at this;rw[hkd,tA',Bool.not_eq_false']at this;rw[←this];apply qp4 h.lok hn hkd;intro i hi;have h10:(1023:Nat).testBit i=true:=by rw[qhu,dT']at hi;rw[qko,dT'];omega
   rw[Nat.testBit_or,Nat.testBit_or,q04,q04,q04,Nat.testBit_and,q04,q6o,hi,h10];by_cases hki:k=i;·subst hki;rw[hk.2];have:=hk.1;rw[q04,hi,tA']at this;simp[this]
   ·rw[decide_eq_false hki];cases b.testBit i<;>cases x.testBit i<;>rfl
 have hgl:=qau (qvh b) (y9r hg) (by obtain⟨i,h1,h2⟩:=qvg.1 h0;rw[q04,aT,Bool.not_eq_true']at h2;exact qog.2 ⟨i,h1,h2.2⟩);obtain⟨i,i1,i2⟩:=qjt hle hsb hW hgl;rw[q04,aT,Bool.not_eq_true']at i1;rw[q04,aT]at i2;have:=hx i (by rw[Nat.testBit_and,i2.1,i1.1];rfl);rw[i1.2]at this;cases this
theorem y5d{m:Nat}:∀t:Trust,good t=true→uses t<2^m→below (m:Int) t=true:=by
 apply Trust.ind;intro t ih hg hu;rw[q7e]at hg;simp only[aT,dT']at hg;obtain⟨_,_,hN,_,hI⟩:=hg;rw[q9d]at hu;have hu':=q7m.1 hu;rw[qve,aT];refine⟨?_,?_⟩;·rw[List.all_eq_true];intro k hk;have hkr:=List.all_eq_true.1 hN k hk;have h1:=qiz hk hkr;obtain⟨j,rfl,hj,hb⟩:=qwk h1;have h2:=hu' j (by rw[Nat.testBit_or,hb];rfl);rw[Nat.testBit_two_pow_sub_one,dT']at h2;simp;omega
 ·have hgs:∀l:List Trust,goods l=true→∀x∈l,good x=true:=by intro l;induction l with|nil=>intro _ x hx;cases hx|cons y r ihr=>
    intro h x hx;simp only[goods,aT]at h;rcases List.mem_cons.1 hx with rfl|hx;·exact h.1
    ·exact ihr h.2 x hx
  have key:∀l:List Trust,(∀x∈l,below (m:Int) x=true)→q4m (m:Int) l=true:=by intro l;induction l with|nil=>intro _;rfl|cons y r ihr=>intro h;simp only[q4m,h y (by simp),ihr (fun x hx=>h x (by simp[hx])),Bool.and_self]
  refine key _ fun x hx=>ih x hx (hgs _ hI x hx) ?_;exact q7m.2 fun i hi=>hu' i (by rw[Nat.testBit_or,qki hx i hi,Bool.or_true])
theorem ValidC.conf{c:Config}{n:Nat}(h:ValidC c)(h1:1≤c.Members.length)(h2:c.Members.length≤n):ConfOk n c:=⟨h1,h2,fun m hm=>by
  have:=h.2 m hm;unfold MemV at this;unfold MemOk;split;·rename_i hd;rw[if_pos hd]at this;exact⟨this.1,y5d _ (qyh this.1) this.2⟩
  ·rename_i hd;rw[if_neg hd]at this;exact this⟩
theorem y8h{a b:Int}(h:a=b):neB a b=false:=by rw[h,q0m]
theorem q5d{c:Config}(hn:c.Members.length≤10):z4r c=some ((full c:Nat):Int):=by apply ydx;rw[q0v (by omega),q6h hn];rfl
theorem qvf{c:Config}{i:Nat}{m:Member}(h:c.Members[i]?=some m)(hi:i<10):(decl c).testBit i=m.Declared:=by rw[Bool.eq_iff_iff,q3e];exact⟨fun⟨_,m',h1,h2⟩=>by rw[h]at h1;cases h1;exact h2,fun h2=>⟨hi,m,h,h2⟩⟩
theorem y2j{c:Config}{i:Nat}{m:Member}(h:c.Members[i]?=some m):tr c i=m.Trust:=by unfold tr;rw[h];rfl
theorem ValidC.mem{c:Config}(h:ValidC c){i:Nat}{m:Member}(hm:c.Members[i]?=some m)(hd:m.Declared=true):valid m.Trust=true∧uses m.Trust<2^c.Members.length:=by have:=h.2 m (List.mem_of_getElem? hm);unfold MemV at this;rwa [if_pos hd]at this
def impK(lo hi:Config)(k:Nat):Bool:=!(decl lo).testBit k||impB (tr hi k) (tr lo k)
def impsB(lo hi:Config):Bool:=(List.range' 0 lo.Members.length).all (impK lo hi)
def pairE(lo hi:Config):Int:=if cerr lo≠0 then cerr lo else if cerr hi≠0 then cerr hi else if lo.Members.length≠hi.Members.length then 1 else if decl lo≠decl hi then 1 else if 7<lo.Members.length then 3 else if impsB lo hi=true then 0 else 14
theorem q59{lo hi:Config}(h:pairE lo hi=0):ValidC lo∧ValidC hi∧lo.Members.length=hi.Members.length∧decl lo=decl hi∧lo.Members.length≤7:=by
 unfold pairE at h;split at h;·rename_i h1;exact absurd h h1
 ·rename_i h1;split at h;·rename_i h2;exact absurd h h2
  ·rename_i h2;split at h;·cases h
   ·rename_i h3;split at h;·cases h
    ·rename_i h4;split at h;·cases h
     ·rename_i h5;exact⟨q3v.1 (Classical.not_not.1 h1),q3v.1 (Classical.not_not.1 h2),Classical.not_not.1 h3,Classical.not_not.1 h4,by omega⟩
theorem ybf{n:Nat}{lo hi:Config}(h:PairOk n lo hi)(hn:n≤7):pairE lo hi=0:=by have h1:=(h.lok.valid (by omega)).cerr;have h2:=(h.hik.valid (by omega)).cerr;have hle:=h.lok.le;unfold pairE;rw[h1,h2,if_neg (by simp),if_neg (by simp),if_neg (by rw[h.len];simp),if_neg (by rw[h.dec];simp),if_neg (by omega),if_pos];unfold impsB;rw[List.all_eq_true];intro k _;unfold impK;cases hd:(decl lo).testBit k with|false=>rfl|true=>simp only[nT,Bool.false_or];exact qwr.2 fun s hs=>h.imp k s hd hs
def impN(n:Nat)(a b:Trust):Bool:=(List.range' 0 (2^n)).all fun s=>!sat s a||sat s b
theorem yc5{n:Nat}(hn:n≤10){a b:Trust}(ha:uses a<2^n)(hb:uses b<2^n):impN n a b=impB a b:=by
 rw[Bool.eq_iff_iff,qwr];unfold impN;rw[List.all_eq_true];have cut:∀(t:Trust)(s:Nat),uses t<2^n→sat (s&&&(2^n-1)) t=sat s t:=fun t s ht=>qxi t fun k hk=>by obtain⟨i,rfl,hi,hb⟩:=qwk hk;have:=q7m.1 ht i hb;rw[q2x hi,q2x hi,Nat.testBit_and,this,Bool.and_true]
 constructor
 ·intro h s _ hsa;have hlt:s&&&(2^n-1)<2^n:=by have:=Nat.two_pow_pos n;have:=Nat.and_le_right (n:=s) (m:=2^n-1);omega
  have:=h (s&&&(2^n-1)) (by rw[List.mem_range'_1];omega);rw[cut a s ha,cut b s hb,hsa]at this;simpa using this
 ·intro h s hs;rw[List.mem_range'_1]at hs;have hp:=pow10 hn;cases hsa:sat s a with|false=>rfl|true=>simp only[nT,Bool.false_or];exact h s (by omega) hsa
theorem qrp{lo hi:Config}(hv:ValidC lo){k:Nat}{m m':Member}(g1:lo.Members[k]?=some m)(g2:hi.Members[k]?=some m')(s1:Small m.Trust)(s2:Small m'.Trust){len r:Int}(K:z3h len ((k+1:Nat):Int) lo.Members hi.Members=some r)(hk:k<100):∀(j s:Nat),s+j=2^lo.Members.length→z48 (k:Int) (s:Int) len (k:Int) lo.Members hi.Members=some (if((List.range' s j).all fun s=>!sat s m'.Trust||sat s m.Trust)=true then r else 14)
 |0,s,h=>by
  apply y8v;rw[show Config.mk lo.Members=lo from rfl,q5d hv.1];simp only[bS];have:full lo<s:=by have:=Nat.two_pow_pos lo.Members.length;unfold full;omega
  rw[q0b (by omega)];simp only[cF];rw[q01 (by omega)];exact K|j+1,s,h=>by
  have hp:=pow10 hv.1;have ih:=qrp hv g1 g2 s1 s2 K hk j (s+1) (by omega);apply y8v;rw[show Config.mk lo.Members=lo from rfl,q5d hv.1];simp only[bS];have:s≤full lo:=by unfold full;omega
  rw[q0g (by omega)];simp only[cT];rw[q0l (by omega) (by rw[tN];exact g2),q77 (by omega) m'.Trust s2];simp only[bS];rw[q01 (by omega),ih,List.range'_succ,List.all_cons];cases hb:sat s m'.Trust with|false=>rfl|true=>simp only[cT];rw[q0l (by omega) (by rw[tN];exact g1),q77 (by omega) m.Trust s1];simp only[bS];cases sat s m.Trust<;>rfl
theorem qqp{lo hi:Config}(hv:ValidC lo)(hw:ValidC hi)(hl:lo.Members.length=hi.Members.length)(hd:decl lo=decl hi):∀(n i:Nat),i+n=lo.Members.length→z3h ((lo.Members.length:Nat):Int) (i:Int) lo.Members hi.Members=some (if(List.range' i n).all (impK lo hi)=true then 0 else 14)|0,i,h=>by apply y9i;rw[q00 (by omega)];rfl|n+1,i,h=>by have hle:=hv.1;have ih:=qqp hv hw hl hd n (i+1) (by omega);have g1:lo.Members[i]?=some lo.Members[i]:=List.getElem?_eq_getElem (by omega);have g2:hi.Members[i]?=some (hi.Members[i]'(by omega)):=List.getElem?_eq_getElem (by omega);apply y9i;rw[q02 (by omega)];simp only[cT];rw[q0l (by omega) (by rw[tN];exact g1)];have e1:=qvf g1 (by omega);have e2:=qvf g2 (by omega);have e3:=e1;rw[hd,e2]at e1;rw[List.range'_succ,List.all_cons,q01 (by omega)];cases hdec:lo.Members[i].Declared with
  |false=>
   have:impK lo hi i=true:=by unfold impK;rw[e3,hdec];rfl
   rw[this,ih];rfl|true=>
   rw[hdec]at e1;have m1:=hv.mem g1 hdec;have m2:=hw.mem g2 e1;have:impK lo hi i=impN lo.Members.length (hi.Members[i]'(by omega)).Trust lo.Members[i].Trust:=by rw[yc5 hv.1 (by rw[hl];exact m2.2) m1.2];unfold impK;rw[e3,hdec,y2j g1,y2j g2];simp only[nT,Bool.false_or]
   simp only[nT,cF];have key:=qrp hv g1 g2 (q1v m1.1) (q1v m2.1) ih (by omega) (2^lo.Members.length) 0 (by omega);rw[this];refine Eq.trans key ?_;rw[show((List.range' 0 (2^lo.Members.length)).all fun s=>!sat s (hi.Members[i]'(by omega)).Trust||sat s lo.Members[i].Trust)=impN lo.Members.length (hi.Members[i]'(by omega)).Trust lo.Members[i].Trust from rfl];cases impN lo.Members.length (hi.Members[i]'(by omega)).Trust lo.Members[i].Trust with|false=>rfl|true=>simp only[tA',if_true]
theorem qr1{lo hi:Config}(hs:q1g lo)(hs':q1g hi):z6o lo hi=some (pairE lo hi):=by
 have h1:=hs.1;have h2:=hs'.1;apply ydb;rw[q91 hs];simp only[bS];unfold pairE;by_cases e1:cerr lo=0
 ·rw[e1,q0m,if_neg (by simp),q91 hs'];simp only[cF,bS];by_cases e2:cerr hi=0
  ·rw[e2,q0m,if_neg (by simp)];simp only[cF];by_cases e3:lo.Members.length=hi.Members.length
   ·rw[y8h (by rw[e3]),if_neg (by rw[e3];simp),q4u lo h1,q4u hi h2];simp only[cF,bS];by_cases e4:decl lo=decl hi
    ·rw[y8h (by rw[e4]),if_neg (by rw[e4];simp)];simp only[cF];by_cases e5:7<lo.Members.length;·rw[q02 (by omega),if_pos e5];rfl
     ·rw[q00 (by omega),if_neg e5];simp only[cF];exact qqp (q3v.1 e1) (q3v.1 e2) e3 e4 lo.Members.length 0 (by omega)
    ·rw[q1e (by omega),if_pos e4];rfl
   ·rw[q1e (by omega),if_pos e3];rfl
  ·rw[q1e e2,if_pos e2];rfl
 ·rw[q1e e1,if_pos e1];rfl
theorem qu9{c:Config}(hv:ValidC c)(z:Int):z6s c z=some (askE c z):=by
 apply yfr;unfold askE;rw[hv.cerr,if_neg (by simp)];by_cases h0:z<0;·rw[q02 h0,if_pos h0];rfl
 ·rw[q00 (by omega),if_neg h0,q5d hv.1];simp only[cF,bS,full];by_cases h1:((2^c.Members.length-1:Nat):Int)<z;·rw[q02 h1,if_pos h1];rfl
  ·rw[q00 (by omega),if_neg h1];rfl
def qwn(c:Config)(z:Int):Bool×Int:=if askE c z=0 then(!q84 c z.toNat,0)else(false,askE c z)
def avaR(c:Config)(z:Int):Bool×Int:=if askE c z=0 then(qka c z.toNat,0)else(false,askE c z)
theorem qq6{c:Config}(hc:q1g c)(z:Int):z50 c z=some (qwn c z):=by
 apply yf6;rw[q91 hc];simp only[bS,qwn];by_cases he:cerr c=0
 ·rw[he,q0m,qu9 (q3v.1 he)];simp only[cF,bS];by_cases h:askE c z=0;·obtain⟨hv,s,rfl,hs⟩:=ql0 h;rw[h,q0m,qnf (qb3 hv.1 hs) c hv.bears];simp only[bS,cF,if_true];rw[y3q (qlo s hv).small (qlo s hv).cerr];rfl
  ·rw[q1e h,if_neg h];rfl
 ·have h:askE c z=cerr c:=by unfold askE;rw[if_pos he]
  rw[q1e he,h,if_neg he];rfl
theorem qlj{c:Config}(hn:c.Members.length≤10){s:Nat}(hs:s<2^c.Members.length):subI .i64 ((full c:Nat):Int) ((s:Nat):Int)=((ndiff (full c) s:Nat):Int):=by have:=q8k hn;rw[qe7 (by unfold full;omega) (by omega)];unfold full;rw[qmj hs]
theorem qu3{c:Config}(hn:c.Members.length≤10){s:Nat}(hs:s<2^c.Members.length):qd2 .i64 ((full c:Nat):Int) ((s:Nat):Int)=((ndiff (full c) s:Nat):Int):=by have:=q8k hn;have:=qb3 hn hs;rw[qd3 (by omega) (by omega)]
theorem y28{c:Config}(hc:q1g c)(z:Int):z6a c z=some (avaR c z):=by
 apply yd9;rw[q91 hc];simp only[bS,avaR];by_cases he:cerr c=0
 ·rw[he,q0m,qu9 (q3v.1 he)];simp only[cF,bS];by_cases h:askE c z=0;·obtain⟨hv,s,rfl,hs⟩:=ql0 h;rw[h,q0m,q5d hv.1];simp only[bS,cF,if_true];rw[qlj hv.1 hs,y24,tN];unfold qka;cases h0:(ndiff (full c) s==0)with|true=>simp|false=>simp only[cF,Bool.false_or];rw[qly (y36 hv.1 s) hv.small];rfl
  ·rw[q1e h,if_neg h];rfl
 ·have h:askE c z=cerr c:=by unfold askE;rw[if_pos he]
  rw[q1e he,h,if_neg he];rfl
def dE(lo hi:Config)(z:Int):Int:=if pairE lo hi=0 then askE lo z else pairE lo hi
theorem y1j{lo hi:Config}(hs:q1g lo)(hs':q1g hi)(z:Int):z75 lo hi z=some (dE lo hi z):=by
 apply yd6;rw[qr1 hs hs'];simp only[bS,dE];by_cases h:pairE lo hi=0;·rw[h,q0m,qu9 (q59 h).1];rfl
 ·rw[q1e h,if_neg h];rfl
theorem qus{lo hi:Config}{z:Int}(h:dE lo hi z=0):pairE lo hi=0∧∃s:Nat,z=(s:Int)∧s<2^lo.Members.length:=by
 unfold dE at h;split at h;·rename_i h1;exact⟨h1,(ql0 h).2⟩
 ·rename_i h1;exact absurd h h1
theorem y8p{lo hi:Config}(h:pairE lo hi=0){s:Nat}(hs:s<2^lo.Members.length):dE lo hi (s:Int)=0:=by unfold dE;rw[if_pos h,qo3 (q59 h).1 hs]
theorem qlq{c:Config}(hv:ValidC c){s:Nat}(hs:s<2^c.Members.length):qwn c (s:Int)=(!q84 c s,0):=by unfold qwn;rw[if_pos (qo3 hv hs)];rfl
theorem y5p{c:Config}(hv:ValidC c){s:Nat}(hs:s<2^c.Members.length):avaR c (s:Int)=(qka c s,0):=by unfold avaR;rw[if_pos (qo3 hv hs)];rfl
theorem ycz{lo hi:Config}(h:pairE lo hi=0){s:Nat}(hs:s<2^lo.Members.length):z7i lo hi (s:Int)=some (isB lo hi s):=by obtain⟨hv,hw,hl,_,_⟩:=q59 h;apply yd4;rw[y28 hw.small,y5p hw (by rw[←hl];exact hs)];simp only[bS,isB];cases qka hi s with|false=>rfl|true=>simp only[nT,cF,tA'];rw[qq6 hv.small,qlq hv hs];rfl
theorem qyz{a b:Nat}:(a&&&b==b)=(ndiff b a==0):=by
 rw[Bool.eq_iff_iff,beq_iff_eq,beq_iff_eq,q3k];constructor;·intro h i hi;rw[←h,Nat.testBit_and,aT]at hi;exact hi.1
 ·intro h;exact(Sub.and_right a b).antisymm fun i hi=>by rw[Nat.testBit_and,h i hi,hi];rfl
theorem y5v(a b:Nat):eqB (a:Int) (b:Int)=(a==b):=by
 by_cases h:a=b;·rw[h,q25];simp
 ·rw[q2m (by omega)];simp[h]
theorem y3a{lo hi:Config}(h:pairE lo hi=0){ill:Nat}(hill:ill<2^lo.Members.length){l:List Nat}(hl:l.length≤1024)(hm:∀s∈l,s<2^lo.Members.length):∀(suf pre:List Nat),l=pre++suf→z4g (ill:Int) ((pre.filter fun b=>ndiff ill b==0&&isB lo hi b).map Int.ofNat) (l.map Int.ofNat) ((l.length:Nat):Int) ((pre.length:Nat):Int) lo.Members hi.Members=some ((l.filter fun b=>ndiff ill b==0&&isB lo hi b).map Int.ofNat,0)
 |[],pre,e=>by rw[List.append_nil]at e;subst e;apply y9h;rw[q00 (Int.le_refl _)];rfl|b::suf,pre,e=>by
  have hn:=(q59 h).1.1;have hd:(l.map Int.ofNat).drop pre.length=(b:Int)::suf.map Int.ofNat:=q61 (by rw[e];simp);have hlt:pre.length<l.length:=by rw[e];simp
  have hb:=hm b (by rw[e];simp);have hb':=qb3 hn hb;have hi':=qb3 hn hill;have hfl:=List.length_filter_le (fun b=>ndiff ill b==0&&isB lo hi b) pre;have ih:=y3a h hill hl hm suf (pre++[b]) (by rw[e];simp);rw[List.filter_append,List.map_append,List.length_append]at ih;apply y9h;rw[q02 (by omega)];simp only[cT,q06 hd];rw[q3x (by omega) (by omega),y5v,qyz,q01 (by omega)];cases h1:(ndiff ill b==0)with|false=>rw[List.filter_cons,h1]at ih;simp only[Bool.false_and,fT,if_false,List.filter_nil,List.map_nil,List.append_nil]at ih;exact ih|true=>simp only[cT];rw[show Config.mk lo.Members=lo from rfl,show Config.mk hi.Members=hi from rfl,ycz h hb];simp only[bS];cases h2:isB lo hi b with|false=>rw[List.filter_cons,h1,h2]at ih;simp only[tA',fT,if_false,List.filter_nil,List.map_nil,List.append_nil]at ih;exact ih|true=>rw[List.filter_cons,h1,h2]at ih;simp only[tA',if_true,List.filter_nil]at ih;rw[q0i (by simp[q0f];omega)];exact ih
def allR(lo hi:Config)(z:Int):List Int×Int:=if dE lo hi z=0 then((alls lo hi z.toNat).map Int.ofNat,0)else([],dE lo hi z)
theorem quk{c:Config}{s:Nat}(h:s∈q9q (full c)):s<2^c.Members.length:=qfz.2 (q43.1 h)
theorem yb5{lo hi:Config}(hs:q1g lo)(hs':q1g hi)(z:Int):z7g lo hi z=some (allR lo hi z):=by
 apply ydp;rw[y1j hs hs'];simp only[bS,allR];by_cases h:dE lo hi z=0;·obtain⟨h0,s,rfl,hlt⟩:=qus h;have hn:=(q59 h0).1.1;rw[h,q0m,q5d hn];simp only[cF,bS];rw[qjx (q8k hn)];simp only[bS,List.length_map];exact y3a h0 hlt (qg7 (q8k hn)) (fun s hs=>quk hs) _ [] rfl
 ·rw[q1e h,if_neg h];rfl
theorem y5n{lo hi:Config}(h:pairE lo hi=0){s:Nat}(hs:s<2^lo.Members.length):allR lo hi (s:Int)=((alls lo hi s).map Int.ofNat,0):=by unfold allR;rw[if_pos (y8p h hs)];rfl
theorem y71{lo hi:Config}(hn:lo.Members.length≤10)(ill:Nat):(alls lo hi ill).length≤1024:=Nat.le_trans (List.length_filter_le _ _) (qg7 (q8k hn))
theorem yaf{lo hi:Config}{ill s:Nat}(h:s∈alls lo hi ill):s<2^lo.Members.length:=qfz.2 (q5w.1 h).1
def y2c(ms:List Member):Prop:=∀m∈ms,Small m.Trust
theorem qym(k m:Int):Small ⟨1,[k,m],[]⟩:=by unfold Small;rw[qcm];simp[sizes]
theorem qod{n:Nat}(hn:n≤10)(h1:1≤n)(l:List Int)(i:Int)(a10:List Member):∀(r k:Nat)(ms:List Member),k+r=ms.length→1≤ms.length→ms.length≤n→y2c ms→(∀j m,j<k→ms[j]?=some m→m.Declared=true)→∃c,z5b ((ms.length:Nat):Int) (k:Int) l i a10 ms=some (c,l,i)∧ConfOk n c∧∀m∈c.Members,m.Declared=true
 |0,k,ms,hk,hp,hl,hs,hd=>by
  have hsc:q1g ⟨ms⟩:=⟨by show ms.length<_;omega,hs⟩;by_cases h0:cerr ⟨ms⟩=0
  ·refine⟨⟨ms⟩,?_,(q3v.1 h0).conf hp hl,fun m hm=>?_⟩;·apply qwo;rw[q00 (by omega),cF,q91 hsc,h0];rfl
   ·obtain⟨j,hj⟩:=List.getElem?_of_mem hm;exact hd j m (by have:j<ms.length:=(List.getElem?_eq_some_iff.1 hj).1;omega) hj
  ·refine⟨⟨[⟨true,⟨1,[0],[]⟩⟩]⟩,?_,?_,fun m hm=>?_⟩;·apply qwo;rw[q00 (by omega),cF,q91 hsc];simp[neB,h0]
   ·refine⟨by show 1≤1;omega,by show 1≤n;omega,fun x hx=>?_⟩;have hx':x=⟨true,⟨1,[0],[]⟩⟩:=by simpa using hx
    subst hx';show MemOk 1 _;unfold MemOk;rw[if_pos rfl];exact⟨by decide,by decide⟩
   ·have hx':m=⟨true,⟨1,[0],[]⟩⟩:=by simpa using hm
    subst hx';rfl|r+1,k,ms,hk,hp,hl,hs,hd=>by
  have hlt:k<ms.length:=by omega
  have hget:ms[k]?=some ms[k]:=by simp[hlt]
  cases hdk:ms[k].Declared with|true=>obtain⟨c,g1,g2⟩:=qod hn h1 l i a10 r (k+1) ms (by omega) hp hl hs (fun j m hj hm=>by
    rcases Nat.lt_or_ge j k with h|h;·exact hd j m h hm
    ·obtain rfl:j=k:=by omega
     rw[hget]at hm;cases hm;exact hdk);refine⟨c,?_,g2⟩;apply qwo;rw[q02 (by omega),cT,q0l (y:=ms[k]) (by omega) (by rw[tN];exact hget)];simp only[nthN,tN,hget,hdk,nT,cF];rw[q01 (by omega)];exact g1|false=>
   have hlen:(ms.set k ⟨true,⟨1,[(k:Int),remI .i64 ((k+1:Nat):Int) ((ms.length:Nat):Int)],[]⟩⟩).length=ms.length:=by simp
   obtain⟨c,g1,g2⟩:=qod hn h1 l i a10 r (k+1) (ms.set k ⟨true,⟨1,[(k:Int),remI .i64 ((k+1:Nat):Int) ((ms.length:Nat):Int)],[]⟩⟩) (by rw[hlen];omega) (by rw[hlen];exact hp) (by rw[hlen];exact hl) (fun m hm=>by
    rcases List.mem_or_eq_of_mem_set hm with h|h;·exact hs m h
    ·subst h;exact qym _ _) (fun j m hj hm=>by
    rw[List.getElem?_set]at hm;split at hm;·cases hm;rfl
    ·exact hd j m (by omega) hm);refine⟨c,?_,g2⟩;rw[hlen]at g1;apply qwo;rw[q02 (by omega),cT,q0l (y:=ms[k]) (by omega) (by rw[tN];exact hget)];simp only[nthN,tN,hget,hdk,Bool.not_false,cT];rw[q0v (by omega),q0l (y:=ms[k]) (by omega) (by rw[tN];exact hget),q01 (by omega)];exact g1
theorem ybp{n:Nat}(hn:n≤10)(h1:2≤n)(l:List Int)(i:Int)(a6:List Member):∀(r:Nat)(ms:List Member),2≤ms.length+r→ms.length≤n→y2c ms→∃c,z69 l i a6 ms=some (c,l,i)∧ConfOk n c∧∀m∈c.Members,m.Declared=true:=by intro r;induction r with|zero=>intro ms h2 hl hs;obtain⟨c,g1,g2⟩:=qod hn (by omega) l i a6 ms.length 0 ms (by omega) (by omega) hl hs (fun j m hj _=>by omega);refine⟨c,?_,g2⟩;apply y2n;rw[q00 (by omega),cF];exact g1|succ r ih=>
  intro ms h2 hl hs;by_cases h:ms.length<2;·obtain⟨c,g1,g2⟩:=ih (ms++[⟨false,⟨0,[],[]⟩⟩]) (by simp;omega) (by simp;omega) (fun m hm=>by
    rcases List.mem_append.1 hm with hm|hm;·exact hs m hm
    ·rw[List.mem_singleton]at hm;subst hm;unfold Small;rw[qcm];simp[sizes]);refine⟨c,?_,g2⟩;apply y2n;rw[q02 (by omega),cT,q0i (by simp[q0f];omega)];exact g1
  ·obtain⟨c,g1,g2⟩:=qod hn (by omega) l i a6 ms.length 0 ms (by omega) (by omega) hl hs (fun j m hj _=>by omega);refine⟨c,?_,g2⟩;apply y2n;rw[q00 (by omega),cF];exact g1
theorem yc4{n:Nat}(h1:2≤n)(h2:n≤10){l:List Int}{i:Int}(h:q0t l i):∃c j,z7k (n:Int) l i=some (c,l,j)∧ConfOk n c∧(∀m∈c.Members,m.Declared=true)∧q0t l j:=by obtain⟨c0,j,a1,a2,a3⟩:=y3t (by omega) h2 h;obtain⟨c,g1,g2,g3⟩:=ybp h2 h1 l j [] 2 c0.Members (by omega) a2.le (a2.smallC h2).2;refine⟨c,j,?_,g2,g3,a3⟩;apply yhd;rw[a1];exact g1
theorem qb6{c:Config}(hn:c.Members.length≤10):z5o c=some ((full c:Nat):Int):=by apply yfi;rw[q0v (by omega),q6h hn];rfl
def inta(lo hi:Config)(ill:Nat):Nat:=ndiff (full lo) (bef lo hi ill)
theorem qxe(lo hi:Config)(ill:Nat):Sub (inta lo hi ill) (full lo):=fun i hi=>by unfold inta at hi;rw[q04,aT]at hi;exact hi.1
theorem yas(lo hi:Config)(ill:Nat):Sub (bef lo hi ill) (full lo):=by
 unfold bef;split;·exact Sub.refl _
 ·exact(qwb _ _).1
def oneR(lo hi:Config)(f:Nat→Nat)(z:Int):Int×Int:=if dE lo hi z=0 then(((f z.toNat:Nat):Int),0)else(0,dE lo hi z)
theorem y3o{lo hi:Config}(hs:q1g lo)(hs':q1g hi)(z:Int):z73 lo hi z=some (dE lo hi z):=by
 apply yft;rw[qr1 hs hs'];simp only[bS,dE];by_cases h:pairE lo hi=0
 ·obtain⟨hv,_,_,_,_⟩:=q59 h;rw[h,q0m];simp only[cF,if_true,askE];rw[hv.cerr,if_neg (by simp)];by_cases h0:z<0;·rw[q02 h0,if_pos h0];rfl
  ·rw[q00 (by omega),if_neg h0,qb6 hv.1];simp only[cF,bS,full];by_cases h1:((2^lo.Members.length-1:Nat):Int)<z;·rw[q02 h1,if_pos h1];rfl
   ·rw[q00 (by omega),if_neg h1];rfl
 ·rw[q1e h,if_neg h];rfl
theorem y4u{lo hi:Config}{l:List Nat}(hl:l.length≤1024)(hlt:∀s∈l,s<1024):∀(suf:List Nat)(i a:Nat),l.drop i=suf→a<1024→z3m (a:Int) (l.map Int.ofNat) ((l.length:Nat):Int) (i:Int) lo.Members hi.Members=some (((ands suf a:Nat):Int),0)|[],i,a,h,ha=>by apply y86;rw[q0j h];rfl|b::suf,i,a,h,ha=>by have h1:=q0e h;have hb:=hlt b (List.mem_of_mem_drop (by rw[h];exact List.mem_cons_self));apply y86;rw[q07 h];simp only[cT,q06 (q61 h)];rw[q3x (by omega) (by omega),q01 (by omega)];exact y4u hl hlt suf (i+1) (a&&&b) (q03 h) (y1g ha)
theorem ybl{lo hi:Config}(hs:q1g lo)(hs':q1g hi)(z:Int):z6f lo hi z=some (oneR lo hi (bef lo hi) z):=by
 apply yca;rw[y3o hs hs'];simp only[bS,oneR];by_cases h:dE lo hi z=0;·obtain⟨h0,s,rfl,hlt⟩:=qus h;obtain⟨hv,hw,hlen,_,_⟩:=q59 h0;rw[h,q0m,qb6 hv.1];simp only[cF,bS,if_true,tN];rw[qq6 hs,qlq hv hlt];simp only[bS,Bool.not_not];cases hsp:q84 lo s with|true=>unfold bef;rw[hsp];rfl|false=>simp only[cF];rw[yb5 hs hs',y5n h0 hlt];simp only[bS,List.length_map];refine(y4u (y71 (hi:=hi) hv.1 s) (fun x hx=>qb3 hv.1 (yaf hx)) (alls lo hi s) 0 (full lo) rfl (q8k hv.1)).trans ?_;unfold bef;rw[hsp];rfl
 ·rw[if_neg h,q1e h];rfl
theorem ydv{lo hi:Config}(hs:q1g lo)(hs':q1g hi)(z:Int):z7c lo hi z=some (oneR lo hi (inta lo hi) z):=by
 apply yfp;rw[ybl hs hs'];simp only[bS,oneR];by_cases h:dE lo hi z=0;·obtain⟨h0,s,rfl,hlt⟩:=qus h;obtain⟨hv,hw,hlen,_,_⟩:=q59 h0;rw[if_pos h,if_pos h];simp only[q0m,cF,tN];rw[qb6 hv.1];simp only[bS];rw[qlj hv.1 (qfz.2 (yas lo hi s))];rfl
 ·rw[if_neg h,if_neg h];simp only[q1e h,cT]
theorem y6l{lo hi:Config}(h:pairE lo hi=0){s:Nat}(hs:s<2^lo.Members.length)(f:Nat→Nat):oneR lo hi f (s:Int)=(((f s:Nat):Int),0):=by unfold oneR;rw[if_pos (y8p h hs)];rfl
variable {n : Nat} {lo hi : Config}
end Go.Proofs.YtglokalgdbegeaaGreat
namespace Go.Proofs.YtglokalgdbegeaaGreat
open Go Go.Ab
theorem qjk(l:List Val)(hl:l.length<1152921504606846976):∀(suf:List Val)(i:Nat)(o:Val),l.drop i=suf→z1q o l ((l.length:Nat):Int) (i:Int)=some (compV o suf,!decide (compV o suf=[]))|[],i,o,h=>by apply y85;rw[q0j h];rfl|y::suf,i,o,h=>by have hlt:=q0e h;have hd:compV o (y::suf)=compV (if vvl y=true∧ltv o y then y else o) suf:=rfl;apply y85;rw[q07 h,cT,q06 h,qk4,bS,qeu,bS,yby,q01 (by omega),qjk l hl suf (i+1) y (q03 h),qjk l hl suf (i+1) o (q03 h),hd];cases hv:vvl y<;>by_cases hc:ltv o y<;>simp[hc]
theorem qj3(l:List Val)(hl:l.length<1152921504606846976):z1i l=some (compV [] l,!decide (compV [] l=[])):=yh3 _ _ (qjk l hl l 0 [] rfl)
structure TopV(l:List Val)(r:Val):Prop where
 of:r=[]∨r∈l∧vvl r=true
 most:∀x∈l,vvl x=true→¬ltv r x
theorem qik(l:List Val):TopV l (compV [] l):=by obtain⟨a,_,c⟩:=qfj l [];exact⟨a,c⟩
theorem TopV.uniq{l m:List Val}{r s:Val}(hr:TopV l r)(hs:TopV m s)(h:∀x,vvl x=true→(x∈l↔x∈m)):r=s:=by
 rcases hr.of with e1|⟨e1,v1⟩<;>rcases hs.of with e2|⟨e2,v2⟩;·rw[e1,e2]
 ·exact absurd (by rw[e1];exact qt3 v2) (hr.most s ((h s v2).2 e2) v2)
 ·exact absurd (by rw[e2];exact qt3 v1) (hs.most r ((h r v1).1 e1) v1)
 ·apply Classical.byContradiction;intro hne;exact hr.most s ((h s v2).2 e2) v2 (q9g hne (hs.most r ((h r v1).1 e1) v1))
theorem qnb(b a:List Val)(i:Nat)(x:Val)(hb:b.length<1152921504606846976)(hi:i<1152921504606846976)(r:Bool)(hr:z4w b a ((a.length:Nat):Int) ((i+1:Nat):Int)=some r):∀(suf:List Val)(k:Nat)(c:Bool),b.drop k=suf→z4x b x c a ((a.length:Nat):Int) (i:Int) b ((b.length:Nat):Int) (k:Int)=some ((c||decide (x∈suf))&&r)
 |[],k,c,h=>by apply y7z;rw[q0j h,cF,q01 (by omega),hr];cases c<;>simp|y::suf,k,c,h=>by
  have hlt:=q0e h;apply y7z;rw[q07 h,cT,q06 h,q01 (by omega),qnb b a i x hb hi r hr suf (k+1) _ (q03 h),qnb b a i x hb hi r hr suf (k+1) _ (q03 h)];unfold eqS;cases c;·by_cases e:x=y<;>simp[e]
  ·simp
theorem qwm(b a:List Val)(hb:b.length<1152921504606846976)(ha:a.length<1152921504606846976):∀(suf:List Val)(i:Nat),a.drop i=suf→z4w b a ((a.length:Nat):Int) (i:Int)=some (suf.all fun x=>decide (x∈b))|[],i,h=>by apply y9p;rw[q0j h];rfl|y::suf,i,h=>by have hlt:=q0e h;apply y9p;rw[q07 h,cT,q06 h,show(0:Int)=((0:Nat):Int)from rfl,qnb b a i y hb (by omega) _ (qwm b a hb ha suf (i+1) (q03 h)) b 0 false rfl];simp
theorem qx9(a b:List Val)(ha:a.length<1152921504606846976)(hb:b.length<1152921504606846976):law22_kept a b=some (a.all fun x=>decide (x∈b)):=law22_kept_le _ _ _ (qwm b a hb ha a 0 rfl)
def alone3:Trust:=⟨1,[3],[]⟩
theorem qyx{slot round:Int}:leadR alone3 3 slot round=3:=by
 have h:=(qg0 (t:=alone3) (v:=3) (by decide+kernel) slot round (by decide)).2;have hn:=h.ngh;unfold nghB at hn;by_cases e:leadR alone3 3 slot round=3;·exact e
 ·rw[decide_eq_false e,Bool.false_or]at hn;have:wgt (leadR alone3 3 slot round) alone3=none:=by
   rw[y46];have:([3]:List Int).contains (leadR alone3 3 slot round)=false:=by simp[e]
   rw[show alone3.Nodes=[3]from rfl,this,show alone3.Inner=[]from rfl,wgts];rfl
  rw[this]at hn;cases hn
def ownMe:Val:=[109,101]
theorem qt9:∃n,qpp 3 0 alone3 ownMe=(n,0)∧n.Candidates=[ownMe]:=by
 have h1:leadN (newN 3 0 alone3 ownMe)=[3]:=by show(nodes (0|||bit (leadR alone3 3 0 1))).map Int.ofNat=_;rw[qyx];decide+kernel
 refine⟨q0r (leadN (newN 3 0 alone3 ownMe)) (newN 3 0 alone3 ownMe),?_,?_⟩;·have hv:verr alone3=0:=(q67 _).2 (by decide+kernel);rw[qpp,if_neg (by decide),if_neg (by decide),if_neg (by rw[hv];simp),if_neg (by decide)]
 ·rw[h1];decide+kernel
theorem yaz:law22_awake=some true:=by
 apply law22_awake_le;obtain⟨n,h1,h2⟩:=qt9;have hs:z34 3 0 ⟨1,[3],[]⟩ [109,101]=some (n,0):=by rw[qln 3 0 (q1v (t:=⟨1,[3],[]⟩) (by decide+kernel)) [109,101] (by decide),←h1];rfl
 have hc:z1i [[98],[97,97],[97,98]]=some ([97,98],true):=by rw[qj3 _ (by decide)];rw[show compV [] [[98],[97,97],[97,98]]=[97,98]by decide+kernel];rfl
 rw[hc,hs];simp only[bS,cT,h2];rw[show eqS [97,98] [97,98]=true from by decide];rfl
def ListN(n:Nominator):Prop:=n.Candidates=[]→∀u∈leadN n,∀x,mayV n x u→x∈n.Votes
structure GoneN(n:Nominator)(k:Nat):Prop where
 ready:ReadyN n
 seq:n.Seq≤(k:Int)+1
 inv:InV n
 list:ListN n
structure StepF(n w:Nominator):Prop where
 step:StepN n w
 inv:InV w
 list:ListN w
 from':∀x∈w.Votes,x∈n.Votes∨∃u∈leadN w,mayV w x u
 stop:n.Candidates≠[]→w.Votes=n.Votes
 all:n.Candidates=[]→∀u∈leadN w,∀x,mayV w x u→x∈w.Votes
 own:w.Own=n.Own
theorem qkk(n u:Nominator):∃s A C,turned n u={u with Seq:=s,Votes:=(q1r (leadN u) u).Votes,Accepts:=A,Candidates:=C}∧(∀x∈u.Candidates,x∈C):=by obtain⟨s,_,g2,_⟩:=q7o n (q0r (leadN u) u);obtain⟨A,C,f1,_,_,f4⟩:=q5p (leadN u) u;refine⟨s,A,C,?_,f4⟩;unfold turned;rw[g2,f1]
theorem StepF.same{n:Nominator}(h:ReadyN n)(hi:InV n)(hl:ListN n):StepF n n:=⟨⟨rfl,rfl,.inl rfl,fun _ h=>h,fun _ h=>h,fun _ h=>h,fun _=>h,⟨fun _=>⟨rfl,rfl,rfl⟩,fun _=>rfl⟩⟩,hi,hl,fun _ h=>.inl h,fun _=>rfl,hl,rfl⟩
theorem GoneN.next{n w:Nominator}{k:Nat}(h:GoneN n k)(hk:k<1000)(hs:StepF n w):GoneN w (k+1):=by have:=h.seq;have:=hs.step.seq;exact⟨hs.step.ready (by omega),by omega,hs.inv,hs.list⟩
theorem GoneN.up{n:Nominator}{k:Nat}(h:GoneN n k):GoneN n (k+1):=⟨h.ready,by have:=h.seq;omega,h.inv,h.list⟩
theorem qw0:∀(l:List Message)(ms:List Member)(k:Nat),(l.Pairwise fun a b=>a.Node.toNat≠b.Node.toNat)→k<ms.length→(l.foldl seeM ms)[k]?=(match l.find? (fun m=>decide (m.Node.toNat=k))with|some m=>some ⟨true,m.Trust⟩|none=>ms[k]?)
 |[],ms,k,_,_=>rfl|m::l,ms,k,hd,hk=>by
  have hd:=List.pairwise_cons.1 hd;rw[List.foldl_cons,qw0 l _ k hd.2 (by simpa[seeM]using hk),List.find?_cons];by_cases e:m.Node.toNat=k
  ·have:l.find? (fun m=>decide (m.Node.toNat=k))=none:=List.find?_eq_none.2 fun x hx=>by have:=hd.1 x hx;simp;omega
   simp[this,e,seeM,hk]
  ·simp only[e,decide_false];cases hf:l.find? (fun m=>decide (m.Node.toNat=k))with|some y=>rfl|none=>exact List.getElem?_set_ne e
section
variable {n : Nominator} (h : ReadyN n)
include h
theorem ReadyN.byNode:(n.Heard.map msgOf).Pairwise fun a b=>a.Node.toNat≠b.Node.toNat:=by rw[List.pairwise_map];refine List.Pairwise.imp_of_mem (fun{a b}ha hb hab=>?_) h.asc;have h1:=q4y (q1q.1 (h.msg a ha).1).1;have h2:=q4y (q1q.1 (h.msg b hb).1).1;show a.Node.toNat≠b.Node.toNat;omega
theorem qep:(decl (viewN n)).testBit n.Node.toNat=true∧tr (viewN n) n.Node.toNat=n.Trust:=by
 have hg:(viewN n).Members[n.Node.toNat]?=some ⟨true,n.Trust⟩:=by rw[viewN,viewC,List.getElem?_set_self (by rw[q8v];simpa using(q4y h.node).2)]
 exact⟨q3e.2 ⟨(q4y h.node).2,_,hg,rfl⟩,by unfold tr;rw[hg];rfl⟩
theorem y1b{k:Nat}(hk:k<10)(hn:k≠n.Node.toNat):(viewN n).Members[k]?=match(n.Heard.map msgOf).find? (fun m=>decide (m.Node.toNat=k))with|some m=>some ⟨true,m.Trust⟩|none=>some ⟨false,⟨0,[],[]⟩⟩:=by rw[viewN,viewC,List.getElem?_set_ne (fun e=>hn e.symm),qw0 _ _ _ h.byNode (by simpa using hk)];cases(n.Heard.map msgOf).find? (fun m=>decide (m.Node.toNat=k))with|some m=>rfl|none=>show(List.replicate 10 (⟨false,⟨0,[],[]⟩⟩:Member))[k]?=_;rw[List.getElem?_replicate,if_pos hk]
theorem qjq{m:Nomination}(hm:m∈n.Heard):(decl (viewN n)).testBit m.Node.toNat=true∧tr (viewN n) m.Node.toNat=m.Trust:=by
 obtain⟨g1,g2⟩:=h.msg m hm;have hb:=q4y (q1q.1 g1).1;have hb':=q4y h.node;have hg:(viewN n).Members[m.Node.toNat]?=some ⟨true,m.Trust⟩:=by rw[y1b h hb.2 (by omega)];cases hf:(n.Heard.map msgOf).find? (fun k=>decide (k.Node.toNat=m.Node.toNat))with|none=>have:=List.find?_eq_none.1 hf (msgOf m) (List.mem_map_of_mem hm);simp[msgOf]at this|some y=>
   have h1:=List.mem_of_find?_eq_some hf;have h2:=List.find?_some hf;rw[dT']at h2;obtain⟨k,hk,rfl⟩:=List.mem_map.1 h1;have:k=m:=by
    obtain⟨i,hi,rfl⟩:=List.mem_iff_getElem.1 hk;obtain⟨j,hj,rfl⟩:=List.mem_iff_getElem.1 hm;have hi0:=q4y (q1q.1 (h.msg _ hk).1).1;have h2':n.Heard[i].Node.toNat=n.Heard[j].Node.toNat:=h2;rcases Nat.lt_trichotomy i j with c|c|c;·have:=List.pairwise_iff_getElem.1 h.asc i j hi hj c;omega
    ·subst c;rfl
    ·have:=List.pairwise_iff_getElem.1 h.asc j i hj hi c;omega
   subst this;rfl
 exact⟨q3e.2 ⟨hb.2,_,hg,rfl⟩,by unfold tr;rw[hg];rfl⟩
end
theorem qgb{p:Nomination→Bool}:∀(l:List Nomination)(s i:Nat),(whoN p s l).testBit i=true↔s.testBit i=true∨∃m∈l,p m=true∧m.Node.toNat=i|[],s,i=>by simp[whoN]|m::l,s,i=>by rw[qen,qgb l];cases hp:p m with
  |true=>
   simp only[if_true];rw[Nat.testBit_or,Bool.or_eq_true,bit,q6o,dT'];constructor
   ·rintro((h|h)|⟨x,h1,h2⟩);·exact .inl h
    ·exact .inr ⟨m,by simp,hp,h⟩
    ·exact .inr ⟨x,by simp[h1],h2⟩
   ·rintro(h|⟨x,h1,h2,h3⟩);·exact .inl (.inl h)
    ·rcases List.mem_cons.1 h1 with e|h1;·subst e;exact .inl (.inr h3)
     ·exact .inr ⟨x,h1,h2,h3⟩|false=>
   simp only[fT,if_false];constructor
   ·rintro(h|⟨x,h1,h2⟩);·exact .inl h
    ·exact .inr ⟨x,by simp[h1],h2⟩
   ·rintro(h|⟨x,h1,h2,h3⟩);·exact .inl h
    ·rcases List.mem_cons.1 h1 with e|h1;·subst e;rw[hp]at h2;cases h2
     ·exact .inr ⟨x,h1,h2,h3⟩
theorem q4d{l:List Nomination}{x:Val}{i:Nat}:(accsN l x).testBit i=true↔∃m∈l,x∈m.Accepts∧m.Node.toNat=i:=by rw[accsN,qgb];simp
theorem y7u(p:Nat→Prop):∀n:Nat,∃X:Nat,X<2^n∧∀i,X.testBit i=true↔i<n∧p i
 |0=>⟨0,by simp,fun i=>by simp⟩|n+1=>by
  obtain⟨X,h1,h2⟩:=y7u p n;by_cases hp:p n
  ·refine⟨X|||2^n,Nat.or_lt_two_pow (Nat.lt_trans h1 (Nat.pow_lt_pow_right (by decide) (by omega))) (Nat.pow_lt_pow_right (by decide) (by omega)),fun i=>?_⟩;rw[Nat.testBit_or,Bool.or_eq_true,h2,q6o,dT'];constructor
   ·rintro(⟨a,b⟩|e);·exact⟨by omega,b⟩
    ·subst e;exact⟨by omega,hp⟩
   ·rintro⟨a,b⟩;by_cases e:n=i;·exact .inr e
    ·exact .inl ⟨by omega,b⟩
  ·refine⟨X,Nat.lt_trans h1 (Nat.pow_lt_pow_right (by decide) (by omega)),fun i=>?_⟩;rw[h2];constructor;·rintro⟨a,b⟩;exact⟨by omega,b⟩
   ·rintro⟨a,b⟩;have:i≠n:=fun e=>hp (by rw[←e];exact b);exact⟨by omega,b⟩
theorem qxt{n:Nat}{lo hi:Config}(h:PairOk n lo hi)(hn:n≤10){ill x g:Nat}(hill:Sub ill (full lo))(hgl:QL lo (bef lo hi ill) g)(ha0:ndiff (full lo) (bef lo hi ill)≠0)(hx:Sub g x)(hne:¬Sub (ndiff (full lo) (bef lo hi ill)) x):∃v,(ndiff (full lo) (bef lo hi ill)).testBit v=true∧x.testBit v=false∧blk lo v (ndiff (full lo) (bef lo hi ill)&&&x)=true:=by
 have hle:=h.lok.le10 hn;obtain⟨hs,hq⟩:=qfh h hn hill ha0;have hb:=y0y h hn hill hs;obtain⟨_,_,hbi⟩:=q5w.1 hb;have hsb:=((qcy h hn).1 hbi).2;generalize hB:bef lo hi ill=b at*;apply Classical.byContradiction;intro hno;have hno':∀v,(ndiff (full lo) b).testBit v=true→x.testBit v=false→blk lo v (ndiff (full lo) b&&&x)=false:=fun v h1 h2=>by cases hk:blk lo v (ndiff (full lo) b&&&x)with|false=>rfl|true=>exact absurd ⟨v,h1,h2,hk⟩ hno
 have hdec:Sub (ndiff (full lo) b) (decl lo):=by rw[h.dec];exact hq.2.1
 have hW0:ndiff (ndiff (full lo) b) x≠0:=fun e=>hne (q3k.1 e);have hW:QL lo b (ndiff (ndiff (full lo) b) x):=by
  refine⟨hW0,fun i hi=>hdec i ?_,fun i hi=>?_,fun k hk=>?_⟩;·rw[q04,aT]at hi;exact hi.1
  ·rw[q04,q04]at hi;simp only[aT,Bool.not_eq_true']at hi;exact hi.1.2
  ·rw[q04 (ndiff (full lo) b) x,aT,Bool.not_eq_true']at hk;have hkd:=hdec k hk.1;have:=hno' k hk.1 hk.2;unfold blk at this;rw[hkd,tA',Bool.not_eq_false']at this;rw[←this];apply qp4 h.lok hn hkd;intro i hi;have h10:(1023:Nat).testBit i=true:=by rw[qhu,dT']at hi;rw[qko,dT'];omega
   rw[Nat.testBit_or,Nat.testBit_or,q04,q04,q04,Nat.testBit_and,q04,q6o,hi,h10];by_cases hki:k=i;·subst hki;rw[hk.2];have:=hk.1;rw[q04,hi,tA']at this;simp[this]
   ·rw[decide_eq_false hki];cases b.testBit i<;>cases x.testBit i<;>rfl
 obtain⟨i,i1,i2⟩:=qjt hle hsb hW hgl;rw[q04,aT,Bool.not_eq_true']at i1;have:=hx i i2;rw[i1.2]at this;cases this
structure Knows(c:Config)(G:Nat)(S:Nat→Nominator)(b:Nat):Prop where
 ready:ReadyN (S b)set:SetN (S b)node:(S b).Node=(b:Int)trust:(S b).Trust=tr c b
 room:(S b).Accepts.length<40
 heard:∀a,G.testBit a=true→a≠b→∃m∈(S b).Heard,m.Node=(a:Int)∧m.Trust=tr c a∧m.Accepts=(S a).Accepts
 cand:∀x∈(S b).Candidates,∃U,U.testBit b=true∧U<1024∧∀k,U.testBit k=true→G.testBit k=true→x∈(S k).Accepts∧sat U (tr c k)=true
theorem agree{n:Nat}{c:Config}(hc:ConfOk n c)(hn:n≤10){ill:Nat}(hill:Sub ill (full c)){S:Nat→Nominator}(hS:∀b,(ndiff (full c) ill).testBit b=true→Knows c (ndiff (full c) ill) S b){a v:Nat}(ha:(ndiff (full c) (bef c c ill)).testBit a=true)(hv:(ndiff (full c) (bef c c ill)).testBit v=true):∀x∈(S a).Candidates,x∈(S v).Candidates:=by
 intro x hx;have h:=PairOk.self hc;have hI0:ndiff (full c) (bef c c ill)≠0:=nz.2 ⟨a,ha⟩;obtain⟨hs,hq⟩:=qfh h hn hill hI0;have hbi:=ybv (lo:=c) (hi:=c) hill;have hIG:∀k,(ndiff (full c) (bef c c ill)).testBit k=true→(ndiff (full c) ill).testBit k=true:=fun k hk=>by rw[q04,aT,Bool.not_eq_true']at hk⊢;refine⟨hk.1,?_⟩;cases e:ill.testBit k with|false=>rfl|true=>rw[hbi k e]at hk;cases hk.2
 have hIlt:ndiff (full c) (bef c c ill)<1024:=qro hq;obtain⟨U,u1,u2,u3⟩:=(hS a (hIG a ha)).cand x hx;obtain⟨X,x1,x2⟩:=y7u (fun k=>(ndiff (full c) (bef c c ill)).testBit k=true∧x∈(S k).Accepts) 10;have hsplit:∀i,(full c).testBit i=true→(bef c c ill).testBit i=false→(ndiff (full c) (bef c c ill)).testBit i=true:=fun i h1 h2=>by rw[q04,h1,h2];rfl
 have hoff:∀i,(ndiff (full c) (bef c c ill)).testBit i=true→(bef c c ill).testBit i=false:=fun i h1=>by rw[q04,aT,Bool.not_eq_true']at h1;exact h1.2
 generalize hI:ndiff (full c) (bef c c ill)=I at*;have hg:QL c (bef c c ill) (U&&&I):=by
  refine⟨nz.2 ⟨a,by rw[Nat.testBit_and,u1,ha];rfl⟩,fun i hi=>?_,fun i hi=>?_,fun k hk=>?_⟩;·rw[Nat.testBit_and,aT]at hi;exact hq.2.1 i hi.2
  ·rw[Nat.testBit_and,aT]at hi;exact hoff i hi.2
  ·rw[Nat.testBit_and,aT]at hk;have hsat:=(u3 k hk.1 (hIG k hk.2)).2;have e:sat (U&&&full c) (tr c k)=sat U (tr c k):=qp4 hc hn (hq.2.1 k hk.2) fun i hi=>by rw[Nat.testBit_and,hi,Bool.and_true]
   rw[←e]at hsat;refine qkb (fun i hi=>?_) hsat;rw[Nat.testBit_and,aT]at hi;rw[Nat.testBit_or,Nat.testBit_and,hi.1];cases hb:(bef c c ill).testBit i with|true=>simp|false=>rw[hsplit i hi.2 hb];rfl
 have hgX:Sub (U&&&I) X:=fun i hi=>by rw[Nat.testBit_and,aT]at hi;exact(x2 i).2 ⟨q4j hIlt hi.2,hi.2,(u3 i hi.1 (hIG i hi.2)).1⟩
 have haX:X.testBit a=true:=hgX a (by rw[Nat.testBit_and,u1,ha];rfl);have hIX:Sub I X:=by
  apply Classical.byContradiction;intro hne;obtain⟨w,w1,w2,w3⟩:=qxt h hn hill hg (by rw[hI];exact hI0) hgX (by rw[hI];exact hne);rw[hI]at w1 w3;have K:=hS w (hIG w w1);have hxw:x∉(S w).Accepts:=fun e=>by have:=(x2 w).2 ⟨q4j hIlt w1,w1,e⟩;rw[w2]at this;cases this
  have hne':∀i,X.testBit i=true→i≠w:=fun i hi e=>by rw[e,w2]at hi;cases hi
  have hacc:Sub (I&&&X) (accsN (allN (S w)) x):=fun i hi=>by rw[Nat.testBit_and,aT]at hi;obtain⟨m,m1,m2,m3,m4⟩:=K.heard i (hIG i hi.1) (hne' i hi.2);exact q4d.2 ⟨m,List.mem_append_left _ m1,by rw[m4];exact((x2 i).1 hi.2).2.2,by rw[m2];simp⟩
  have hblk:blk (viewN (S w)) w (accsN (allN (S w)) x)=true:=by have o:=qep K.ready;rw[K.node,tN]at o;refine y5w hacc ?_;unfold blk at w3⊢;rw[aT]at w3;rw[o.1,o.2,K.trust];exact w3.2
  have hcan:canN (S w) x=true:=by unfold canN accB;rw[K.node,tN,hblk,decide_eq_false hxw,decide_eq_true K.room];rfl
  have hkn:x∈qdl (S w):=by obtain⟨m,m1,m2,m3,m4⟩:=K.heard a (hIG a ha) (hne' a haX);exact q4g.2 (qfs.2 ⟨m,List.mem_append_left _ m1,.inr (by rw[m4];exact((x2 a).1 haX).2.2)⟩)
  have:=qz3 K.set.next x hkn;rw[hcan]at this;cases this
 have K:=hS v (hIG v hv);have hin:∀i,I.testBit i=true→x∈(S i).Accepts:=fun i hi=>((x2 i).1 (hIX i hi)).2.2;have hall:Sub I (accsN (allN (S v)) x):=fun i hi=>by
  by_cases e:i=v;·subst e;exact q4d.2 ⟨sayN (S i),by simp[allN],hin i hi,by show(S i).Node.toNat=i;rw[K.node];simp⟩
  ·obtain⟨m,m1,m2,m3,m4⟩:=K.heard i (hIG i hi) e;exact q4d.2 ⟨m,List.mem_append_left _ m1,by rw[m4];exact hin i hi,by rw[m2];simp⟩
 have hkey:∀i,I.testBit i=true→(decl (viewN (S v))).testBit i=true∧tr (viewN (S v)) i=tr c i:=fun i hi=>by
  by_cases e:i=v;·subst e;have o:=qep K.ready;rw[K.node,tN,K.trust]at o;exact o
  ·obtain⟨m,m1,m2,m3,m4⟩:=K.heard i (hIG i hi) e;have o:=qjq K.ready m1;rw[m2,tN,m3]at o;exact o
 have hQ:q2g (viewN (S v)) I:=⟨hq.1,fun i hi=>(hkey i hi).1,fun k hk=>by rw[(hkey k hk).2];exact hq.2.2 k hk⟩;refine K.set.conf x (hin v hv) ?_;unfold confN confB;rw[K.node,tN];exact qgq _ (qeg K.ready.all x) hQ hall v hv
theorem qit{n u:Nominator}(x:Val)(hx:x∈(turned n u).Candidates):x∈u.Candidates∨confN (turned n u) x=true:=by
 obtain⟨s,_,g2,_⟩:=q7o n (q0r (leadN u) u);unfold turned at hx⊢;rw[g2]at hx⊢;rcases qe4 (leadN u) hx with h|h;·exact .inl h
 ·exact .inr (by rw[←h.2];refine qbx ?_ ?_ ?_ ?_ x<;>rfl)
theorem qe0{A B:List Val}(hA:Asc A)(hB:Asc B)(h:∀x∈A,x∈B)(hl:B.length≤A.length):A=B:=by
 refine qnn hA hB fun x=>⟨h x,fun hx=>?_⟩;apply Classical.byContradiction;intro hno;have:(x::A).Nodup:=List.nodup_cons.2 ⟨hno,qfm hA⟩;have:=q5x (B:=B) this fun y hy=>by
  rcases List.mem_cons.1 hy with e|hy;·rw[e];exact hx
  ·exact h y hy
 simp at this;omega
theorem StepN.seqb{n w:Nominator}(hn:ReadyN n)(h:StepN n w)(hw:ReadyN w)(ht:n.Trust=w.Trust)(hb:n.Seq≤1+((n.Votes.length+n.Accepts.length:Nat):Int)):w.Seq≤1+((w.Votes.length+w.Accepts.length:Nat):Int):=by
 have l1:=q3i (q0h.1 hn.votes).2.1 h.votes;have l2:=q3i (q0h.1 hn.accs).2.1 h.accs;rcases h.seq with e|e;·omega
 ·by_cases hlt:n.Votes.length+n.Accepts.length<w.Votes.length+w.Accepts.length;·omega
  ·have e1:=qe0 (q0h.1 hn.votes).2.1 (q0h.1 hw.votes).2.1 h.votes (by omega);have e2:=qe0 (q0h.1 hn.accs).2.1 (q0h.1 hw.accs).2.1 h.accs (by omega);have:=h.chg.2 ⟨ht,e1,e2⟩;omega
end Go.Proofs.YtglokalgdbegeaaGreat
namespace Go.Proofs.YtglokalgdbegeaaGreat
open Go Go.Ab Go.Sort
structure AgB(c:Config)(G:Nat)(S:List Nominator)(b:Nat):Prop where
 ready:ReadyN (atN S b)inv:InV (atN S b)node:(atN S b).Node=(b:Int)tru:(atN S b).Trust=tr c b
 set:SetN (atN S b)seqb:(atN S b).Seq≤1+(((atN S b).Votes.length+(atN S b).Accepts.length:Nat):Int)heard:∀m∈(atN S b).Heard,∀a,G.testBit a=true→m.Node=(a:Int)→m.Trust=tr c a∧(∀x∈m.Accepts,x∈(atN S a).Accepts)∧m.Seq≤(atN S a).Seq∧(m.Seq=(atN S a).Seq→m.Accepts=(atN S a).Accepts)cand:∀x∈(atN S b).Candidates,∃U,U.testBit b=true∧U<1024∧∀k,U.testBit k=true→G.testBit k=true→x∈(atN S k).Accepts∧sat U (tr c k)=true
structure AgI(N:Nat)(c:Config)(G:Nat)(S:List Nominator):Prop where
 len:S.length=N
 all:∀b,b<N→AgB c G S b
noncomputable def hearS(S:List Nominator)(m:Nomination)(b:Nat):Nominator:=turned (atN S b) {atN S b with Heard:=q1w m (atN S b).Heard}
theorem AgB.small{c:Config}{G:Nat}{S:List Nominator}{b:Nat}(B:AgB c G S b):(atN S b).Seq≤15:=by have h1:=q3i (q0h.1 B.ready.votes).2.1 B.inv.votes;have h2:=q3i (q0h.1 B.ready.accs).2.1 B.inv.accs;have h3:someV.length=7:=rfl;have:=B.seqb;omega
theorem y4l{N:Nat}{c:Config}{G:Nat}(hG:∀k,G.testBit k=true→k<N){S:List Nominator}(hS:AgI N c G S){b:Nat}(hb:b<N){m:Nomination}(hm:nomB m=true)(hne:m.Node≠(b:Int))(h1:∀x∈m.Votes,x∈someV)(h2:∀x∈m.Accepts,x∈someV)(hsay:∀a,G.testBit a=true→m.Node=(a:Int)→m=sayN (atN S a)):AgI N c G (S.set b (hearS S m b)):=by
 have hl:=hS.len;have hset:=y32 (S:=S) (b:=b) (by omega) (hearS S m b);have B:=hS.all b hb;have hne':m.Node≠(atN S b).Node:=by rw[B.node];exact hne
 have hu:=B.ready.withH hm hne';obtain⟨hst,hse⟩:=qft (n:=atN S b) hu (leadN {atN S b with Heard:=q1w m (atN S b).Heard}) rfl rfl rfl rfl rfl rfl;have hst:StepN (atN S b) (hearS S m b):=hst;have hse:SetN (hearS S m b):=hse;obtain⟨s,Ac,Cc,ef,hCc⟩:=qkk (atN S b) {atN S b with Heard:=q1w m (atN S b).Heard};have hwH:(hearS S m b).Heard=q1w m (atN S b).Heard:=by unfold hearS;rw[ef]
 have hwt:(hearS S m b).Trust=(atN S b).Trust:=by unfold hearS;rw[ef]
 have hwi:InV (hearS S m b):=(B.inv.hear h1 h2).turn;have hsm:=B.small;have hready:ReadyN (hearS S m b):=hst.ready (by have:=hst.seq;omega);have hwn:(hearS S m b).Node=(b:Int):=by rw[hst.node];exact B.node
 have hsq:(atN S b).Seq≤(hearS S m b).Seq:=by have:=hst.seq;omega
 have grow:∀k x,x∈(atN S k).Accepts→x∈(atN (S.set b (hearS S m b)) k).Accepts:=fun k x hx=>by
  rw[hset];by_cases e:b=k;·subst e;rw[if_pos rfl];exact hst.accs x hx
  ·rw[if_neg e];exact hx
 have hhd:∀(l:List Nomination),(∀k∈l,∀a,G.testBit a=true→k.Node=(a:Int)→k.Trust=tr c a∧(∀x∈k.Accepts,x∈(atN S a).Accepts)∧k.Seq≤(atN S a).Seq∧(k.Seq=(atN S a).Seq→k.Accepts=(atN S a).Accepts))→∀k∈l,∀a,G.testBit a=true→k.Node=(a:Int)→k.Trust=tr c a∧(∀x∈k.Accepts,x∈(atN (S.set b (hearS S m b)) a).Accepts)∧k.Seq≤(atN (S.set b (hearS S m b)) a).Seq∧(k.Seq=(atN (S.set b (hearS S m b)) a).Seq→k.Accepts=(atN (S.set b (hearS S m b)) a).Accepts):=by
  intro l hl k hk a ha hka;obtain⟨q1,q2,q3,q4⟩:=hl k hk a ha hka;refine⟨q1,fun x hx=>grow a x (q2 x hx),?_,?_⟩
  ·rw[hset];by_cases e:b=a;·subst e;rw[if_pos rfl];omega
   ·rw[if_neg e];exact q3
  ·rw[hset];by_cases e:b=a
   ·subst e;rw[if_pos rfl];intro he;have e1:(hearS S m b).Seq=(atN S b).Seq:=by omega
    rw[q4 (by omega)];exact(hst.chg.1 e1).2.2
   ·rw[if_neg e];exact q4
 have hown:∀k∈q1w m (atN S b).Heard,∀a,G.testBit a=true→k.Node=(a:Int)→k.Trust=tr c a∧(∀x∈k.Accepts,x∈(atN S a).Accepts)∧k.Seq≤(atN S a).Seq∧(k.Seq=(atN S a).Seq→k.Accepts=(atN S a).Accepts):=by
  intro k hk a ha hka;rcases qfw hk with e|e;·subst e;have e:=hsay a ha hka;rw[e];exact⟨(hS.all a (hG a ha)).tru,fun x hx=>hx,Int.le_refl _,fun _=>rfl⟩
  ·exact B.heard k e a ha hka
 have hcand:∀(k:Nat)(x:Val),(∃U,U.testBit k=true∧U<1024∧∀j,U.testBit j=true→G.testBit j=true→x∈(atN S j).Accepts∧sat U (tr c j)=true)→∃U,U.testBit k=true∧U<1024∧∀j,U.testBit j=true→G.testBit j=true→x∈(atN (S.set b (hearS S m b)) j).Accepts∧sat U (tr c j)=true:=by rintro k x⟨U,g1,g2,g3⟩;exact⟨U,g1,g2,fun j hj hg=>⟨grow j x (g3 j hj hg).1,(g3 j hj hg).2⟩⟩
 refine⟨by simp[hl],fun d hd=>?_⟩;by_cases e:b=d
 ·subst e;have ew:atN (S.set b (hearS S m b)) b=hearS S m b:=by rw[hset,if_pos rfl]
  refine⟨by rw[ew];exact hready,by rw[ew];exact hwi,by rw[ew];exact hwn,by rw[ew,hwt];exact B.tru,by rw[ew];exact hse,by rw[ew];exact StepN.seqb B.ready hst hready hwt.symm B.seqb,?_,?_⟩;·intro k hk;rw[ew,hwH]at hk;exact hhd _ hown k hk
  ·intro x hx;rw[ew]at hx;rcases qit x hx with h|h;·exact hcand b x (B.cand x h)
   ·have hlt:=qeg hready.all x;have hc':confN (hearS S m b) x=true:=h;unfold confN confB at hc';have h0:q1p (viewN (hearS S m b)) (accsN (allN (hearS S m b)) x)≠0:=nz.2 ⟨_,hc'⟩;have hQ:=q6b (viewN (hearS S m b)) hlt h0;have hbn:(hearS S m b).Node.toNat=b:=by rw[hwn,tN]
    rw[hbn]at hc';refine⟨_,hc',qro hQ,fun k hk hg=>?_⟩;have hs:=hQ.2.2 k hk;have hl:=q5c (viewN (hearS S m b)) hlt k hk;rw[Nat.testBit_and,aT]at hl;obtain⟨y,hy,hya,hyn⟩:=q4d.1 hl.1;have hyb:=q4y (q1q.1 (hready.all y hy)).1;rcases List.mem_append.1 hy with hy|hy;·obtain⟨q1,q2,_,_⟩:=hhd _ hown y (by rw[←hwH];exact hy) k hg (by omega);have t:=(qjq hready hy).2;rw[hyn,q1]at t;rw[t]at hs;exact⟨q2 x hya,hs⟩
    ·simp at hy;subst hy;have hk':k=b:=hyn.symm.trans hbn;subst hk';have t:=(qep hready).2;rw[hbn,hwt,B.tru]at t;rw[t]at hs;rw[ew];exact⟨hya,hs⟩
 ·have ed:atN (S.set b (hearS S m b)) d=atN S d:=by rw[hset,if_neg e]
  have D:=hS.all d hd;refine⟨by rw[ed];exact D.ready,by rw[ed];exact D.inv,by rw[ed];exact D.node,by rw[ed];exact D.tru,by rw[ed];exact D.set,by rw[ed];exact D.seqb,?_,?_⟩;·intro k hk;rw[ed]at hk;exact hhd _ D.heard k hk
  ·intro x hx;rw[ed]at hx;exact hcand d x (D.cand x hx)
theorem ybj{N:Nat}(hN:N≤10){c:Config}{G to:Nat}(hto:to<1024)(hG:∀k,G.testBit k=true→k<N):CalmI N to (15*N) (AgI N c G)where
 n10:=hN;to10:=hto;len:=fun S h=>h.len;ready:=fun S h b hb=>(h.all b hb).ready;node:=fun S h b hb=>(h.all b hb).node;step:=fun S h a b ha hb hab _ _=>by have A:=h.all a ha;exact y4l hG h hb (m:=sayN (atN S a)) A.ready.say (by show(atN S a).Node≠_;rw[A.node];omega) A.inv.votes A.inv.accs (fun k _ hk=>by
   have hk:(atN S a).Node=(k:Int):=hk;rw[A.node]at hk;have:a=k:=by omega
   rw[this])
 pot:=fun S h=>by
  have key:∀(l:List Nominator),(∀n∈l,n.Seq.toNat≤15)→(l.map fun n=>n.Seq.toNat).sum≤15*l.length:=by intro l;induction l with|nil=>intro _;simp|cons x r ih=>intro hx;have h1:=hx x (by simp);have h2:=ih fun n hn=>hx n (by simp[hn]);simp only[List.map_cons,List.sum_cons,List.length_cons];omega
  have:=key S (fun n hn=>by obtain⟨j,hj⟩:=List.getElem?_of_mem hn;have hlt:j<S.length:=(List.getElem?_eq_some_iff.1 hj).1;have:=(h.all j (by rw[←h.len];exact hlt)).small;rw[qb0 hlt]at hj;cases hj;omega);rw[h.len]at this;exact this
theorem y5s{N:Nat}{c:Config}{G to:Nat}(hG:∀k,G.testBit k=true→k<N∧to.testBit k=true){S:List Nominator}(h:AgI N c G S)(hold:∀a b,Pair N to a b→OldS S a b){b:Nat}(hb:G.testBit b=true):Knows c G (atN S) b:=by have B:=h.all b (hG b hb).1;refine⟨B.ready,B.set,B.node,B.tru,qyb B.ready.accs B.inv.accs,fun a ha hab=>?_,B.cand⟩;have A:=h.all a (hG a ha).1;have ho:=hold a b ⟨(hG a ha).1,(hG b hb).1,hab,(hG b hb).2⟩;unfold OldS oldN at ho;rw[List.any_eq_true]at ho;obtain⟨m,hm,hq⟩:=ho;rw[aT,dT',dT']at hq;have hn:m.Node=(a:Int):=hq.1.trans A.node;obtain⟨q1,q2,q3,q4⟩:=B.heard m hm a ha hn;have hs:(atN S a).Seq≤m.Seq:=hq.2;exact⟨m,hm,hn,q1,q4 (by omega)⟩
structure LoneN(c:Config)(b:Nat)(r:Int)(n:Nominator):Prop where
 ready:ReadyN n
 inv:InV n
 node:n.Node=(b:Int)tru:n.Trust=tr c b
 set:SetN n
 seqb:n.Seq≤1+((n.Votes.length+n.Accepts.length:Nat):Int)heard:n.Heard=[]round:n.Round≤r
 cand:∀x∈n.Candidates,x∈n.Accepts∧∃U,U.testBit b=true∧U<1024∧(∀k,U.testBit k=true→k=b)∧sat U (tr c b)=true
theorem qrh{c:Config}{b:Nat}{w:Nominator}(hw:ReadyN w)(hn:w.Node=(b:Int))(ht:w.Trust=tr c b)(hh:w.Heard=[]){x:Val}(hc:confN w x=true):x∈w.Accepts∧∃U,U.testBit b=true∧U<1024∧(∀k,U.testBit k=true→k=b)∧sat U (tr c b)=true:=by
 have hlt:=qeg hw.all x;unfold confN confB at hc;have h0:q1p (viewN w) (accsN (allN w) x)≠0:=nz.2 ⟨_,hc⟩;have hQ:=q6b (viewN w) hlt h0;have hbn:w.Node.toNat=b:=by rw[hn,tN]
 have hs:=hQ.2.2 _ hc;have t:=(qep hw).2;rw[t,ht]at hs;rw[hbn]at hc;have one:∀k,(q1p (viewN w) (accsN (allN w) x)).testBit k=true→k=b∧x∈w.Accepts:=fun k hk=>by have hl:=q5c (viewN w) hlt k hk;rw[Nat.testBit_and,aT]at hl;obtain⟨y,hy,hya,hyn⟩:=q4d.1 hl.1;unfold allN at hy;rw[hh]at hy;simp at hy;subst hy;exact⟨hyn.symm.trans hbn,hya⟩
 exact⟨(one b hc).2,_,hc,qro hQ,fun k hk=>(one k hk).1,hs⟩
theorem qz4{c:Config}{b:Nat}(hb:b<10){slot:Int}(hs:0≤slot∧slot≤1000000)(ht:valid (tr c b)=true){own:Val}(ho:own∈someV):∃n,z34 (b:Int) slot (tr c b) own=some (n,0)∧LoneN c b 1 n:=by
 have hk:inR (b:Int)=true:=by simp[inR];omega
 have hol:own.length≤200:=(qti.1 ((q0h.1 qkx).1 own ho)).2;have hr:=qlm hk hs ht hol;have hi:InV (newN (b:Int) slot (tr c b) own):=⟨.inr ho,fun x hx=>by simp[newN]at hx,fun x hx=>by simp[newN]at hx,fun m hm=>by simp[newN]at hm⟩;have hv:verr (tr c b)=0:=(q67 _).2 ht;obtain⟨A,C,f1,_,_,_⟩:=q5p (leadN (newN (b:Int) slot (tr c b) own)) (newN (b:Int) slot (tr c b) own);have e1:(q0r (leadN (newN (b:Int) slot (tr c b) own)) (newN (b:Int) slot (tr c b) own)).Node=(b:Int):=by rw[f1];rfl
 have e2:(q0r (leadN (newN (b:Int) slot (tr c b) own)) (newN (b:Int) slot (tr c b) own)).Trust=tr c b:=by rw[f1];rfl
 have e3:(q0r (leadN (newN (b:Int) slot (tr c b) own)) (newN (b:Int) slot (tr c b) own)).Heard=[]:=by rw[f1];rfl
 refine⟨q0r (leadN (newN (b:Int) slot (tr c b) own)) (newN (b:Int) slot (tr c b) own),?_,hr.settle _,hi.settle _,e1,e2,qge hr _,?_,e3,?_,fun x hx=>?_⟩;·rw[qln _ slot (q1v ht) own (by omega),qpp,if_neg (by rw[hk];simp),if_neg (by omega),if_neg (by rw[hv];simp),if_neg (by omega)]
 ·have e4:(q0r (leadN (newN (b:Int) slot (tr c b) own)) (newN (b:Int) slot (tr c b) own)).Seq=1:=by rw[f1];rfl
  omega
 ·have e4:(q0r (leadN (newN (b:Int) slot (tr c b) own)) (newN (b:Int) slot (tr c b) own)).Round=1:=by rw[f1];rfl
  omega
 ·rcases qe4 _ hx with h|h;·simp[newN]at h
  ·exact qrh (hr.settle _) e1 e2 e3 h.2
theorem LoneN.small{c:Config}{b:Nat}{r:Int}{n:Nominator}(h:LoneN c b r n):n.Seq≤15:=by have h1:=q3i (q0h.1 h.ready.votes).2.1 h.inv.votes;have h2:=q3i (q0h.1 h.ready.accs).2.1 h.inv.accs;have h3:someV.length=7:=rfl;have:=h.seqb;omega
theorem qzu{c:Config}{b:Nat}{r:Int}{n:Nominator}(h:LoneN c b r n)(hr:r<1000):∃w,z5m n=some (w,0)∧LoneN c b (r+1) w:=by
 have hq:=h.round;have hq':=h.ready.round;have hu:=h.ready.withR (r:=n.Round+1) (by omega) (by omega);obtain⟨hst,hse⟩:=qft (n:=n) hu (leadN {n with Round:=n.Round+1}) rfl rfl rfl rfl rfl rfl;have hst:StepN n (turned n {n with Round:=n.Round+1}):=hst;have hse:SetN (turned n {n with Round:=n.Round+1}):=hse;obtain⟨s,Ac,Cc,ef,_⟩:=qkk n {n with Round:=n.Round+1};have e1:(turned n {n with Round:=n.Round+1}).Node=(b:Int):=by rw[hst.node];exact h.node
 have e2:(turned n {n with Round:=n.Round+1}).Trust=tr c b:=by rw[ef];exact h.tru
 have e3:(turned n {n with Round:=n.Round+1}).Heard=[]:=by rw[ef];exact h.heard
 have hsm:=h.small;have hrd:ReadyN (turned n {n with Round:=n.Round+1}):=hst.ready (by have:=hst.seq;omega);have hiv:InV {n with Round:=n.Round+1}:=⟨h.inv.own,h.inv.votes,h.inv.accs,h.inv.heard⟩;refine⟨turned n {n with Round:=n.Round+1},?_,hrd,hiv.turn,e1,e2,hse,StepN.seqb h.ready hst hrd (by rw[e2];exact h.tru) h.seqb,e3,?_,fun x hx=>?_⟩;·rw[qzw h.ready.small,tickN,if_neg (by rw[q62.2 h.ready];simp),if_neg (by omega)]
 ·have e4:(turned n {n with Round:=n.Round+1}).Round=n.Round+1:=by rw[ef]
  omega
 ·rcases qit x hx with g|g;·obtain⟨g1,g2⟩:=h.cand x g;exact⟨hst.accs x g1,g2⟩
  ·exact qrh hrd e1 e2 e3 g
theorem y7n{c:Config}{b:Nat}(hb:b<10)(a2 a4 a6 a8:Int)(a10:List Nominator)(hl:a10.length≤10)(a17:List Int)(a19:Int)(a21:List Member)(R:Bool):∀(r:Nat)(q:Int)(n:Nominator),LoneN c b q n→q+(r:Int)≤100→(∀n' q',LoneN c b q' n'→z1s a2 a4 a6 a8 (a10++[n']) ((b+1:Nat):Int) a17 a19 a21=some R)→z22 a2 a4 a6 a8 a10 (b:Int) (r:Int) a17 a19 a21 n.Node n.Slot n.Round n.Seq n.Trust.Threshold n.Trust.Nodes n.Trust.Inner n.Own n.Votes n.Accepts n.Candidates n.Heard=some R|0,q,n,h,hq,hR=>by apply y9b;rw[q00 (by omega),cF,q0i (by simp[q0f];omega),q8x,q01 (by omega)];exact hR n q h|r+1,q,n,h,hq,hR=>by have hr1:=h.round;have hr2:=h.ready.round;obtain⟨w,g1,g2⟩:=qzu h (by omega);apply y9b;rw[q02 (by omega),cT,q8x,g1,bS];dsimp only;rw[show subI .i64 ((r+1:Nat):Int) 1=(r:Int)by rw[q2u (by omega) (by omega)];omega];exact y7n hb a2 a4 a6 a8 a10 hl a17 a19 a21 R r (q+1) w g2 (by omega) hR
theorem y6t{S:List Nominator}(x:Nominator)(b:Nat):atN (S++[x]) b=if b<S.length then atN S b else if b=S.length then x else q9s:=by
 unfold atN;rw[List.getD_eq_getElem?_getD,List.getD_eq_getElem?_getD,List.getElem?_append];by_cases h:b<S.length;·rw[if_pos h,if_pos h]
 ·rw[if_neg h,if_neg h];by_cases e:b=S.length;·subst e;simp
  ·rw[if_neg e,List.getElem?_eq_none (by simp;omega)];rfl
theorem y8b{c:Config}{N:Nat}(hN:N≤5)(hc:ConfOk N c)(hlen:c.Members.length=N)(hd:∀m∈c.Members,m.Declared=true){slot:Int}(hs:0≤slot∧slot≤1000000)(a4 a6:Int){l:List Int}(R:Bool)(hR:∀S j,S.length=N→(∀b,b<N→∃q,LoneN c b q (atN S b))→q0t l j→z0j (N:Int) a4 a6 S 0 l j c.Members=some R):∀(r:Nat)(S:List Nominator)(i:Int),S.length+r=N→(∀b,b<S.length→∃q,LoneN c b q (atN S b))→q0t l i→z1s (N:Int) a4 a6 slot S ((S.length:Nat):Int) l i c.Members=some R
 |0,S,i,h,hS,ht=>by apply y97;rw[q00 (by omega),cF];exact hR S i (by omega) (fun b hb=>hS b (by omega)) ht|r+1,S,i,h,hS,ht=>by
  have hlt:S.length<c.Members.length:=by omega
  have hget:c.Members[S.length]?=some c.Members[S.length]:=by simp[hlt]
  have htr:=y2j hget;have hv:valid (tr c S.length)=true:=by rw[htr];have:=hc.mem _ (List.getElem_mem hlt);unfold MemOk at this;rw[if_pos (hd _ (List.getElem_mem hlt))]at this;exact this.1
  obtain⟨own,i1,g1,g2,g3⟩:=y2s ht;obtain⟨n,s1,s2⟩:=qz4 (c:=c) (b:=S.length) (by omega) hs hv g2;obtain⟨v,i2,t1,t2,t3,t4⟩:=N_ok (n:=3) (by decide) (by decide) g3;apply y97;rw[q02 (by omega),cT,q0l (y:=c.Members[S.length]) (by omega) (by rw[tN];exact hget),g1,bS];dsimp only;rw[←htr,s1,bS];dsimp only;rw[show neB (0:Int) 0=false from rfl,cF,t1,bS];dsimp only;have hvn:v=((v.toNat:Nat):Int):=by omega
  rw[hvn];refine y7n (by omega) _ _ _ _ S (by omega) l i2 c.Members R v.toNat 1 n s2 (by omega) (fun n' q' hn'=>?_);have:=y8b hN hc hlen hd hs a4 a6 R hR r (S++[n']) i2 (by simp;omega) (fun b hb=>by
   rw[y6t];by_cases e:b<S.length;·rw[if_pos e];exact hS b e
   ·have:b=S.length:=by simp at hb;omega
    rw[if_neg e,if_pos this,this];exact⟨q',hn'⟩) t4;simpa using this
theorem qxg{N:Nat}{c:Config}{G:Nat}{S:List Nominator}(h:AgI N c G S){b:Nat}(hb:b<N){m:Nomination}(hm:nomB m=true)(hne:m.Node≠(b:Int)):z3r (atN S b) m=some (if oldN (atN S b).Heard m=true then(q9s,9)else(hearS S m b,0)):=by have B:=h.all b hb;rw[qpz B.ready.small (q4q hm),hearN,if_neg (by rw[q62.2 B.ready,hm,B.node];simp[hne])];rfl
theorem y7w{c:Config}{N:Nat}(hN:N≤5)(h1:1≤N){ill G:Nat}(hill:ill<1024)(hG:∀k,G.testBit k=true↔k<N∧ill.testBit k=false)(a5:Int){l:List Int}(a15:List Member)(R:Bool)(hR:∀S j,AgI N c G S→q0t l j→z0j (N:Int) (ill:Int) a5 S 10 l j a15=some R):∀(r i:Nat)(S:List Nominator)(j:Int),i+r=10→AgI N c G S→q0t l j→z0j (N:Int) (ill:Int) a5 S (i:Int) l j a15=some R
 |0,i,S,j,h,hS,ht=>by
  obtain rfl:i=10:=by omega
  exact hR S j hS ht|r+1,i,S,j,h,hS,ht=>by
  have again:=y7w hN h1 hill hG a5 a15 R hR r (i+1);have hl:=hS.len;obtain⟨a',j1,g1,g2,g3,g4⟩:=N_ok (n:=(N:Int)) (by omega) (by omega) ht;obtain⟨b',j2,k1,k2,k3,k4⟩:=N_ok (n:=(N:Int)) (by omega) (by omega) g4;obtain⟨a,rfl⟩:∃a:Nat,a'=(a:Int):=⟨a'.toNat,by omega⟩;obtain⟨b,rfl⟩:∃b:Nat,b'=(b:Int):=⟨b'.toNat,by omega⟩;have ha:a<N:=by omega
  have hb:b<N:=by omega
  have A:=hS.all a ha;have B:=hS.all b hb;have geta:=qb0 (S:=S) (b:=a) (by omega);have getb:=qb0 (S:=S) (b:=b) (by omega);have hsay:z45 (atN S a)=some (sayN (atN S a)):=qpl (q46 A.ready.tr).1 (by have:=A.ready.vlen;omega) (by have:=A.ready.alen;omega);apply ya4;rw[q02 (by omega),cT,g1,bS];dsimp only;rw[k1,bS];dsimp only;rw[q0l (y:=atN S a) (by omega) (by rw[tN];exact geta)];simp only[nthN,tN,geta];rw[hsay,bS,q14 hill,bS,q2x (by omega)];have hears:∀(m:Nomination)(j':Int),q0t l j'→a≠b→ill.testBit b=false→nomB m=true→m.Node=(a:Int)→(∀x∈m.Votes,x∈someV)→(∀x∈m.Accepts,x∈someV)→(∀k,G.testBit k=true→m.Node=(k:Int)→m=sayN (atN S k))→(oldN (atN S b).Heard m=false→z0j (N:Int) (ill:Int) a5 (S.set b (hearS S m b)) ((i+1:Nat):Int) l j' a15=some R)∧z0j (N:Int) (ill:Int) a5 S ((i+1:Nat):Int) l j' a15=some R:=by intro m j' ht' hab _ hm hn v1 v2 hs;refine⟨fun _=>again (S.set b (hearS S m b)) j' (by omega) ?_ ht',again S j' (by omega) hS ht'⟩;exact y4l (fun k hk=>((hG k).1 hk).1) hS hb hm (by rw[hn];omega) v1 v2 hs
  have hn1:addI .i64 (i:Int) 1=((i+1:Nat):Int):=q01 (by omega);cases hia:ill.testBit a with
  |true=>
   obtain⟨x5,j3,d1,d2,d3⟩:=ql7 (n:=(N:Int)) (by omega) (by omega) k4;obtain⟨w1,w2,w3,w4,w5⟩:=q1q.1 d2.msg;have hq:addI .i64 100 (i:Int)=100+(i:Int):=q1x (by omega) (by omega);have hm:nomB ⟨(a:Int),100+(i:Int),x5.Trust,x5.Votes,x5.Accepts⟩=true:=q1q.2 ⟨by simp[inR];omega,by show 1≤100+(i:Int);omega,w3,w4,w5⟩;rw[cT,d1,bS];dsimp only;by_cases hab:a=b;·rw[show neB (a:Int) (b:Int)=false by rw[hab];exact q0m _,cF,hn1];exact again S j3 (by omega) hS d3
   ·rw[show neB (a:Int) (b:Int)=true by unfold neB;simp;omega,cT,q14 hill,bS,q2x (by omega)];cases hib:ill.testBit b with|true=>rw[nT,cF,hn1];exact again S j3 (by omega) hS d3|false=>
     rw[Bool.not_false,cT,q0l (y:=atN S b) (by omega) (by rw[tN];exact getb)];have hne:(⟨(a:Int),100+(i:Int),x5.Trust,x5.Votes,x5.Accepts⟩:Nomination).Node≠(b:Int):=by show(a:Int)≠_;omega
     obtain⟨z1,z2⟩:=hears ⟨(a:Int),100+(i:Int),x5.Trust,x5.Votes,x5.Accepts⟩ j3 d3 hab hib hm rfl d2.votes d2.accs (fun k hk hka=>by
      have hka:(a:Int)=(k:Int):=hka;have:a=k:=by omega
      rw[←this]at hk;rw[((hG a).1 hk).2]at hia;cases hia);simp only[getb,Trust.etaM,hq];rw[qxg hS hb hm hne,bS];cases ho:oldN (atN S b).Heard ⟨(a:Int),100+(i:Int),x5.Trust,x5.Votes,x5.Accepts⟩with|true=>simp only[if_true];rw[show eqB (9:Int) 0=false from rfl,cF,hn1];exact z2|false=>simp only[fT,if_false];rw[show eqB (0:Int) 0=true from rfl,cT,q0l (y:=atN S b) (by omega) (by rw[tN];exact getb)];simp only[hn1];exact z1 ho
  |false=>
   rw[cF];by_cases hab:a=b;·rw[show neB (a:Int) (b:Int)=false by rw[hab];exact q0m _,cF,hn1];exact again S j2 (by omega) hS k4
   ·rw[show neB (a:Int) (b:Int)=true by unfold neB;simp;omega,cT,q14 hill,bS,q2x (by omega)];cases hib:ill.testBit b with|true=>rw[nT,cF,hn1];exact again S j2 (by omega) hS k4|false=>
     rw[Bool.not_false,cT,q0l (y:=atN S b) (by omega) (by rw[tN];exact getb)];have hm:=A.ready.say;have hne:(sayN (atN S a)).Node≠(b:Int):=by show(atN S a).Node≠_;rw[A.node];omega
     obtain⟨z1,z2⟩:=hears (sayN (atN S a)) j2 k4 hab hib hm A.node A.inv.votes A.inv.accs (fun k _ hk=>by
      have hk:(atN S a).Node=(k:Int):=hk;rw[A.node]at hk;have:a=k:=by omega
      rw[this]);simp only[getb];rw[qxg hS hb hm hne,bS];cases ho:oldN (atN S b).Heard (sayN (atN S a))with|true=>simp only[if_true];rw[show eqB (9:Int) 0=false from rfl,cF,hn1];exact z2|false=>simp only[fT,if_false];rw[show eqB (0:Int) 0=true from rfl,cT,q0l (y:=atN S b) (by omega) (by rw[tN];exact getb)];simp only[hn1,Trust.etaM];exact z1 ho
theorem y4s{n w:Nominator}(hn:ReadyN n)(hw:ReadyN w)(h1:∀x∈n.Candidates,x∈w.Candidates)(h2:∀x∈w.Candidates,x∈n.Candidates):law22_kept n.Candidates w.Candidates=some true∧law22_kept w.Candidates n.Candidates=some true∧compV [] n.Candidates=compV [] w.Candidates∧z1i n.Candidates=some (compV [] n.Candidates,!decide (compV [] n.Candidates=[]))∧z1i w.Candidates=some (compV [] w.Candidates,!decide (compV [] w.Candidates=[]))∧(!decide (compV [] n.Candidates=[]))=ltB 0 ((n.Candidates.length:Nat):Int):=by
 have l1:n.Candidates.length<1152921504606846976:=by have:=(q0h.1 hn.cands).2.2;omega
 have l2:w.Candidates.length<1152921504606846976:=by have:=(q0h.1 hw.cands).2.2;omega
 refine⟨?_,?_,(qik _).uniq (qik _) fun x _=>⟨h1 x,h2 x⟩,qj3 _ l1,qj3 _ l2,?_⟩;·rw[qx9 _ _ l1 l2,List.all_eq_true.2 fun x hx=>decide_eq_true (h1 x hx)]
 ·rw[qx9 _ _ l2 l1,List.all_eq_true.2 fun x hx=>decide_eq_true (h2 x hx)]
 ·cases hc:n.Candidates with|nil=>rfl|cons y r=>
   have hy:=(q0h.1 hn.cands).1 y (by rw[hc];simp);have ht:=qik (y::r);have hne:compV [] (y::r)≠[]:=fun e=>by have:=ht.most y (by simp) hy;rw[e]at this;exact this (qt3 hy)
   rw[decide_eq_false hne,q02 (by simp)];rfl
theorem y9l{N:Nat}{S:List Nominator}{P:Nat→Prop}(hl:S.length=N)(hN:N≤10)(hr:∀b,b<N→ReadyN (atN S b))(hin:∀k,P k→k<N)(hag:∀a v,P a→P v→∀x∈(atN S a).Candidates,x∈(atN S v).Candidates)(a10:List Int)(a12:Int)(a14:List Member){L:List Nat}(hL:L.length≤10)(hP:∀k∈L,P k):∀(suf:List Nat)(i:Nat)(f:Int),L.drop i=suf→(f=-1∨∃k:Nat,f=(k:Int)∧P k)→z1k S f (L.map Int.ofNat) (((L.map Int.ofNat).length:Nat):Int) (i:Int) a10 a12 a14=some true
 |[],i,f,h,_=>by have hi:L.length≤i:=List.drop_eq_nil_iff.1 h;apply y9n;rw[q00 (by simp;omega),cF,yaz];rfl|v::suf,i,f,h,hf=>by
  have hlt:=q0e h;have hd:(L.map Int.ofNat).drop i=(v:Int)::suf.map Int.ofNat:=by rw[←List.map_drop,h];rfl
  have pv:P v:=hP v (List.mem_of_mem_drop (i:=i) (by rw[h];simp));have hvN:=hin v pv;have getv:=qb0 (S:=S) (b:=v) (by omega);have next:∀f':Int,(f'=-1∨∃k:Nat,f'=(k:Int)∧P k)→z1k S f' (L.map Int.ofNat) (((L.map Int.ofNat).length:Nat):Int) (addI .i64 (i:Int) 1) a10 a12 a14=some true:=fun f' hf'=>by rw[q01 (by omega)];exact y9l hl hN hr hin hag a10 a12 a14 hL hP suf (i+1) f' (q03 h) hf'
  apply y9n;rw[q02 (by simp;omega),cT,q06 hd];rcases hf with rfl|⟨k,rfl,pk⟩;·obtain⟨t1,t2,t3,t4,t5,t6⟩:=y4s (hr v hvN) (hr v hvN) (hag v v pv pv) (hag v v pv pv);rw[show ltB (-1:Int) 0=true from rfl,cT,q0l (y:=atN S v) (by omega) (by rw[tN];exact getv),q0l (y:=atN S v) (by omega) (by rw[tN];exact getv),t4,bS];simp only[bS,t1,nT,cF,t6,beq_self_eq_true];rw[show eqS (compV [] (atN S v).Candidates) (compV [] (atN S v).Candidates)=true by simp[eqS],nT,cF];exact next _ (.inr ⟨v,rfl,pv⟩)
  ·have hkN:=hin k pk;have getk:=qb0 (S:=S) (b:=k) (by omega);obtain⟨t1,t2,t3,t4,t5,t6⟩:=y4s (hr k hkN) (hr v hvN) (hag k v pk pv) (hag v k pv pk);rw[q00 (by omega),cF,q0l (y:=atN S k) (by omega) (by rw[tN];exact getk),q0l (y:=atN S v) (by omega) (by rw[tN];exact getv),t4,bS,t5,bS,t1,bS,nT,cF,t2,bS,nT,cF];rw[show eqS (compV [] (atN S k).Candidates) (compV [] (atN S v).Candidates)=true by rw[t3];simp[eqS],nT,cF];dsimp only;rw[←t3,beq_self_eq_true,nT,cF,t6,beq_self_eq_true,nT,cF];exact next _ (.inr ⟨k,rfl,pk⟩)
theorem y6s(t:List Int):law22_NominationAgrees t=some true:=by
 obtain⟨l,g0,a0⟩:=ycg t;obtain⟨c,i1,g1,hc,hd,a1⟩:=yc4 (n:=5) (by omega) (by omega) a0;have hp:=hc.pos;have hle:=hc.le;obtain⟨N,hN⟩:∃N,c.Members.length=N:=⟨_,rfl⟩;have hpow:=pow10 (show N≤10 by omega);have hpow1:=Nat.two_pow_pos N;have hsh:shlI .i64 1 ((N:Nat):Int)=((2^N:Nat):Int):=by rw[shl1 (by omega) (by omega),tN]
 obtain⟨x2,i2,g2,q2,q2',a2⟩:=N_ok (n:=((2^N:Nat):Int)) (by omega) (by omega) a1;obtain⟨x3,i3,g3,q3,a3⟩:=quu (ps:=[0,1,2,x2]) (by simp) (by simp) a2;have hx3:0≤x3∧x3<1024:=by simp only[List.mem_cons,List.not_mem_nil,or_false]at q3;rcases q3 with rfl|rfl|rfl|rfl<;>omega
 obtain⟨v,rfl⟩:∃v:Nat,x3=(v:Int):=⟨x3.toNat,by omega⟩;have hmem:=q6h (n:=N) (by omega);have hand:andI .i64 (v:Int) (subI .i64 (shlI .i64 1 ((N:Nat):Int)) 1)=((v&&&(2^N-1):Nat):Int):=by rw[hmem,q3x (by omega) (by omega)]
 obtain⟨ill,hill⟩:∃ill,v&&&(2^N-1)=ill:=⟨_,rfl⟩;have hlt:ill<2^N:=by rw[←hill];have:=Nat.and_le_right (n:=v) (m:=2^N-1);omega
 obtain⟨x5,i5,g5,q5,q5',a5⟩:=N_ok (n:=100) (by omega) (by omega) a3;have hfull:full c=2^N-1:=by unfold full;rw[hN]
 have hillS:Sub ill (full c):=qfz.1 (by rw[hN];exact hlt);have hP:=PairOk.self hc;have hof:z7c c c ((ill:Nat):Int)=some (((inta c c ill:Nat):Int),0):=by rw[ydv (hc.smallC (by omega)) (hc.smallC (by omega)),y6l (ybf hP (by omega)) (by rw[hN];exact hlt)]
 have hG:∀k,(ndiff (full c) ill).testBit k=true↔k<N∧ill.testBit k=false:=fun k=>by rw[q04,qhu,hN,aT,dT',Bool.not_eq_true']
 have hto:ndiff (full c) ill<1024:=Nat.lt_of_le_of_lt (qgy fun i hi=>by rw[q04,aT]at hi;exact hi.1) (q8k (c:=c) (by omega));apply law22_NominationAgrees_le;rw[g0,bS];dsimp only;rw[show(5:Int)=((5:Nat):Int)from rfl,g1,bS];dsimp only;rw[hN,q0v (by omega),q0v (by omega),hsh,g2,bS];dsimp only;rw[g3,bS];dsimp only;rw[←hsh,hand,hill,hof,bS];dsimp only;rw[g5,bS];refine y8b (by omega) (by rw[←hN];exact⟨hc.pos,Nat.le_refl _,hc.mem⟩) hN hd (by omega) _ _ true (fun S j hS hl hj=>?_) N [] i5 (by simp) (fun b hb=>by simp at hb) a5;have hI:AgI N c (ndiff (full c) ill) S:=by
  refine⟨hS,fun b hb=>?_⟩;obtain⟨q,L⟩:=hl b hb;refine⟨L.ready,L.inv,L.node,L.tru,L.set,L.seqb,fun m hm=>?_,fun x hx=>?_⟩;·rw[L.heard]at hm;cases hm
  ·obtain⟨e1,U,u1,u2,u3,u4⟩:=L.cand x hx;exact⟨U,u1,u2,fun k hk _=>by rw[u3 k hk];exact⟨e1,u4⟩⟩
 have hin:inta c c ill<1024:=Nat.lt_of_le_of_lt (qgy (qxe c c ill)) (q8k (c:=c) (by omega));refine y7w (G:=ndiff (full c) ill) (by omega) (by omega) (by omega) hG _ _ true (fun S' j' hS' _=>?_) 10 0 S j rfl hI hj;have hCI:=ybj (N:=N) (by omega) (c:=c) hto (fun k hk=>((hG k).1 hk).1);obtain⟨E,c1,c2,c3⟩:=yat hCI hS' (by omega);have hK:=fun b hb=>y5s (fun k hk=>⟨((hG k).1 hk).1,hk⟩) c2 c3 (b:=b) hb;apply ya4;rw[q00 (by omega),cF,q0v (by omega),hmem,←hfull,qu3 (by omega) (by rw[hN];exact hlt),c1,bS,nT,cF,qnq hin,bS];refine y9l (N:=N) (P:=fun k=>(inta c c ill).testBit k=true) c2.len (by omega) (fun b hb=>(c2.all b hb).ready) (fun k hk=>?_) (fun a v pa pv=>?_) _ _ _ (q8c _) (fun k hk=>(q3u.1 hk).1) _ 0 (-1) rfl (.inl rfl);·have:=qxe c c ill k hk;rw[qhu,hN,dT']at this;exact this
 ·exact agree hc (by omega) hillS hK pa pv
end Go.Proofs.YtglokalgdbegeaaGreat
namespace Go.Proofs.YtglokalgdbegeaaGreat
open Go Go.Ab Go.ChangeShapes Go.WideShapes Go.ChangeAt Go.WideMaps Go.WideElems Go.RowKit
theorem Tryz.own:ownKnob Tryz.prog.godebug=none:=by kernel_rfl
theorem Tryz.laidOut:laidOutB Tryz.prog=true:=by kernel_rfl
theorem y1s{f:Nat}(hlaw:∀zs:List Int,(∀z∈zs,(Lit.int .i64 z).wf=true)→∃n h',call env n f [.d (ints .i64 zs)] []=some (.d (.v (.bool true)),h')){W:World}{v:Value}{zs:List Int}(hz:∀z∈zs,(Lit.int .i64 z).wf=true)(hv:Rep W qem (ints .i64 zs) v):Calls Tryz.prog f #[v] W fun e w'=>e=.returned (.bool true)∧Below W.heap.size W w':=by obtain⟨n,h',hc⟩:=hlaw zs hz;exact top (E:=env) (yfg n) (fun g cs hg=>by cases hg) (ds:=[ints .i64 zs]) hc rfl (fun i d hd=>by cases i with|zero=>simp at hd;subst hd;exact hv|succ i=>simp at hd)
end Go.Proofs.YtglokalgdbegeaaGreat
