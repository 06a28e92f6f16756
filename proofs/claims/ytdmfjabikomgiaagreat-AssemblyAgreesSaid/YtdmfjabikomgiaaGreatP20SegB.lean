/- Laws of the printed functions. -/
import Derived.Test.YtdmfjabikomgiaaGreatP20SegA
import Derived.Test.YtdmfjabikomgiaaGreatMachC
import Derived.Test.YtdmfjabikomgiaaGreatRows
import Derived.ProofKit
import Derived.LaidMore
import Derived.OpenShut
import Derived.Stop.Joined
namespace Go.Proofs.YtdmfjabikomgiaaGreat
open Go Go.Ab Go.Sort
instance:DecidableEq Claim:=fun a b=>decidable_of_iff (a.Topic=b.Topic/\a.Value=b.Value) (by cases a;cases b;simp)
def vcl(x:Claim):Bool:=decide (0<=x.Topic)&&(decide (x.Topic<8)&&(decide (0<=x.Value)&&decide (x.Value<=15)))
theorem y44{x:Claim}:vcl x=true↔0<=x.Topic/\x.Topic<8/\0<=x.Value/\x.Value<=15:=by simp[vcl]
def ltc(a b:Claim):Prop:=a.Topic<b.Topic\/a.Topic=b.Topic/\a.Value<b.Value
instance(a b:Claim):Decidable (ltc a b):=inferInstanceAs(Decidable (_\/_/\_))
theorem qfl{a b c:Claim}(h:ltc a b)(h':ltc b c):ltc a c:=by unfold ltc at*;omega
theorem q68(a:Claim):¬ltc a a:=by unfold ltc;omega
theorem y0e{a b:Claim}(h:a≠b)(h':¬ltc b a):ltc a b:=by have:¬(a.Topic=b.Topic/\a.Value=b.Value):=fun e=>h (by cases a;simp_all);unfold ltc at*;omega
def cmpc(a b:Claim):Int:=if ltc a b then-1 else if a=b then 0 else 1
theorem eqc{a b:Claim}:((eqB a.Topic b.Topic)&&((eqB a.Value b.Value)&&true))=decide (a=b):=by cases a;cases b;simp[eqB]
theorem qef(x:Claim):z68 x=some (vcl x):=by apply ygh;unfold vcl leB ltB;by_cases h1:0<=x.Topic<;>by_cases h2:x.Topic<8<;>by_cases h3:0<=x.Value<;>simp[h1,h2,h3]
theorem qjg(x y:Int):z41 x y=some (if x<y then-1 else if y<x then 1 else 0):=by
 have hn:∀z,z65 z=some false:=fun z=>yi1 _ _ (by simp[neB]);apply yei;rw[hn,hn];by_cases h:x<y;·simp[ltB,h]
 .by_cases h':y<x<;>simp[ltB,h,h']
theorem y6p(x y:Int):z7q [x,y]=some (if x≠0 then x else y):=by
 apply ydb;apply y0v;rw[q02 (by simp),q0u (y:=x) (by omega) rfl];simp only[cT];by_cases h:x=0
 .subst h;simp only[q0m,cF];rw[show addI .i64 0 1=1 from rfl];apply y0v;rw[q02 (by simp),q0u (y:=y) (by omega) rfl];simp only[cT];by_cases h':y=0;·subst h';simp only[q0m,cF];rw[show addI .i64 1 1=2 from rfl];apply y0v;rfl
  .rw[q19 h'];simp
 .rw[q19 h];grind
theorem y1v(a b:Claim):z09 a b=some (cmpc a b):=by apply yf7;rw[qjg,qjg];simp only[bS,y6p];cases a with|mk a1 a2=>cases b with|mk b1 b2=>simp only[cmpc,ltc,Claim.mk.injEq];grind
def plainC:List Claim->Bool|[]=>true|[x]=>vcl x|x::y::r=>vcl x&&(decide (ltc x y)&&plainC (y::r))
theorem qks{x y:Claim}{r:List Claim}:plainC (x::y::r)=(vcl x&&(decide (ltc x y)&&plainC (y::r))):=rfl
theorem q0x:∀{l:List Claim},plainC l=true↔(∀x∈l,vcl x=true)/\l.Pairwise ltc
 |[]=>by simp[plainC]|[x]=>by simp[plainC]|x::y::r=>by
  rw[qks,aT,aT,dT',q0x (l:=y::r),List.pairwise_cons (a:=x)];constructor
  .rintro⟨h1,h2,h3,h4⟩;refine⟨fun z hz=>by rcases List.mem_cons.1 hz with rfl|hz;exact h1;exact h3 z hz,fun z hz=>?_,h4⟩;rcases List.mem_cons.1 hz with rfl|hz;·exact h2
   .exact qfl h2 ((List.pairwise_cons.1 h4).1 z hz)
  simp_all
theorem yfc{a b:Claim}:leB 0 (cmpc a b)=!decide (ltc a b):=by unfold cmpc leB;grind
theorem y8y{a b:Claim}:ltB (cmpc a b) 0=decide (ltc a b):=by unfold cmpc ltB;grind
def plP:Option Claim->List Claim->Bool|_,[]=>true|none,y::r=>vcl y&&plP (some y) r|some z,y::r=>vcl y&&(decide (ltc z y)&&plP (some y) r)
theorem qxh:∀{z:Claim}{l:List Claim},vcl z=true->plP (some z) l=plainC (z::l)
 |z,[],h=>by simp[plP,plainC,h]|z,y::r,h=>by
  rw[qks,h,tA',plP];by_cases hy:vcl y=true;·rw[qxh hy,hy,tA']
  .have:plainC (y::r)=false:=by cases hp:plainC (y::r)with|false=>rfl|true=>exact absurd ((q0x.1 hp).1 y (by simp)) hy
   simp_all
theorem y5q(l:List Claim):plP none l=plainC l:=by cases l with|nil=>rfl|cons y r=>
  rw[plP];by_cases hy:vcl y=true;·rw[hy,tA',qxh hy]
  .have:plainC (y::r)=false:=by cases hp:plainC (y::r)with|false=>rfl|true=>exact absurd ((q0x.1 hp).1 y (by simp)) hy
   simp_all
theorem qqj(l:List Claim)(hl:l.length<1152921504606846976):∀(suf:List Claim)(i:Nat)(z:Claim),l[i]?=some z->l.drop (i+1)=suf->z2l l l ((l.length:Nat):Int) ((i+1:Nat):Int)=some (plP (some z) suf)|[],i,z,hz,h=>by apply qvd;rw[q0i h];rfl|y::suf,i,z,hz,h=>by have hlt:=q0g h;apply qvd;rw[q09 h,cT,q07 h,qef,bS,q02 (by omega),cT,q2p (by omega) (by omega),q0u (y:=z) (by omega) (by simp_all),y1v,bS,yfc,q01 (by omega),qqj l hl suf (i+1) y (by have:=congrArg (·[0]?) h;grind) (q03 h)];rw[plP];cases vcl y<;>by_cases hc:ltc z y<;>simp[hc]
theorem qa3(l:List Claim)(hl:l.length<1152921504606846976):z4h l=some (plainC l):=by apply ygx;rw[<-y5q];cases l with|nil=>apply qvd;rfl|cons y r=>apply qvd;have h:(y::r).drop 0=y::r:=rfl;have h0:ltB 0 (((y::r).length:Nat):Int)=true:=q02 (by simp);rw[h0,cT,q0u (y:=y) (by omega) rfl,qef,bS,q00 (by omega),cF,show addI .i64 0 1=((0+1:Nat):Int)from rfl,qqj (y::r) hl r 0 y rfl rfl,plP];cases vcl y<;>simp
theorem y3k(l:List Claim)(hl:l.length<1152921504606846976)(x:Claim):∀(suf:List Claim)(i:Nat),l.drop i=suf->z69 l ((l.length:Nat):Int) (i:Int) x.Topic x.Value=some (decide (x∈suf))|[],i,h=>by apply yal;rw[q0i h];simp|y::suf,i,h=>by have hlt:=q0g h;apply yal;rw[q09 h,cT,q07 h,eqc,q01 (by omega),y3k l hl x suf (i+1) (q03 h)];by_cases hx:x=y<;>simp[hx]
theorem qo9(l:List Claim)(hl:l.length<1152921504606846976)(x:Claim):z4w l x=some (decide (x∈l)):=by apply ydt;exact y3k l hl x l 0 rfl
theorem y2n(l:List Claim)(hl:l.length<1152921504606846976)(x:Claim):∀(suf:List Claim)(i:Nat),l.drop i=suf->∃r:Int,z1q l ((l.length:Nat):Int) (i:Int) x.Topic x.Value=some r/\leB 0 r=decide (x∈suf)
 |[],i,h=>by refine⟨-1,y4f _ _ _ _ _ _ ?_,by rfl⟩;rw[q0i h];simp|y::suf,i,h=>by
  have hlt:=q0g h;obtain⟨r,h1,h2⟩:=y2n l hl x suf (i+1) (q03 h);by_cases hx:x=y;·refine⟨i,y4f _ _ _ _ _ _ ?_,by simp[leB,hx]⟩;rw[q09 h,cT,q07 h,eqc];grind
  .refine⟨r,y4f _ _ _ _ _ _ ?_,by simp_all⟩;rw[q09 h,cT,q07 h,eqc,q01 (by omega),decide_eq_false hx,cF,h1]
theorem qjj(l:List Claim)(hl:l.length<1152921504606846976)(x:Claim):z5x l x=some (decide (x∈l)):=by
 obtain⟨r,h1,h2⟩:=y2n l hl x l 0 rfl;apply yhv;have h3:z3d l x=some r:=yh4 _ _ _ h1;have:z2o l x=some (decide (x∈l)):=by apply yco;rw[h3,bS,h2]
 simp_all
theorem qp4(l k:List Claim)(hl:l.length<1152921504606846976)(hk:l.length=k.length):∀(suf suk:List Claim)(i:Nat),l.drop i=suf->k.drop i=suk->z1z l k ((l.length:Nat):Int) (i:Int)=some (decide (suf=suk))
 |[],suk,i,h,h'=>by
  have:suk=[]:=by rw[<-h',List.drop_eq_nil_iff,<-hk];simp_all
  subst this;apply yak;rw[q0i h];simp|y::suf,[],i,h,h'=>by have:=q0g h;have:=List.drop_eq_nil_iff.1 h';omega|y::suf,z::suk,i,h,h'=>by have hlt:=q0g h;apply yak;rw[q09 h,cT,q07 h,q07 h',eqc,q01 (by omega),qp4 l k hl hk suf suk (i+1) (q03 h) (q03 h')];by_cases hx:y=z<;>simp[hx]
theorem qro(l k:List Claim)(hl:l.length<1152921504606846976):z2i l k=some (decide (l=k)):=by
 apply ydd;by_cases hk:l.length=k.length;·rw[hk,q0m,cF,<-hk];exact qp4 l k hl hk l k 0 rfl rfl
 .rw[q19 (by omega),cT];have:l≠k:=fun e=>hk (by rw[e]);simp_all
def allC:List Claim:=(List.range 8).flatMap fun(i:Nat)=>(List.range 16).map fun(k:Nat)=>⟨(i:Int),(k:Int)⟩
def q18(l:List Claim):List Claim:=allC.filter fun x=>decide (x∈l)
theorem y5z{x:Claim}:x∈allC↔vcl x=true:=by
 rw[y44,allC];simp only[List.mem_flatMap,List.mem_map,List.mem_range];constructor;·grind
 .rintro⟨h1,h2,h3,h4⟩;exact⟨x.Topic.toNat,by omega,x.Value.toNat,by omega,by cases x;grind⟩
theorem y5c:allC.Pairwise ltc:=by decide+kernel
theorem q1i{x:Claim}{l:List Claim}:x∈q18 l↔vcl x=true/\x∈l:=by simp[q18,y5z]
theorem qdh(l:List Claim):(q18 l).Pairwise ltc:=List.Pairwise.filter _ y5c
theorem qdd(l:List Claim):(q18 l).length<=128:=by
 have:allC.length=128:=by rfl
 rw[<-this];exact List.length_filter_le _ _
theorem q4o(l:List Claim):plainC (q18 l)=true:=q0x.2 ⟨fun _x hx=>(q1i.1 hx).1,qdh l⟩
theorem qsj:∀{l k:List Claim},l.Pairwise ltc->k.Pairwise ltc->(∀x,x∈l↔x∈k)->l=k
 |[],[],_,_,_=>rfl|[],y::k,_,_,h=>by have:=(h y).2 (by simp);grind|x::l,[],_,_,h=>by have:=(h x).1 (by simp);grind|x::l,y::k,h1,h2,h=>by
  rw[List.pairwise_cons]at h1 h2;have hxy:x=y:=by
   by_cases e:x=y;·exact e
   .have hx:x∈k:=by grind
    have hy:y∈l:=by grind
    exact absurd (qfl (h1.1 y hy) (h2.1 x hx)) (q68 x)
  subst hxy;rw[qsj h1.2 h2.2 fun z=>?_];constructor
  .intro hz;rcases List.mem_cons.1 ((h z).1 (by simp[hz]))with e|h';·subst e;exact absurd (h1.1 z hz) (q68 z)
   omega
  .intro hz;rcases List.mem_cons.1 ((h z).2 (by simp[hz]))with e|h';·subst e;exact absurd (h2.1 z hz) (q68 z)
   omega
theorem qm7{l k:List Claim}(h1:plainC l=true)(h2:plainC k=true)(h:∀x,x∈l↔x∈k):l=k:=qsj (q0x.1 h1).2 (q0x.1 h2).2 h
theorem qzb{l:List Claim}(h:plainC l=true):q18 l=l:=qm7 (q4o l) h fun x=>by rw[q1i];exact⟨fun h=>h.2,fun hx=>⟨(q0x.1 h).1 x hx,hx⟩⟩
theorem q73{x:Claim}:∀{l:List Claim},x∈q0h l↔x∈l
 |[]=>Iff.rfl|[y]=>Iff.rfl|y::z::r=>by
  rw[q1u];split;·rename_i e;subst e;rw[q73 (l:=y::r)];simp
  .simp only[List.mem_cons,q73 (l:=z::r)]
theorem qaa:∀{l:List Claim},l.Pairwise (fun x y=>¬ltc y x)->(q0h l).Pairwise ltc
 |[],_=>List.Pairwise.nil|[y],_=>by simp[q0h]|y::z::r,h=>by
  rw[List.pairwise_cons]at h;rw[q1u];split;·exact qaa h.2
  .rename_i e;refine List.pairwise_cons.2 ⟨fun u hu=>?_,qaa h.2⟩;have hyz:=y0e e (h.1 z (by simp));rcases List.mem_cons.1 (q73.1 hu)with rfl|hu;·omega
   .by_cases e2:z=u;·simp_all
    .exact qfl hyz (y0e e2 ((List.pairwise_cons.1 h.2).1 u hu))
theorem qx4(l:List Claim)(hl:l.length<1152921504606846976)(i:Nat)(hi:i<8)(Q:List Claim->Prop)(hQ:∀acc:List Claim,acc.length<=16*(i+1)->∃r,z39 l acc ((i+1:Nat):Int)=some (acc++r)/\Q r):∀(n k:Nat)(acc:List Claim),k+n=16->acc.length<=16*i+k->∃r,z2m l acc (i:Int) (k:Int)=some (acc++(((List.range' k n).map fun(k:Nat)=>(⟨(i:Int),(k:Int)⟩:Claim)).filter fun x=>decide (x∈l))++r)/\Q r
 |0,k,acc,hk,ha=>by obtain⟨r,h1,h2⟩:=hQ acc (by omega);refine⟨r,y1p _ _ _ _ _ ?_,h2⟩;rw[q0d (by omega),cF,q01 (by omega),h1];simp|n+1,k,acc,hk,ha=>by
  have step:=fun acc' h=>qx4 l hl i hi Q hQ n (k+1) acc' (by omega) h;by_cases hx:(⟨(i:Int),(k:Int)⟩:Claim)∈l;·obtain⟨r,h1,h2⟩:=step (acc++[⟨(i:Int),(k:Int)⟩]) (by grind);refine⟨r,y1p _ _ _ _ _ ?_,h2⟩;rw[q0f (by omega),cT,qo9 l hl,bS,decide_eq_true hx,cT,q05 (by simp[q04];omega),q01 (by omega),h1];simp[List.range'_succ,hx]
  .obtain⟨r,h1,h2⟩:=step acc (by omega);refine⟨r,y1p _ _ _ _ _ ?_,h2⟩;rw[q0f (by omega),cT,qo9 l hl,bS,decide_eq_false hx,cF,q01 (by omega),h1];simp[List.range'_succ,hx]
theorem qwn(l:List Claim)(hl:l.length<1152921504606846976):∀(n i:Nat)(acc:List Claim),i+n=8->acc.length<=16*i->∃r,z39 l acc (i:Int)=some (acc++r)/\r=(((List.range' i n).flatMap fun(i:Nat)=>(List.range 16).map fun(k:Nat)=>(⟨(i:Int),(k:Int)⟩:Claim)).filter fun x=>decide (x∈l))|0,i,acc,hi,ha=>by refine⟨[],y9x _ _ _ _ ?_,rfl⟩;rw[q00 (by omega)];simp|n+1,i,acc,hi,ha=>by obtain⟨r,h1,h2⟩:=qx4 l hl i (by omega) (fun r=>r=(((List.range' (i+1) n).flatMap fun(i:Nat)=>(List.range 16).map fun(k:Nat)=>(⟨(i:Int),(k:Int)⟩:Claim)).filter fun x=>decide (x∈l))) (fun acc' h=>qwn l hl n (i+1) acc' (by omega) (by omega)) 16 0 acc (by omega) (by omega);refine⟨_,y9x _ _ _ _ ?_,rfl⟩;rw[q02 (by omega),cT];have h1':z2m l acc (i:Int) 0=_:=h1;rw[h1',h2,List.append_assoc];simp only[List.range'_succ,List.flatMap_cons,List.filter_append,List.range_eq_range']
theorem qz3(l:List Claim)(hl:l.length<1152921504606846976):z7c l=some (q18 l):=by apply yf6;obtain⟨r,h1,h2⟩:=qwn l hl 8 0 [] rfl (by simp);have h1':z39 l [] 0=_:=h1;rw[h1',h2,List.nil_append,q18,allC,List.range_eq_range' (n:=8)]
theorem y3a(l:List Claim)(hl:l.length<1152921504606846976)(hv:∀x∈l,vcl x=true):∀(suf:List Claim)(i:Nat),l.drop i=suf->z10 ((l.length:Nat):Int) (i:Int) l=some (-1,l)
 |[],i,h=>by apply y85;rw[q0i h];simp|y::suf,i,h=>by
  have hlt:=q0g h;apply y85;have hy:vcl y=true:=hv y (List.mem_of_mem_drop (i:=i) (by simp_all));have h1:z6i y=some false:=yhc _ _ (by rw[qef,hy];rfl);have hg:l[i]?=some y:=by have:=congrArg (·[0]?) h;grind
  rw[q09 h,cT,q07 h,tN,q5d hg,h1,bS,cF,q01 (by omega),y3a l hl hv suf (i+1) (q03 h)]
theorem qpi(l:List Claim):(l.map q0p).all flatD=true:=by rw[List.all_eq_true];intro x hx;obtain⟨y,_,rfl⟩:=List.mem_map.1 hx;rfl
theorem qh6(l:List Claim):(l.map q0p).all (q5c 2)=true:=by rw[List.all_eq_true];intro x hx;obtain⟨y,_,rfl⟩:=List.mem_map.1 hx;rfl
theorem quf(l:List Claim)(hl:l.length<1000000):z73 l=some (q0h l,()):=by
 refine qf0 (T:=tn) (m:=q6b 2) sigOk (by rfl) rfl ?_;show libA (q6b 2) [.ref 0] [[.own (l.map q0p) false]]=some (.d (.list ((q0h l).map q0p)),[[.undef]]);unfold libA q6b;have h1:(l.map q0p).length<=q04:=by simp[q04];omega
 simp only[qpi,qh6,h1,and_self,if_true];rw[qat (fun a b h=>q43 a b h) l];rfl
theorem qms(l:List Claim)(hl:l.length<65536)(hv:∀x∈l,vcl x=true):z6d l=some (q18 l):=by
 apply ye6;have h1:z0k l=some ((),l):=y8i _ _ (by rw[q05 (by simp[q04];omega)];rfl);have h2:z1k l=some ((),l):=by apply yht;rw[yez _ _ (y3a l (by omega) hv l 0 rfl)];rfl
 have hS:SWO (fun x y=>ltB (cmpc x y) 0):=by
  refine⟨fun x=>?_,fun x y z h h'=>?_,fun x y z h h'=>?_⟩<;>simp only[y8y,dT',decide_eq_false_iff_not]at*;·exact q68 x
  .exact qfl h h'
  .unfold ltc at*;omega
 obtain⟨ys,h3,h4,h5⟩:=ybg y1v hS l hl;have h6:z1g l=some ys:=h3;rw[h1,bS,h2,bS,h6,bS,quf ys (by rw[h4.length_eq];omega)];show some (q0h ys)=_;congr 1;refine qsj (qaa (h5.imp fun h=>by simpa[y8y]using h)) (qdh l) fun x=>?_;rw[q73,q1i,h4.mem_iff];simp_all
theorem qyc(a b:List Claim)(ha:a.length<1000000)(hb:b.length<1000000):z79 [a,b]=some ((),a++b):=by
 refine qf0 (T:=tn) (m:=q88 2) sigOk (by rfl) rfl ?_;show libA (q88 2) [.d (.list [.list (a.map q0p),.list (b.map q0p)])] []=some (.ref 0,[[.own ((a++b).map q0p) false]]);unfold libA q88;have h0:qg8 [.list (a.map q0p),.list (b.map q0p)]=some [a.map q0p,b.map q0p]:=rfl;have h1:([a.map q0p,b.map q0p]:List (List D)).flatten.length<=q04:=by simp[q04];omega
 have h2:([.list (a.map q0p),.list (b.map q0p)]:List D).length<=q04:=by simp[q04]
 have h3:([a.map q0p,b.map q0p]:List (List D)).flatten=(a++b).map q0p:=by simp
 simp only[h0,h2,h3,qh6,and_self];rw[h3]at h1;rw[if_pos ⟨h1,trivial⟩];rfl
theorem qzk(a b:List Claim)(ha:a.length<30000)(hb:b.length<30000)(hva:∀x∈a,vcl x=true)(hvb:∀x∈b,vcl x=true):z7d a b=some (q18 (a++b)):=by apply yhf;rw[qyc a b (by omega) (by omega),bS,qms (a++b) (by grind) (fun x hx=>(List.mem_append.1 hx).elim (hva x) (hvb x))];rfl
theorem qt9(a:List Claim)(x:Claim)(ha:a.length<30000)(hva:∀x∈a,vcl x=true)(hx:vcl x=true):z6y a x=some (q18 (a++[x])):=by apply yf2;rw[qzk a [x] ha (by simp) hva (fun y hy=>by simp_all)];rfl
def Contra(a b:Claim):Prop:=a.Topic=b.Topic/\a.Value≠b.Value
instance(a b:Claim):Decidable (Contra a b):=inferInstanceAs(Decidable (_/\_))
theorem Contra.symm{a b:Claim}(h:Contra a b):Contra b a:=⟨h.1.symm,fun e=>h.2 e.symm⟩
def consC(l:List Claim):Bool:=decide (∀x∈l,∀y∈l,¬Contra x y)
theorem q8c{l:List Claim}:consC l=true↔∀x∈l,∀y∈l,¬Contra x y:=by simp[consC]
theorem qxy(a b:Claim):z5r a b=some (decide (Contra a b)):=by apply yhp;by_cases h:a.Topic=b.Topic<;>by_cases h':a.Value=b.Value<;>simp[eqB,neB,Contra,h,h']
theorem qh1:∀(l:List Claim),(∀x∈l,vcl x=true)->q7k (l.map q0p)=some (l.map fun x=>(x.Topic,x.Value))|[],_=>rfl|x::r,h=>by have hx:=y44.1 (h x (by simp));show(if _ then _ else _)=_;rw[if_pos (by omega)];rw[qh1 r fun y hy=>h y (by grind)];rfl
theorem qho:∀(l:List Claim),q3d (l.map fun x=>(x.Topic,x.Value))=consC l
 |[]=>rfl|x::r=>by
  rw[List.map_cons,q3d,qho r,Bool.eq_iff_iff,aT,q8c,q8c,List.all_eq_true];simp only[List.mem_map,forall_exists_index,and_imp,forall_apply_eq_imp_iff₂];constructor
  .rintro⟨h1,h2⟩u hu z hz;have h1':∀a∈r,¬Contra x a:=fun a ha hc=>by have:=h1 a ha;simp[hc.1,hc.2]at this
   rcases List.mem_cons.1 hu with e|hu'<;>rcases List.mem_cons.1 hz with e'|hz';·subst e;subst e';intro h;exact h.2 rfl
   .subst e;exact h1' z hz'
   .subst e';intro h;exact h1' u hu' h.symm
   simp_all
  .intro h;refine⟨fun a ha=>?_,fun u hu z hz=>h u (by simp[hu]) z (by simp[hz])⟩;have:=h x (by simp) a (by simp[ha]);simp only[Contra,not_and,ne_eq,Classical.not_not]at this;grind
theorem qnk(l:List Claim)(hl:l.length<1000000)(hv:∀x∈l,vcl x=true):z6n l=some (consC l):=by refine qf0 (T:=tn) (m:=q3z) sigOk (by rfl) rfl ?_;show libA q3z [.d (.list (l.map q0p))] []=some (.d (.v (.bool (consC l))),[]);unfold libA q3z;simp only[qh1 l hv,qho];rw[if_pos (by simp[q04];omega)];rfl
def q89(c:Config)(s:Nat):Bool:=twoB (delC s c)
theorem ValidC.cerr{c:Config}(h:ValidC c):cerr c=0:=q3a.2 h
theorem qey{n s:Nat}(hn:n<=10)(hs:s<2^n):s<1024:=by have:=pow10 hn;omega
def askE(c:Config)(z:Int):Int:=if cerr c≠0 then cerr c else if z<0 then 1 else if((2^c.Members.length-1:Nat):Int)<z then 1 else 0
theorem qkl{c:Config}{z:Int}(h:askE c z=0):ValidC c/\∃s:Nat,z=(s:Int)/\s<2^c.Members.length:=by
 unfold askE at h;have hp1:=Nat.two_pow_pos c.Members.length;split at h;·omega
 .rename_i h1;refine⟨q3a.1 (Classical.not_not.1 h1),z.toNat,?_,?_⟩
  .split at h;·omega
   .omega
  omega
theorem qn8{c:Config}(hv:ValidC c){s:Nat}(hs:s<2^c.Members.length):askE c (s:Int)=0:=by unfold askE;rw[hv.cerr,if_neg (by simp),if_neg (by omega),if_neg (by omega)]
end Go.Proofs.YtdmfjabikomgiaaGreat
namespace Go.Proofs.YtdmfjabikomgiaaGreat
open Go Go.Ab Go.Sort
end Go.Proofs.YtdmfjabikomgiaaGreat
namespace Go.Proofs.YtdmfjabikomgiaaGreat
open Go Go.Ab Go.Sort
theorem nz{a:Nat}:a≠0↔∃i,a.testBit i=true:=⟨y5x,fun⟨i,hi⟩e=>by simp_all⟩
theorem qvt{a b:Nat}:a&&&b≠0↔∃i,a.testBit i=true/\b.testBit i=true:=by rw[nz];simp
theorem qoq{a b:Nat}:ndiff a b≠0↔∃i,a.testBit i=true/\b.testBit i=false:=by rw[nz];simp only[q0a,aT,Bool.not_eq_true']
def full(c:Config):Nat:=2^c.Members.length-1
theorem qv7{c:Config}{i:Nat}:(full c).testBit i=decide (i<c.Members.length):=by rw[full,Nat.testBit_two_pow_sub_one]
theorem qgi{c:Config}(hn:c.Members.length<=10):full c<1024:=by have:=pow10 hn;unfold full;omega
theorem qcu{c:Config}{s:Nat}:s<2^c.Members.length↔Sub s (full c):=q6w
theorem y3s{c:Config}(hn:c.Members.length<=10):Sub (decl c) (full c):=qcu.1 (qb4 hn)
structure PairOk(n:Nat)(lo hi:Config):Prop where
 lok:ConfOk n lo
 hik:ConfOk n hi
 len:lo.Members.length=hi.Members.length
 dec:decl lo=decl hi
 imp:∀k s,(decl lo).testBit k=true->s<1024->sat s (tr hi k)=true->sat s (tr lo k)=true
variable {n : Nat} {lo hi : Config}
theorem PairOk.self{c:Config}(h:ConfOk n c):PairOk n c c:=⟨h,h,rfl,rfl,fun _ _ _ _ h=>h⟩
theorem PairOk.fullEq(h:PairOk n lo hi):full lo=full hi:=by unfold full;rw[h.len]
theorem qom(h:PairOk n lo hi){q:Nat}(hq:q2g hi q):q2g lo q:=⟨hq.1,by rw[h.dec];exact hq.2.1,fun k hk=>h.imp k q (by rw[h.dec];exact hq.2.1 k hk) (y7z hq) (hq.2.2 k hk)⟩
theorem qk4{s z:Nat}(h:Sub s z){t:Trust}(hs:sat s t=true):sat z t=true:=qva (qsb h) t hs
theorem yhj{c:Config}{a b:Nat}(ha:q2g c a)(hb:q2g c b):q2g c (a|||b):=by
 refine⟨fun e=>ha.1 (Nat.le_zero.1 (e▸(Nat.left_le_or:a<=a|||b))),ha.2.1.or hb.2.1,fun k hk=>?_⟩;rw[Nat.testBit_or,Bool.or_eq_true]at hk;rcases hk with hk|hk;·exact qk4 Sub.left (ha.2.2 k hk)
 .exact qk4 Sub.right (hb.2.2 k hk)
def QL(c:Config)(b y:Nat):Prop:=y≠0/\Sub y (decl c)/\(∀i,y.testBit i=true->b.testBit i=false)/\∀k,y.testBit k=true->sat (y|||b) (tr c k)=true
theorem yi9{c:Config}{b y:Nat}:q2g (delC b c) y↔QL c b y:=by
 constructor;·intro h;have hd:∀i,y.testBit i=true->b.testBit i=false:=fun i hi=>(q48.1 (h.2.1 i hi)).2;have h':=(qmq (y7z h) hd).1 h;exact⟨h'.1,h'.2.1,hd,h'.2.2⟩
 .rintro⟨h1,h2,h3,h4⟩;exact(qmq (h2.lt (q7o c)) h3).2 ⟨h1,h2,h4⟩
theorem qbe{c:Config}{b d y:Nat}(hbd:Sub b d)(h:QL c b y)(h0:ndiff y d≠0):QL c d (ndiff y d):=by
 refine⟨h0,fun i hi=>h.2.1 i ?_,fun i hi=>?_,fun k hk=>?_⟩;·rw[q0a,aT]at hi;grind
 .rw[q0a,aT,Bool.not_eq_true']at hi;grind
 .rw[q0a,aT]at hk;rw[qty];refine qk4 (fun i hi=>?_) (h.2.2.2 k hk.1);rw[Nat.testBit_or,Bool.or_eq_true]at hi⊢;exact hi.imp id (hbd i)
theorem y7q{c:Config}{q:Nat}(h:q2g c q):QL c 0 q:=⟨h.1,h.2.1,fun i _=>Nat.zero_testBit i,fun k hk=>by rw[Nat.or_zero];exact h.2.2 k hk⟩
theorem qvo(b:Nat):Sub 0 b:=fun i hi=>by simp_all
theorem qqt{c:Config}{b q:Nat}(h:q2g c q)(hd:∀i,q.testBit i=true->b.testBit i=false):QL c b q:=⟨h.1,h.2.1,hd,fun k hk=>qk4 Sub.left (h.2.2 k hk)⟩
theorem qjv{c:Config}(hn:c.Members.length<=10){b:Nat}:q89 c b=true↔∃x y,QL c b x/\QL c b y/\x&&&y=0:=by unfold q89;rw[y6y (by rw[qur];omega)];simp only[yi9]
theorem qnh{c:Config}(hn:c.Members.length<=10){b x y:Nat}(h:q89 c b=false)(hx:QL c b x)(hy:QL c b y):∃i,x.testBit i=true/\y.testBit i=true:=by apply qvt.1;intro e;rw[(qjv hn).2 ⟨x,y,hx,hy,e⟩]at h;cases h
def qj9(c:Config)(b:Nat):Bool:=ndiff (full c) b==0||quoB c (ndiff (full c) b)
def isB(lo hi:Config)(b:Nat):Bool:=qj9 hi b&&!q89 lo b
theorem y4j{c:Config}(hn:c.Members.length<=10)(b:Nat):ndiff (full c) b<1024:=q83 (qgi hn)
theorem y0u{c:Config}(hn:c.Members.length<=10){b:Nat}:qj9 c b=true↔ndiff (full c) b=0\/q2g c (ndiff (full c) b):=by unfold qj9;rw[Bool.or_eq_true,beq_iff_eq,qim (y4j hn b)]
theorem ConfOk.le10{c:Config}(h:ConfOk n c)(hn:n<=10):c.Members.length<=10:=Nat.le_trans h.le hn
theorem qgj(h:PairOk n lo hi)(hn:n<=10){b:Nat}:isB lo hi b=true↔(ndiff (full lo) b=0\/q2g hi (ndiff (full lo) b))/\q89 lo b=false:=by unfold isB;rw[aT,y0u (h.hik.le10 hn),<-h.fullEq,Bool.not_eq_true']
theorem q4d{a b:Nat}:ndiff a b=0↔Sub a b:=by rw[<-qew,subB,beq_iff_eq]
theorem y7g(h:PairOk n lo hi)(hn:n<=10):isB lo hi (full lo)=true:=by rw[qgj h hn];refine⟨.inl (q4d.2 (Sub.refl _)),?_⟩;rw[<-Bool.not_eq_true,qjv (h.lok.le10 hn)];rintro⟨x,_,⟨h1,h2,h3,_⟩,_⟩;obtain⟨i,hi⟩:=nz.1 h1;have:=y3s (h.lok.le10 hn) i (h2 i hi);simp_all
theorem meets(h:PairOk n lo hi)(hn:n<=10){ill x y:Nat}(hx:isB lo hi x=true)(hy:isB lo hi y=true)(hill:q89 lo ill=false)(ix:Sub ill x)(iy:Sub ill y)(lx:Sub x (full lo))(ly:Sub y (full lo)):isB lo hi (x&&&y)=true:=by
 have hle:=h.lok.le10 hn;obtain⟨ax,sx⟩:=(qgj h hn).1 hx;obtain⟨ay,sy⟩:=(qgj h hn).1 hy;rcases ax with ax|ax;·rw[show x&&&y=y from(Sub.and_right x y).antisymm (fun i hi=>by rw[Nat.testBit_and,q4d.1 ax i (ly i hi),hi];rfl)];omega
 rcases ay with ay|ay;·rw[show x&&&y=x from(Sub.and_left x y).antisymm (fun i hi=>by rw[Nat.testBit_and,q4d.1 ay i (lx i hi),hi];rfl)];omega
 have hU:ndiff (full lo) (x&&&y)=ndiff (full lo) x|||ndiff (full lo) y:=by apply Nat.eq_of_testBit_eq;intro i;simp only[Nat.testBit_or,q0a,Nat.testBit_and];cases(full lo).testBit i<;>cases x.testBit i<;>cases y.testBit i<;>rfl
 rw[qgj h hn,hU];refine⟨.inr (yhj ax ay),?_⟩;have bx:∀i,(ndiff (full lo) x).testBit i=true->x.testBit i=false:=fun i hi=>by rw[q0a,aT,Bool.not_eq_true']at hi;grind
 have by':∀i,(ndiff (full lo) y).testBit i=true->y.testBit i=false:=fun i hi=>by rw[q0a,aT,Bool.not_eq_true']at hi;grind
 have off:∀{a b:Nat},Sub a b->∀i,b.testBit i=false->a.testBit i=false:=fun{a b}hs i hi=>by cases ha:a.testBit i with|false=>rfl|true=>rw[hs i ha]at hi;omega
 obtain⟨m,m1,m2⟩:=qnh hle hill (qqt (qom h ax) fun i hi=>off ix i (bx i hi)) (qqt (qom h ay) fun i hi=>off iy i (by' i hi));have claim:∀A,QL lo (x&&&y) A->ndiff A x≠0:=by intro A hA h0;have hsub:=q4d.1 h0;obtain⟨i,hi⟩:=nz.1 hA.1;have hxy:=hA.2.2.1 i hi;rw[Nat.testBit_and,hsub i hi,tA']at hxy;have hAy:=qbe (Sub.and_right x y) hA (qoq.2 ⟨i,hi,hxy⟩);have hUy:=qbe (qvo y) (y7q (qom h ax)) (qoq.2 ⟨m,m1,by' m m2⟩);obtain⟨j,j1,j2⟩:=qnh hle sy hAy hUy;rw[q0a,aT]at j1 j2;grind
 rw[<-Bool.not_eq_true,qjv hle];rintro⟨A,B,hA,hB,hAB⟩;obtain⟨j,j1,j2⟩:=qnh hle sx (qbe (Sub.and_left x y) hA (claim A hA)) (qbe (Sub.and_left x y) hB (claim B hB));rw[q0a,aT]at j1 j2;exact qvt.2 ⟨j,j1.1,j2.1⟩ hAB
def alls(lo hi:Config)(ill:Nat):List Nat:=(q9w (full lo)).filter fun b=>ndiff ill b==0&&isB lo hi b
theorem q7c{ill b:Nat}:b∈alls lo hi ill↔Sub b (full lo)/\Sub ill b/\isB lo hi b=true:=by unfold alls;rw[List.mem_filter,q4f,aT,beq_iff_eq,q4d]
theorem y35(h:PairOk n lo hi)(hn:n<=10){ill:Nat}(hill:Sub ill (full lo)):full lo∈alls lo hi ill:=q7c.2 ⟨Sub.refl _,hill,y7g h hn⟩
def ands:List Nat->Nat->Nat:=fun l a=>l.foldl (fun a b=>a&&&b) a
theorem qvp:∀(l:List Nat)(a:Nat),Sub (ands l a) a/\∀b∈l,Sub (ands l a) b
 |[],a=>⟨Sub.refl _,fun b hb=>by grind⟩|x::l,a=>by
  obtain⟨h1,h2⟩:=qvp l (a&&&x);refine⟨h1.trans (Sub.and_left _ _),fun b hb=>?_⟩;rcases List.mem_cons.1 hb with rfl|hb;·exact h1.trans (Sub.and_right _ _)
  .exact h2 b hb
theorem qjd{p:Nat->Prop}(hp:∀a b,p a->p b->p (a&&&b)):∀(l:List Nat)(a:Nat),p a->(∀b∈l,p b)->p (ands l a)|[],_,ha,_=>ha|x::l,a,ha,h=>qjd hp l (a&&&x) (hp a x ha (h x (by simp))) (fun b hb=>h b (by grind))
theorem ybs{z:Nat}:∀(l:List Nat)(a:Nat),Sub z a->(∀b∈l,Sub z b)->Sub z (ands l a):=fun l a ha h=>qjd (p:=fun b=>Sub z b) (fun a b ha hb i hi=>by rw[Nat.testBit_and,ha i hi,hb i hi];rfl) l a ha h
def bef(lo hi:Config)(ill:Nat):Nat:=if q89 lo ill then full lo else ands (alls lo hi ill) (full lo)
theorem yca{ill:Nat}(hill:Sub ill (full lo)):Sub ill (bef lo hi ill):=by
 unfold bef;split;·omega
 .exact ybs _ _ hill fun b hb=>(q7c.1 hb).2.1
theorem y8j(h:PairOk n lo hi)(hn:n<=10){ill:Nat}(hill:Sub ill (full lo))(hs:q89 lo ill=false):bef lo hi ill∈alls lo hi ill:=by unfold bef;rw[hs];exact qjd (p:=fun b=>b∈alls lo hi ill) (fun a b ha hb=>by obtain⟨a1,a2,a3⟩:=q7c.1 ha;obtain⟨b1,b2,b3⟩:=q7c.1 hb;exact q7c.2 ⟨(Sub.and_left _ _).trans a1,fun i hi=>by rw[Nat.testBit_and,a2 i hi,b2 i hi];rfl,meets h hn a3 b3 hs a2 b2 a1 b1⟩) _ _ (y35 h hn hill) fun b hb=>hb
theorem qly(h:PairOk n lo hi)(hn:n<=10){ill:Nat}(hill:Sub ill (full lo))(h0:ndiff (full lo) (bef lo hi ill)≠0):q89 lo ill=false/\q2g hi (ndiff (full lo) (bef lo hi ill)):=by cases hs:q89 lo ill with|true=>exfalso;apply h0;rw[q4d];unfold bef;rw[hs];exact Sub.refl _|false=>obtain⟨_,_,hb⟩:=q7c.1 (y8j h hn hill hs);exact⟨rfl,((qgj h hn).1 hb).1.resolve_left h0⟩
theorem yav{c:Config}(h:ConfOk n c)(_hn:n<=10){k:Nat}(hk:(decl c).testBit k=true):Sub (uses (tr c k)) (full c):=by obtain⟨m,m1,m2,m3⟩:=q86 hk;have:=(h.good m (List.mem_of_getElem? m1) m3).2;rw[m2];exact qcu.1 (qg9 _ this)
theorem y5f{c:Config}(h:ConfOk n c)(hn:n<=10){k s z:Nat}(hk:(decl c).testBit k=true)(hs:∀i,(full c).testBit i=true->s.testBit i=z.testBit i):sat s (tr c k)=sat z (tr c k):=by apply qwl;intro j hj;obtain⟨i,rfl,hi,hb⟩:=qxk hj;rw[q34 hi,q34 hi];exact hs i (yav h hn hk i hb)
theorem follows(h:PairOk n lo hi)(hn:n<=10){ill x g:Nat}(hill:Sub ill (full lo))(hg:q2g lo g)(h0:g&&&ndiff (full lo) (bef lo hi ill)≠0)(hx:Sub (g&&&ndiff (full lo) (bef lo hi ill)) x)(hne:¬Sub (ndiff (full lo) (bef lo hi ill)) x):∃v,(ndiff (full lo) (bef lo hi ill)).testBit v=true/\x.testBit v=false/\blk lo v (ndiff (full lo) (bef lo hi ill)&&&x)=true:=by
 have hle:=h.lok.le10 hn;have ha0:ndiff (full lo) (bef lo hi ill)≠0:=by obtain⟨i,_,h2⟩:=qvt.1 h0;exact nz.2 ⟨i,h2⟩
 obtain⟨hs,hq⟩:=qly h hn hill ha0;have hb:=y8j h hn hill hs;obtain⟨_,_,hbi⟩:=q7c.1 hb;have hsb:=((qgj h hn).1 hbi).2;generalize hB:bef lo hi ill=b at*;apply Classical.byContradiction;intro hno;have hno':∀v,(ndiff (full lo) b).testBit v=true->x.testBit v=false->blk lo v (ndiff (full lo) b&&&x)=false:=fun v h1 h2=>by cases hk:blk lo v (ndiff (full lo) b&&&x)with|false=>rfl|true=>exact absurd ⟨v,h1,h2,hk⟩ hno
 have hdec:Sub (ndiff (full lo) b) (decl lo):=by rw[h.dec];exact hq.2.1
 have hW0:ndiff (ndiff (full lo) b) x≠0:=fun e=>hne (q4d.1 e);have hW:QL lo b (ndiff (ndiff (full lo) b) x):=by
  refine⟨hW0,fun i hi=>hdec i ?_,fun i hi=>?_,fun k hk=>?_⟩;·rw[q0a,aT]at hi;exact hi.1
  .rw[q0a,q0a]at hi;simp only[aT,Bool.not_eq_true']at hi;exact hi.1.2
  .rw[q0a (ndiff (full lo) b) x,aT,Bool.not_eq_true']at hk;have hkd:=hdec k hk.1;have:=hno' k hk.1 hk.2;unfold blk at this;rw[hkd,tA',Bool.not_eq_false']at this;rw[<-this];apply y5f h.lok hn hkd;intro i hi;have h10:(1023:Nat).testBit i=true:=by rw[qv7,dT']at hi;rw[qt7,dT'];omega
   rw[Nat.testBit_or,Nat.testBit_or,q0a,q0a,q0a,Nat.testBit_and,q0a,qd4,hi,h10];by_cases hki:k=i;·subst hki;rw[hk.2];have:=hk.1;rw[q0a,hi,tA']at this;simp[this]
   .rw[decide_eq_false hki];cases b.testBit i<;>cases x.testBit i<;>rfl
 have hgl:=qbe (qvo b) (y7q hg) (by obtain⟨i,h1,h2⟩:=qvt.1 h0;rw[q0a,aT,Bool.not_eq_true']at h2;exact qoq.2 ⟨i,h1,h2.2⟩);obtain⟨i,i1,i2⟩:=qnh hle hsb hW hgl;rw[q0a,aT,Bool.not_eq_true']at i1;rw[q0a,aT]at i2;have:=hx i (by rw[Nat.testBit_and,i2.1,i1.1];rfl);simp_all
theorem y77{m:Nat}:∀t:Trust,good t=true->uses t<2^m->below (m:Int) t=true:=by
 apply Trust.ind;intro t ih hg hu;rw[qa4]at hg;simp only[aT,dT']at hg;obtain⟨_,_,hN,_,hI⟩:=hg;rw[q7r]at hu;have hu':=q6w.1 hu;rw[qx0,aT];refine⟨?_,?_⟩;·rw[List.all_eq_true];intro k hk;have hkr:=List.all_eq_true.1 hN k hk;have h1:=qje hk hkr;obtain⟨j,rfl,hj,hb⟩:=qxk h1;have h2:=hu' j (by rw[Nat.testBit_or,hb];rfl);simp_all
 .have hgs:∀l:List Trust,goods l=true->∀x∈l,good x=true:=by intro l;induction l with|nil=>simp|cons y r ihr=>intro h x hx;simp only[goods,aT]at h;grind
  have key:∀l:List Trust,(∀x∈l,below (m:Int) x=true)->q5m (m:Int) l=true:=by intro l;induction l with|nil=>intro _;rfl|cons y r ihr=>intro h;simp only[q5m,h y (by simp),ihr (fun x hx=>h x (by grind)),Bool.and_self]
  refine key _ fun x hx=>ih x hx (hgs _ hI x hx) ?_;exact q6w.2 fun i hi=>hu' i (by rw[Nat.testBit_or,qjh hx i hi,Bool.or_true])
theorem ValidC.conf{c:Config}{n:Nat}(h:ValidC c)(h1:1<=c.Members.length)(h2:c.Members.length<=n):ConfOk n c:=⟨h1,h2,fun m hm=>by
  have:=h.2 m hm;unfold MemV at this;unfold MemOk;split;·rename_i hd;rw[if_pos hd]at this;exact⟨this.1,y77 _ (qzf this.1) this.2⟩
  simp_all⟩
theorem y9t{a b:Int}(h:a=b):neB a b=false:=by rw[h,q0m]
theorem q5h{c:Config}(hn:c.Members.length<=10):z4u c=some ((full c:Nat):Int):=by apply ygu;rw[q0j (by omega),q70 hn];rfl
theorem qwf{c:Config}{i:Nat}{m:Member}(h:c.Members[i]?=some m)(hi:i<10):(decl c).testBit i=m.Declared:=by rw[Bool.eq_iff_iff,q3n];simp_all
theorem y87{c:Config}{i:Nat}{m:Member}(h:c.Members[i]?=some m):tr c i=m.Trust:=by unfold tr;simp_all
theorem ValidC.mem{c:Config}(h:ValidC c){i:Nat}{m:Member}(hm:c.Members[i]?=some m)(hd:m.Declared=true):valid m.Trust=true/\uses m.Trust<2^c.Members.length:=by have:=h.2 m (List.mem_of_getElem? hm);unfold MemV at this;simp_all
def impK(lo hi:Config)(k:Nat):Bool:=!(decl lo).testBit k||impB (tr hi k) (tr lo k)
def impsB(lo hi:Config):Bool:=(List.range' 0 lo.Members.length).all (impK lo hi)
def pairE(lo hi:Config):Int:=if cerr lo≠0 then cerr lo else if cerr hi≠0 then cerr hi else if lo.Members.length≠hi.Members.length then 1 else if decl lo≠decl hi then 1 else if 7<lo.Members.length then 3 else if impsB lo hi=true then 0 else 14
theorem q5i{lo hi:Config}(h:pairE lo hi=0):ValidC lo/\ValidC hi/\lo.Members.length=hi.Members.length/\decl lo=decl hi/\lo.Members.length<=7:=by
 unfold pairE at h;split at h;·omega
 .rename_i h1;split at h;·omega
  .rename_i h2;split at h;·cases h
   .rename_i h3;split at h;·cases h
    .rename_i h4;split at h;·cases h
     .rename_i h5;exact⟨q3a.1 (Classical.not_not.1 h1),q3a.1 (Classical.not_not.1 h2),Classical.not_not.1 h3,Classical.not_not.1 h4,by omega⟩
theorem ybu{n:Nat}{lo hi:Config}(h:PairOk n lo hi)(hn:n<=7):pairE lo hi=0:=by have h1:=(h.lok.valid (by omega)).cerr;have h2:=(h.hik.valid (by omega)).cerr;have hle:=h.lok.le;unfold pairE;rw[h1,h2,if_neg (by simp),if_neg (by simp),if_neg (by rw[h.len];simp),if_neg (by rw[h.dec];simp),if_neg (by omega),if_pos];unfold impsB;rw[List.all_eq_true];intro k _;unfold impK;cases hd:(decl lo).testBit k with|false=>rfl|true=>simp only[nT,Bool.false_or];exact qx1.2 fun s hs=>h.imp k s hd hs
def impN(n:Nat)(a b:Trust):Bool:=(List.range' 0 (2^n)).all fun s=>!sat s a||sat s b
theorem yb1{n:Nat}(hn:n<=10){a b:Trust}(ha:uses a<2^n)(hb:uses b<2^n):impN n a b=impB a b:=by
 rw[Bool.eq_iff_iff,qx1];unfold impN;rw[List.all_eq_true];have cut:∀(t:Trust)(s:Nat),uses t<2^n->sat (s&&&(2^n-1)) t=sat s t:=fun t s ht=>qwl t fun k hk=>by obtain⟨i,rfl,hi,hb⟩:=qxk hk;have:=q6w.1 ht i hb;rw[q34 hi,q34 hi,Nat.testBit_and,this,Bool.and_true]
 constructor
 .intro h s _ hsa;have hlt:s&&&(2^n-1)<2^n:=by have:=Nat.two_pow_pos n;have:=Nat.and_le_right (n:=s) (m:=2^n-1);omega
  grind
 .intro h s hs;rw[List.mem_range'_1]at hs;have hp:=pow10 hn;grind
theorem qrs{lo hi:Config}(hv:ValidC lo){k:Nat}{m m':Member}(g1:lo.Members[k]?=some m)(g2:hi.Members[k]?=some m')(s1:Small m.Trust)(s2:Small m'.Trust){len r:Int}(K:z3o len ((k+1:Nat):Int) lo.Members hi.Members=some r)(hk:k<100):∀(j s:Nat),s+j=2^lo.Members.length->z4b (k:Int) (s:Int) len (k:Int) lo.Members hi.Members=some (if((List.range' s j).all fun s=>!sat s m'.Trust||sat s m.Trust)=true then r else 14)
 |0,s,h=>by
  apply yaf;rw[show Config.mk lo.Members=lo from rfl,q5h hv.1];simp only[bS];have:full lo<s:=by have:=Nat.two_pow_pos lo.Members.length;unfold full;omega
  rw[q0d (by omega)];simp only[cF];rw[q01 (by omega)];exact K|j+1,s,h=>by
  have hp:=pow10 hv.1;have ih:=qrs hv g1 g2 s1 s2 K hk j (s+1) (by omega);apply yaf;rw[show Config.mk lo.Members=lo from rfl,q5h hv.1];simp only[bS];have:s<=full lo:=by unfold full;omega
  rw[q0f (by omega)];simp only[cT];rw[q0u (by omega) (by rw[tN];omega),q79 (by omega) m'.Trust s2];simp only[bS];rw[q01 (by omega),ih,List.range'_succ,List.all_cons];cases hb:sat s m'.Trust with|false=>rfl|true=>simp only[cT];rw[q0u (by omega) (by rw[tN];exact g1),q79 (by omega) m.Trust s1];grind
theorem qpa{lo hi:Config}(hv:ValidC lo)(hw:ValidC hi)(hl:lo.Members.length=hi.Members.length)(hd:decl lo=decl hi):∀(n i:Nat),i+n=lo.Members.length->z3o ((lo.Members.length:Nat):Int) (i:Int) lo.Members hi.Members=some (if(List.range' i n).all (impK lo hi)=true then 0 else 14)|0,i,h=>by apply y93;rw[q00 (by omega)];rfl|n+1,i,h=>by have hle:=hv.1;have ih:=qpa hv hw hl hd n (i+1) (by omega);have g1:lo.Members[i]?=some lo.Members[i]:=List.getElem?_eq_getElem (by omega);have g2:hi.Members[i]?=some (hi.Members[i]'(by omega)):=List.getElem?_eq_getElem (by omega);apply y93;rw[q02 (by omega)];simp only[cT];rw[q0u (by omega) (by rw[tN];omega)];have e1:=qwf g1 (by omega);have e2:=qwf g2 (by omega);have e3:=e1;rw[hd,e2]at e1;rw[List.range'_succ,List.all_cons,q01 (by omega)];cases hdec:lo.Members[i].Declared with
  |false=>
   have:impK lo hi i=true:=by unfold impK;rw[e3,hdec];rfl
   grind|true=>
   rw[hdec]at e1;have m1:=hv.mem g1 hdec;have m2:=hw.mem g2 e1;have:impK lo hi i=impN lo.Members.length (hi.Members[i]'(by omega)).Trust lo.Members[i].Trust:=by rw[yb1 hv.1 (by rw[hl];exact m2.2) m1.2];unfold impK;rw[e3,hdec,y87 g1,y87 g2];simp only[nT,Bool.false_or]
   simp only[nT,cF];have key:=qrs hv g1 g2 (q20 m1.1) (q20 m2.1) ih (by omega) (2^lo.Members.length) 0 (by omega);rw[this];refine Eq.trans key ?_;rw[show((List.range' 0 (2^lo.Members.length)).all fun s=>!sat s (hi.Members[i]'(by omega)).Trust||sat s lo.Members[i].Trust)=impN lo.Members.length (hi.Members[i]'(by omega)).Trust lo.Members[i].Trust from rfl];grind
theorem qqp{lo hi:Config}(hs:q1j lo)(hs':q1j hi):z76 lo hi=some (pairE lo hi):=by
 have h1:=hs.1;have h2:=hs'.1;apply yfr;rw[q98 hs];simp only[bS];unfold pairE;by_cases e1:cerr lo=0
 .rw[e1,q0m,if_neg (by simp),q98 hs'];simp only[cF,bS];by_cases e2:cerr hi=0
  .rw[e2,q0m,if_neg (by simp)];simp only[cF];by_cases e3:lo.Members.length=hi.Members.length
   .rw[y9t (by rw[e3]),if_neg (by omega),q4b lo h1,q4b hi h2];simp only[cF,bS];by_cases e4:decl lo=decl hi
    .rw[y9t (by rw[e4]),if_neg (by omega)];simp only[cF];by_cases e5:7<lo.Members.length;·rw[q02 (by omega),if_pos e5];rfl
     .rw[q00 (by omega),if_neg e5];simp only[cF];exact qpa (q3a.1 e1) (q3a.1 e2) e3 e4 lo.Members.length 0 (by omega)
    .rw[q19 (by omega),if_pos e4];rfl
   .rw[q19 (by omega),if_pos e3];rfl
  .rw[q19 e2,if_pos e2];rfl
 .rw[q19 e1,if_pos e1];rfl
theorem qsk{c:Config}(hv:ValidC c)(z:Int):z7a c z=some (askE c z):=by
 apply yi3;unfold askE;rw[hv.cerr,if_neg (by simp)];by_cases h0:z<0;·rw[q02 h0,if_pos h0];rfl
 .rw[q00 (by omega),if_neg h0,q5h hv.1];simp only[cF,bS,full];by_cases h1:((2^c.Members.length-1:Nat):Int)<z;·rw[q02 h1,if_pos h1];rfl
  .rw[q00 (by omega),if_neg h1];rfl
def qwe(c:Config)(z:Int):Bool×Int:=if askE c z=0 then(!q89 c z.toNat,0)else(false,askE c z)
def avaR(c:Config)(z:Int):Bool×Int:=if askE c z=0 then(qj9 c z.toNat,0)else(false,askE c z)
theorem qqn{c:Config}(hc:q1j c)(z:Int):z52 c z=some (qwe c z):=by
 apply yf8;rw[q98 hc];simp only[bS,qwe];by_cases he:cerr c=0
 .rw[he,q0m,qsk (q3a.1 he)];simp only[cF,bS];by_cases h:askE c z=0;·obtain⟨hv,s,rfl,hs⟩:=qkl h;rw[h,q0m,qnq (qey hv.1 hs) c hv.bears];simp only[bS,cF,if_true];rw[qzr (qmf s hv).small (qmf s hv).cerr];rfl
  .rw[q19 h,if_neg h];rfl
 .have h:askE c z=cerr c:=by unfold askE;omega
  rw[q19 he,h,if_neg he];rfl
theorem qm1{c:Config}(hn:c.Members.length<=10){s:Nat}(hs:s<2^c.Members.length):subI .i64 ((full c:Nat):Int) ((s:Nat):Int)=((ndiff (full c) s:Nat):Int):=by have:=qgi hn;rw[qfh (by unfold full;omega) (by omega)];unfold full;rw[qmx hs]
theorem y05{c:Config}(hc:q1j c)(z:Int):z6g c z=some (avaR c z):=by
 apply yff;rw[q98 hc];simp only[bS,avaR];by_cases he:cerr c=0
 .rw[he,q0m,qsk (q3a.1 he)];simp only[cF,bS];by_cases h:askE c z=0;·obtain⟨hv,s,rfl,hs⟩:=qkl h;rw[h,q0m,q5h hv.1];simp only[bS,cF,if_true];rw[qm1 hv.1 hs,y4p,tN];unfold qj9;cases h0:(ndiff (full c) s==0)with|true=>simp|false=>simp only[cF,Bool.false_or];rw[qlu (y4j hv.1 s) hv.small];rfl
  .rw[q19 h,if_neg h];rfl
 .have h:askE c z=cerr c:=by unfold askE;omega
  rw[q19 he,h,if_neg he];rfl
def dE(lo hi:Config)(z:Int):Int:=if pairE lo hi=0 then askE lo z else pairE lo hi
theorem y4i{lo hi:Config}(hs:q1j lo)(hs':q1j hi)(z:Int):z7m lo hi z=some (dE lo hi z):=by
 apply ycn;rw[qqp hs hs'];simp only[bS,dE];by_cases h:pairE lo hi=0;·rw[h,q0m,qsk (q5i h).1];rfl
 .rw[q19 h,if_neg h];rfl
theorem qu8{lo hi:Config}{z:Int}(h:dE lo hi z=0):pairE lo hi=0/\∃s:Nat,z=(s:Int)/\s<2^lo.Members.length:=by
 unfold dE at h;split at h;·rename_i h1;exact⟨h1,(qkl h).2⟩
 omega
theorem y9p{lo hi:Config}(h:pairE lo hi=0){s:Nat}(hs:s<2^lo.Members.length):dE lo hi (s:Int)=0:=by unfold dE;rw[if_pos h,qn8 (q5i h).1 hs]
theorem qn4{c:Config}(hv:ValidC c){s:Nat}(hs:s<2^c.Members.length):qwe c (s:Int)=(!q89 c s,0):=by unfold qwe;rw[if_pos (qn8 hv hs)];rfl
theorem y5u{c:Config}(hv:ValidC c){s:Nat}(hs:s<2^c.Members.length):avaR c (s:Int)=(qj9 c s,0):=by unfold avaR;rw[if_pos (qn8 hv hs)];rfl
theorem ygr{lo hi:Config}(h:pairE lo hi=0){s:Nat}(hs:s<2^lo.Members.length):z84 lo hi (s:Int)=some (isB lo hi s):=by obtain⟨hv,hw,hl,_,_⟩:=q5i h;apply yhk;rw[y05 hw.small,y5u hw (by simp_all)];simp only[bS,isB];cases qj9 hi s with|false=>rfl|true=>simp only[nT,cF,tA'];rw[qqn hv.small,qn4 hv hs];rfl
theorem qxx{a b:Nat}:(a&&&b==b)=(ndiff b a==0):=by
 rw[Bool.eq_iff_iff,beq_iff_eq,beq_iff_eq,q4d];constructor;·intro h i hi;grind
 .intro h;exact(Sub.and_right a b).antisymm fun i hi=>by rw[Nat.testBit_and,h i hi,hi];rfl
theorem y7d(a b:Nat):eqB (a:Int) (b:Int)=(a==b):=by
 by_cases h:a=b;·rw[h,q0k];simp
 .rw[q0n (by omega)];grind
theorem y06{lo hi:Config}(h:pairE lo hi=0){ill:Nat}(hill:ill<2^lo.Members.length){l:List Nat}(hl:l.length<=1024)(hm:∀s∈l,s<2^lo.Members.length):∀(suf pre:List Nat),l=pre++suf->z4j (ill:Int) ((pre.filter fun b=>ndiff ill b==0&&isB lo hi b).map Int.ofNat) (l.map Int.ofNat) ((l.length:Nat):Int) ((pre.length:Nat):Int) lo.Members hi.Members=some ((l.filter fun b=>ndiff ill b==0&&isB lo hi b).map Int.ofNat,0)
 |[],pre,e=>by rw[List.append_nil]at e;subst e;apply y7t;rw[q00 (Int.le_refl _)];rfl|b::suf,pre,e=>by
  have hn:=(q5i h).1.1;have hd:(l.map Int.ofNat).drop pre.length=(b:Int)::suf.map Int.ofNat:=q5z (by simp_all);have hlt:pre.length<l.length:=by simp_all
  have hb:=hm b (by simp_all);have hb':=qey hn hb;have hi':=qey hn hill;have hfl:=List.length_filter_le (fun b=>ndiff ill b==0&&isB lo hi b) pre;have ih:=y06 h hill hl hm suf (pre++[b]) (by simp_all);rw[List.filter_append,List.map_append,List.length_append]at ih;apply y7t;rw[q02 (by omega)];simp only[cT,q07 hd];rw[q49 (by omega) (by omega),y7d,qxx,q01 (by omega)];cases h1:(ndiff ill b==0)with|false=>simp_all|true=>simp only[cT];rw[show Config.mk lo.Members=lo from rfl,show Config.mk hi.Members=hi from rfl,ygr h hb];simp only[bS];cases h2:isB lo hi b with|false=>simp_all|true=>rw[List.filter_cons,h1,h2]at ih;simp only[tA',if_true,List.filter_nil]at ih;rw[q05 (by simp[q04];omega)];grind
def allR(lo hi:Config)(z:Int):List Int×Int:=if dE lo hi z=0 then((alls lo hi z.toNat).map Int.ofNat,0)else([],dE lo hi z)
theorem qtx{c:Config}{s:Nat}(h:s∈q9w (full c)):s<2^c.Members.length:=qcu.2 (q4f.1 h)
theorem yb6{lo hi:Config}(hs:q1j lo)(hs':q1j hi)(z:Int):z80 lo hi z=some (allR lo hi z):=by
 apply ydx;rw[y4i hs hs'];simp only[bS,allR];by_cases h:dE lo hi z=0;·obtain⟨h0,s,rfl,hlt⟩:=qu8 h;have hn:=(q5i h0).1.1;rw[h,q0m,q5h hn];simp only[cF,bS];rw[qkf (qgi hn)];simp only[bS,List.length_map];exact y06 h0 hlt (qfs (qgi hn)) (fun s hs=>qtx hs) _ [] rfl
 .rw[q19 h,if_neg h];rfl
theorem y65{lo hi:Config}(h:pairE lo hi=0){s:Nat}(hs:s<2^lo.Members.length):allR lo hi (s:Int)=((alls lo hi s).map Int.ofNat,0):=by unfold allR;rw[if_pos (y9p h hs)];rfl
theorem y6i{lo hi:Config}(hn:lo.Members.length<=10)(ill:Nat):(alls lo hi ill).length<=1024:=Nat.le_trans (List.length_filter_le _ _) (qfs (qgi hn))
theorem yck{lo hi:Config}{ill s:Nat}(h:s∈alls lo hi ill):s<2^lo.Members.length:=qcu.2 (q7c.1 h).1
end Go.Proofs.YtdmfjabikomgiaaGreat
namespace Go.Proofs.YtdmfjabikomgiaaGreat
open Go Go.Ab
noncomputable instance:DecidableEq Trust:=fun a b=>Classical.propDecidable (a=b)
theorem Trust.etaM(t:Trust):Trust.mk t.Threshold t.Nodes t.Inner=t:=by simp
theorem qjs(t:Trust):eqB (verr t) 0=valid t:=by have:=q66 t;cases h:valid t with|true=>rw[h]at this;simp[eqB,this.2 rfl]|false=>rw[h]at this;simp only[fT,iff_false]at this;simp[eqB,this]
theorem y51(t:Trust):neB (verr t) 0=!valid t:=by rw[<-qjs];rfl
theorem qqz(l k:List Int)(hl:l.length<1152921504606846976)(hk:l.length=k.length):∀(suf suk:List Int)(i:Nat),l.drop i=suf->k.drop i=suk->z22 l k ((l.length:Nat):Int) (i:Int)=some (decide (suf=suk))
 |[],suk,i,h,h'=>by
  have:suk=[]:=by rw[<-h',List.drop_eq_nil_iff,<-hk];simp_all
  subst this;apply y8u;rw[q0i h];simp|y::suf,[],i,h,h'=>by have:=q0g h;have:=List.drop_eq_nil_iff.1 h';omega|y::suf,z::suk,i,h,h'=>by
  have hlt:=q0g h;apply y8u;rw[q09 h,cT,q07 h,q07 h',q01 (by omega),qqz l k hl hk suf suk (i+1) (q03 h) (q03 h')];by_cases hx:y=z;·subst hx;rw[q0m];simp
  .rw[q19 hx];simp[hx]
theorem y2j(l k:List Int)(hl:l.length<1152921504606846976):z3q l k=some (decide (l=k)):=by
 apply ygj;by_cases hk:l.length=k.length;·rw[hk,q0m,cF,<-hk];exact qqz l k hl hk l k 0 rfl rfl
 .rw[q19 (by omega),cT];have:l≠k:=fun e=>hk (by rw[e]);simp_all
theorem y1f(l k:List Trust)(hl:l.length<1152921504606846976)(hk:l.length=k.length)(hf:∀x∈l,∀y,z45 x y=some (decide (x=y))):∀(suf suk:List Trust)(i:Nat),l.drop i=suf->k.drop i=suk->z0h k l ((l.length:Nat):Int) (i:Int)=some (decide (suf=suk))
 |[],suk,i,h,h'=>by
  have:suk=[]:=by rw[<-h',List.drop_eq_nil_iff,<-hk];simp_all
  subst this;apply y9g;rw[q0i h];simp|y::suf,[],i,h,h'=>by have:=q0g h;have:=List.drop_eq_nil_iff.1 h';omega|y::suf,z::suk,i,h,h'=>by have hlt:=q0g h;apply y9g;rw[q09 h,cT,q07 h,q07 h',hf y (List.mem_of_mem_drop (i:=i) (by simp_all)),bS,q01 (by omega),y1f l k hl hk hf suf suk (i+1) (q03 h) (q03 h')];by_cases hx:y=z<;>simp[hx]
theorem qut:∀a:Trust,Small a->∀b:Trust,z45 a b=some (decide (a=b)):=by
 apply Trust.ind;intro a ih ha b;have hn:=ha.nodes;have hi:=ha.inner;apply yi7;have h1:z1d a.Inner b.Inner=some (decide (a.Inner=b.Inner)):=by
  apply ygo;by_cases hk:a.Inner.length=b.Inner.length;·rw[hk,q0m,cF,<-hk];exact y1f a.Inner b.Inner hi hk (fun x hx y=>ih x hx (ha.mem hx) y) a.Inner b.Inner 0 rfl rfl
  .rw[q19 (by omega),cT];have:a.Inner≠b.Inner:=fun e=>hk (by rw[e]);simp_all
 rw[y2j _ _ hn,h1];cases a;cases b;simp only[Trust.mk.injEq,bS];rename_i t n i t' n' i';by_cases h1:t=t'<;>by_cases h2:n=n'<;>by_cases h3:i=i'<;>simp[eqB,h1,h2,h3]
def msgB(m:Message):Bool:=inR m.Node&&(decide (1<=m.Seq)&&(valid m.Trust&&(plainC m.Votes&&plainC m.Accepts)))
structure SmallM(m:Message):Prop where
 tr:Small m.Trust
 votes:m.Votes.length<1000000
 accs:m.Accepts.length<1000000
theorem q4k{l:List Claim}(h:plainC l=true):l.length<=128:=by rw[<-qzb h];exact qdd l
theorem q2s{m:Message}:msgB m=true↔inR m.Node=true/\1<=m.Seq/\valid m.Trust=true/\plainC m.Votes=true/\plainC m.Accepts=true:=by simp[msgB]
theorem q2h{m:Message}(h:msgB m=true):SmallM m:=by obtain⟨_,_,h1,h2,h3⟩:=q2s.1 h;have:=q4k h2;have:=q4k h3;exact⟨q20 h1,by omega,by omega⟩
theorem qvq(k:Int):z62 k=some (inR k):=by
 apply yeg;by_cases h:0<=k;·simp[leB,ltB,inR,h]
 .simp[leB,ltB,inR,h]
theorem qcx{m:Message}(h:SmallM m):z2j m=some (msgB m):=by apply yhr;rw[qvq,q91 _ h.tr,qa3 _ (by have:=h.votes;omega),qa3 _ (by have:=h.accs;omega)];simp only[bS,qjs,msgB,leB];cases inR m.Node<;>cases decide (1<=m.Seq)<;>cases valid m.Trust<;>cases plainC m.Votes<;>rfl
theorem qn2:∀t:Trust,Fits t->z42 t=some t:=by
 apply Trust.ind;intro t ih ht;have hsz:size t<1073741824:=ht;rw[q3h]at hsz;have l1:∀(suf:List Trust)(i:Nat)(acc:List Trust)(a8:Int)(a10:List Int)(a12:List Trust)(a14:Int)(a16:List Int)(a18:List Trust)(a20:Int)(a22:List Int),t.Inner.drop i=suf->acc.length<=i->z38 t.Inner ((t.Inner.length:Nat):Int) (i:Int) a8 a10 a12 a14 a16 a18 a20 a22 acc=some ⟨a20,a22,acc++suf⟩:=by intro suf;induction suf with|nil=>intro i acc a8 a10 a12 a14 a16 a18 a20 a22 h ha;apply y89;simp only[q0i h,cF,List.append_nil]|cons y suf ihs=>intro i acc a8 a10 a12 a14 a16 a18 a20 a22 h ha;have hlt:=q0g h;have hy:y∈t.Inner:=List.mem_of_mem_drop (by rw[h];exact List.mem_cons_self);apply y89;simp only[q09 h,cT,q07 h,ih y hy (ht.mem hy),bS,q01 (show i<4611686018427387904 by omega),Trust.etaM];rw[q05 (by simp[q04];omega),ihs (i+1) (acc++[y]) _ _ _ _ _ _ _ _ (q03 h) (by simp;omega)];simp
 apply ydv;rw[q05 (by simp[q04];omega),show(0:Int)=((0:Nat):Int)from rfl,l1 t.Inner 0 [] _ _ _ _ _ _ _ _ rfl (Nat.le_refl _)];simp
def seeM(ms:List Member)(m:Message):List Member:=ms.set m.Node.toNat ⟨true,m.Trust⟩
def viewC(v:Int)(t:Trust)(l:List Message):Config:=⟨(l.foldl seeM (List.replicate 10 ⟨false,⟨0,[],[]⟩⟩)).set v.toNat ⟨true,t⟩⟩
theorem q5p{k:Int}(h:inR k=true):0<=k/\k.toNat<10:=by simp[inR]at h;omega
theorem qw7{v:Int}{t:Trust}(hv:inR v=true)(ht:valid t=true)(l:List Message)(hl:l.length<1152921504606846976)(hm:∀m∈l,msgB m=true/\m.Node≠v):∀(suf:List Message)(i:Nat)(ms:List Member)(a17:List Member),l.drop i=suf->ms.length=10->z2g v l ((l.length:Nat):Int) (i:Int) t.Threshold t.Nodes t.Inner a17 ms=some ⟨(suf.foldl seeM ms).set v.toNat ⟨true,t⟩⟩|[],i,ms,a17,h,hms=>by obtain⟨h0,h10⟩:=q5p hv;apply ya1;rw[q0i h,cF,qvq,bS,hv,cT,Trust.etaM,q91 _ (q20 ht),bS,qjs,ht,cT,qn2 _ (q3b ht).1,bS,Trust.etaM,q0u (y:=ms[v.toNat]'(by omega)) h0 (by simp),q5d (y:=ms[v.toNat]'(by omega)) (by simp)];rfl|m::suf,i,ms,a17,h,hms=>by have hlt:=q0g h;obtain⟨g1,g2⟩:=hm m (List.mem_of_mem_drop (i:=i) (by simp_all));obtain⟨k1,_,k3,_⟩:=q2s.1 g1;obtain⟨h0,h10⟩:=q5p k1;apply ya1;rw[q09 h,cT,q07 h,q19 g2,cT,qcx (q2h g1),bS,g1,cT,qn2 _ (q3b k3).1,bS,Trust.etaM,q0u (y:=ms[m.Node.toNat]'(by omega)) h0 (by simp),q5d (y:=ms[m.Node.toNat]'(by omega)) (by simp),q01 (by omega),qw7 hv ht l hl hm suf (i+1) _ a17 (q03 h) (by grind)];rfl
theorem y5o{v:Int}{t:Trust}(hv:inR v=true)(ht:valid t=true)(l:List Message)(hl:l.length<1152921504606846976)(hm:∀m∈l,msgB m=true/\m.Node≠v):z63 v t l=some (viewC v t l):=by apply ydi;exact qw7 hv ht l hl hm l 0 _ _ rfl rfl
def who(p:Message->Bool)(l:List Message):Nat:=l.foldl (fun s m=>if p m then s|||bit m.Node else s) 0
def whoF(p:Message->Bool)(s:Nat)(l:List Message):Nat:=l.foldl (fun s m=>if p m then s|||bit m.Node else s) s
def votes(l:List Message)(x:Claim):Nat:=who (fun m=>decide (x∈m.Votes)) l
def q0z(l:List Message)(x:Claim):Nat:=who (fun m=>decide (x∈m.Accepts)) l
theorem qek(p:Message->Bool)(s:Nat)(m:Message)(l:List Message):whoF p s (m::l)=whoF p (if p m then s|||bit m.Node else s) l:=rfl
theorem qu5(p:Message->Bool):∀(l:List Message)(s:Nat),s<1024->(∀m∈l,inR m.Node=true)->whoF p s l<1024
 |[],s,h,_=>h|m::l,s,h,hm=>by
  rw[qek];refine qu5 p l _ ?_ fun m hm'=>hm m (by simp[hm']);split;·exact or_lt h (qc9 (hm m (by simp)))
  omega
theorem shlOr{s:Nat}{k:Int}(hs:s<1024)(h:inR k=true):orI .i64 (s:Int) (shlI .i64 1 k)=((s|||bit k:Nat):Int):=by have:=qc9 h;rw[qgp h,q42 (by omega) (by omega)]
section
variable (l : List Message) (hl : l.length < 1152921504606846976) (hm : ∀ m ∈ l, msgB m = true) (x : Claim)
include hl hm
theorem qjq:∀(suf:List Message)(i s:Nat),l.drop i=suf->s<1024->z18 (s:Int) l ((l.length:Nat):Int) (i:Int) x.Topic x.Value=some ((whoF (fun m=>decide (x∈m.Votes)) s suf:Nat):Int)
 |[],i,s,h,hs=>by apply y88;rw[q0i h];rfl|m::suf,i,s,h,hs=>by
  have hlt:=q0g h;have g1:=hm m (List.mem_of_mem_drop (i:=i) (by simp_all));obtain⟨k1,_⟩:=q2s.1 g1;have hf:z5v m=some m.Votes:=yd5 _ _ rfl;have hsm:=(q2h g1).votes;apply y88;rw[q09 h,cT,q07 h,qcx (q2h g1),bS,g1,cT,hf,bS,show Claim.mk x.Topic x.Value=x from rfl,qjj _ (by omega),bS,q01 (by omega),qek,q0j (q5p k1).1,shlOr hs k1];by_cases hx:x∈m.Votes;·simp only[hx,decide_true,cT,if_true];exact qjq suf (i+1) _ (q03 h) (or_lt hs (qc9 k1))
  .simp only[hx,decide_false,cF,fT,if_false];exact qjq suf (i+1) _ (q03 h) hs
theorem y0d:z6h l x=some ((votes l x:Nat):Int):=by apply yep;have h:z20 l x=some ((votes l x:Nat):Int):=yd3 _ _ _ (qjq l hl hm x l 0 0 rfl (by decide));simp_all
theorem qoe:∀(suf:List Message)(i s:Nat),l.drop i=suf->s<1024->z0y (s:Int) l ((l.length:Nat):Int) (i:Int) x.Topic x.Value=some ((whoF (fun m=>decide (x∈m.Accepts)) s suf:Nat):Int)
 |[],i,s,h,hs=>by apply y9w;rw[q0i h];rfl|m::suf,i,s,h,hs=>by
  have hlt:=q0g h;have g1:=hm m (List.mem_of_mem_drop (i:=i) (by simp_all));obtain⟨k1,_⟩:=q2s.1 g1;have hf:z4o m=some m.Accepts:=yda _ _ rfl;have hsm:=(q2h g1).accs;apply y9w;rw[q09 h,cT,q07 h,qcx (q2h g1),bS,g1,cT,hf,bS,show Claim.mk x.Topic x.Value=x from rfl,qjj _ (by omega),bS,q01 (by omega),qek,q0j (q5p k1).1,shlOr hs k1];by_cases hx:x∈m.Accepts;·simp only[hx,decide_true,cT,if_true];exact qoe suf (i+1) _ (q03 h) (or_lt hs (qc9 k1))
  .simp only[hx,decide_false,cF,fT,if_false];exact qoe suf (i+1) _ (q03 h) hs
theorem qw8:z49 l x=some ((q0z l x:Nat):Int):=by apply yh2;have h:z1w l x=some ((q0z l x:Nat):Int):=yfb _ _ _ (qoe l hl hm x l 0 0 rfl (by decide));simp_all
end
theorem qnc{l:List Message}(hm:∀m∈l,msgB m=true)(x:Claim):votes l x<1024:=qu5 _ l 0 (by decide) fun m h=>(q2s.1 (hm m h)).1
theorem q54{l:List Message}(hm:∀m∈l,msgB m=true)(x:Claim):q0z l x<1024:=qu5 _ l 0 (by decide) fun m h=>(q2s.1 (hm m h)).1
def accB(c:Config)(v:Nat)(vs ac:Nat):Bool:=blk c v ac||(q1v c (vs|||ac)).testBit v
def confB(c:Config)(v:Nat)(ac:Nat):Bool:=(q1v c ac).testBit v
section
variable {c : Config} (hc : q1j c) {vs ac : Nat} (hv : vs < 1024) (ha : ac < 1024) {v : Nat} (hn : v < 10)
include hc ha hn
theorem y64:z4c c (v:Int) (ac:Int)=some (confB c v ac):=by apply yhn;rw[qh2 ha hc,bS,q1f (qda c ha),q34 hn];rfl
include hv
theorem y6l:z4t c (v:Int) (vs:Int) (ac:Int)=some (accB c v vs ac):=by apply yg3;rw[q38 hv,q38 ha,qye hc ha,q42 (by omega) (by omega),qh2 (or_lt hv ha) hc];simp only[bS,q1f (qda c (or_lt hv ha)),q34 hn,accB];cases blk c v ac<;>rfl
end
theorem qfo{t:Member}:∀(l:List Message)(ms:List Member),t∈l.foldl seeM ms->t∈ms\/∃m∈l,t=⟨true,m.Trust⟩
 |[],ms,h=>.inl h|m::l,ms,h=>by
  rcases qfo l _ h with h|⟨m',h1,h2⟩
  .rcases List.mem_or_eq_of_mem_set h with h|h;·exact .inl h
   .exact .inr ⟨m,by simp,h⟩
  grind
theorem q90:∀(l:List Message)(ms:List Member),(l.foldl seeM ms).length=ms.length|[],_=>rfl|m::l,ms=>by rw[List.foldl_cons,q90 l];simp[seeM]
theorem qub{v:Int}{t:Trust}(ht:valid t=true){l:List Message}(hm:∀m∈l,msgB m=true):q1j (viewC v t l):=by
 refine⟨by simp[viewC,q90],fun m h=>?_⟩;rcases List.mem_or_eq_of_mem_set h with h|h
 .rcases qfo l _ h with h|⟨m',h1,h2⟩;·rw[List.eq_of_mem_replicate h];simp[Small,size,sizes]
  .rw[h2];exact(q2h (hm m' h1)).tr
 .rw[h];exact q20 ht
end Go.Proofs.YtdmfjabikomgiaaGreat
namespace Go.Proofs.YtdmfjabikomgiaaGreat
open Go Go.Ab Go.Sort
def y1l(ms:List Member):Prop:=∀m∈ms,Small m.Trust
theorem qz9(k m:Int):Small ⟨1,[k,m],[]⟩:=by unfold Small;rw[q93];simp[sizes]
theorem qtk{n:Nat}(hn:n<=10)(h1:1<=n)(l:List Int)(i:Int)(a10:List Member):∀(r k:Nat)(ms:List Member),k+r=ms.length->1<=ms.length->ms.length<=n->y1l ms->(∀j m,j<k->ms[j]?=some m->m.Declared=true)->∃c,z5a ((ms.length:Nat):Int) (k:Int) l i a10 ms=some (c,l,i)/\ConfOk n c/\∀m∈c.Members,m.Declared=true
 |0,k,ms,hk,hp,hl,hs,hd=>by
  have hsc:q1j ⟨ms⟩:=⟨by grind,hs⟩;by_cases h0:cerr ⟨ms⟩=0
  .refine⟨⟨ms⟩,?_,(q3a.1 h0).conf hp hl,fun m hm=>?_⟩;·apply quy;rw[q00 (by omega),cF,q98 hsc,h0];rfl
   .obtain⟨j,hj⟩:=List.getElem?_of_mem hm;grind
  .refine⟨⟨[⟨true,⟨1,[0],[]⟩⟩]⟩,?_,?_,fun m hm=>?_⟩;·apply quy;rw[q00 (by omega),cF,q98 hsc];simp[neB,h0]
   .refine⟨by show 1<=1;omega,by show 1<=n;omega,fun x hx=>?_⟩;have hx':x=⟨true,⟨1,[0],[]⟩⟩:=by simpa using hx
    subst hx';show MemOk 1 _;unfold MemOk;rw[if_pos rfl];exact⟨by decide,by decide⟩
   simp_all|r+1,k,ms,hk,hp,hl,hs,hd=>by
  have hlt:k<ms.length:=by omega
  have hget:ms[k]?=some ms[k]:=by simp
  cases hdk:ms[k].Declared with|true=>obtain⟨c,g1,g2⟩:=qtk hn h1 l i a10 r (k+1) ms (by omega) hp hl hs (fun j m hj hm=>by
    rcases Nat.lt_or_ge j k with h|h;·exact hd j m h hm
    .obtain rfl:j=k:=by omega
     rw[hget]at hm;cases hm;exact hdk);refine⟨c,?_,g2⟩;apply quy;rw[q02 (by omega),cT,q0u (y:=ms[k]) (by omega) (by rw[tN];exact hget)];simp only[nthN,tN,hget,hdk,nT,cF];rw[q01 (by omega)];omega|false=>
   have hlen:(ms.set k ⟨true,⟨1,[(k:Int),remI .i64 ((k+1:Nat):Int) ((ms.length:Nat):Int)],[]⟩⟩).length=ms.length:=by simp
   obtain⟨c,g1,g2⟩:=qtk hn h1 l i a10 r (k+1) (ms.set k ⟨true,⟨1,[(k:Int),remI .i64 ((k+1:Nat):Int) ((ms.length:Nat):Int)],[]⟩⟩) (by rw[hlen];omega) (by rw[hlen];exact hp) (by rw[hlen];exact hl) (fun m hm=>by
    rcases List.mem_or_eq_of_mem_set hm with h|h;·exact hs m h
    .subst h;exact qz9 _ _) (fun j m hj hm=>by
    rw[List.getElem?_set]at hm;split at hm;·cases hm;rfl
    .exact hd j m (by omega) hm);refine⟨c,?_,g2⟩;rw[hlen]at g1;apply quy;rw[q02 (by omega),cT,q0u (y:=ms[k]) (by omega) (by rw[tN];exact hget)];simp only[nthN,tN,hget,hdk,Bool.not_false,cT];rw[q0j (by omega),q0u (y:=ms[k]) (by omega) (by rw[tN];exact hget),q01 (by omega)];omega
theorem yb8{n:Nat}(hn:n<=10)(h1:2<=n)(l:List Int)(i:Int)(a6:List Member):∀(r:Nat)(ms:List Member),2<=ms.length+r->ms.length<=n->y1l ms->∃c,z71 l i a6 ms=some (c,l,i)/\ConfOk n c/\∀m∈c.Members,m.Declared=true:=by intro r;induction r with|zero=>intro ms h2 hl hs;obtain⟨c,g1,g2⟩:=qtk hn (by omega) l i a6 ms.length 0 ms (by omega) (by omega) hl hs (fun j m hj _=>by omega);refine⟨c,?_,g2⟩;apply y8e;rw[q00 (by omega),cF];omega|succ r ih=>
  intro ms h2 hl hs;by_cases h:ms.length<2;·obtain⟨c,g1,g2⟩:=ih (ms++[⟨false,⟨0,[],[]⟩⟩]) (by simp;omega) (by simp;omega) (fun m hm=>by
    rcases List.mem_append.1 hm with hm|hm;·exact hs m hm
    .rw[List.mem_singleton]at hm;subst hm;unfold Small;rw[q93];simp[sizes]);refine⟨c,?_,g2⟩;apply y8e;rw[q02 (by omega),cT,q05 (by simp[q04];omega)];exact g1
  grind
theorem yb0{n:Nat}(h1:2<=n)(h2:n<=10){l:List Int}{i:Int}(h:q0t l i):∃c j,z82 (n:Int) l i=some (c,l,j)/\ConfOk n c/\(∀m∈c.Members,m.Declared=true)/\q0t l j:=by obtain⟨c0,j,a1,a2,a3⟩:=y19 (by omega) h2 h;obtain⟨c,g1,g2,g3⟩:=yb8 h2 h1 l j [] 2 c0.Members (by omega) a2.le (a2.smallC h2).2;refine⟨c,j,?_,g2,g3,a3⟩;apply ycp;simp_all
theorem qab{c:Config}(hn:c.Members.length<=10):z5k c=some ((full c:Nat):Int):=by apply ygq;rw[q0j (by omega),q70 hn];rfl
def inta(lo hi:Config)(ill:Nat):Nat:=ndiff (full lo) (bef lo hi ill)
theorem qvz(lo hi:Config)(ill:Nat):Sub (inta lo hi ill) (full lo):=fun i hi=>by unfold inta at hi;rw[q0a,aT]at hi;grind
theorem ybo(lo hi:Config)(ill:Nat):Sub (bef lo hi ill) (full lo):=by
 unfold bef;split;·exact Sub.refl _
 .exact(qvp _ _).1
def oneR(lo hi:Config)(f:Nat->Nat)(z:Int):Int×Int:=if dE lo hi z=0 then(((f z.toNat:Nat):Int),0)else(0,dE lo hi z)
theorem y1c{lo hi:Config}(hs:q1j lo)(hs':q1j hi)(z:Int):z7k lo hi z=some (dE lo hi z):=by
 apply yec;rw[qqp hs hs'];simp only[bS,dE];by_cases h:pairE lo hi=0
 .obtain⟨hv,_,_,_,_⟩:=q5i h;rw[h,q0m];simp only[cF,if_true,askE];rw[hv.cerr,if_neg (by simp)];by_cases h0:z<0;·rw[q02 h0,if_pos h0];rfl
  .rw[q00 (by omega),if_neg h0,qab hv.1];simp only[cF,bS,full];by_cases h1:((2^lo.Members.length-1:Nat):Int)<z;·rw[q02 h1,if_pos h1];rfl
   .rw[q00 (by omega),if_neg h1];rfl
 .rw[q19 h,if_neg h];rfl
theorem y2g{lo hi:Config}{l:List Nat}(hl:l.length<=1024)(hlt:∀s∈l,s<1024):∀(suf:List Nat)(i a:Nat),l.drop i=suf->a<1024->z3s (a:Int) (l.map Int.ofNat) ((l.length:Nat):Int) (i:Int) lo.Members hi.Members=some (((ands suf a:Nat):Int),0)|[],i,a,h,ha=>by apply y7o;rw[q0i h];rfl|b::suf,i,a,h,ha=>by have h1:=q0g h;have hb:=hlt b (List.mem_of_mem_drop (by rw[h];simp));apply y7o;rw[q09 h];simp only[cT,q07 (q5z h)];rw[q49 (by omega) (by omega),q01 (by omega)];exact y2g hl hlt suf (i+1) (a&&&b) (q03 h) (y2v ha)
theorem ybx{lo hi:Config}(hs:q1j lo)(hs':q1j hi)(z:Int):z6p lo hi z=some (oneR lo hi (bef lo hi) z):=by
 apply yeq;rw[y1c hs hs'];simp only[bS,oneR];by_cases h:dE lo hi z=0;·obtain⟨h0,s,rfl,hlt⟩:=qu8 h;obtain⟨hv,hw,hlen,_,_⟩:=q5i h0;rw[h,q0m,qab hv.1];simp only[cF,bS,if_true,tN];rw[qqn hs,qn4 hv hlt];simp only[bS,Bool.not_not];cases hsp:q89 lo s with|true=>unfold bef;simp_all|false=>simp only[cF];rw[yb6 hs hs',y65 h0 hlt];simp only[bS,List.length_map];refine(y2g (y6i (hi:=hi) hv.1 s) (fun x hx=>qey hv.1 (yck hx)) (alls lo hi s) 0 (full lo) rfl (qgi hv.1)).trans ?_;unfold bef;simp_all
 .rw[if_neg h,q19 h];rfl
theorem yd9{lo hi:Config}(hs:q1j lo)(hs':q1j hi)(z:Int):z7v lo hi z=some (oneR lo hi (inta lo hi) z):=by
 apply ydm;rw[ybx hs hs'];simp only[bS,oneR];by_cases h:dE lo hi z=0;·obtain⟨h0,s,rfl,hlt⟩:=qu8 h;obtain⟨hv,hw,hlen,_,_⟩:=q5i h0;rw[if_pos h,if_pos h];simp only[q0m,cF,tN];rw[qab hv.1];simp only[bS];rw[qm1 hv.1 (qcu.2 (ybo lo hi s))];rfl
 .rw[if_neg h,if_neg h];simp only[q19 h,cT]
theorem y62{lo hi:Config}(h:pairE lo hi=0){s:Nat}(hs:s<2^lo.Members.length)(f:Nat->Nat):oneR lo hi f (s:Int)=(((f s:Nat):Int),0):=by unfold oneR;rw[if_pos (y9p h hs)];rfl
variable {n : Nat} {lo hi : Config}
end Go.Proofs.YtdmfjabikomgiaaGreat
namespace Go.Proofs.YtdmfjabikomgiaaGreat
open Go Go.Ab
def say(v:Voter):Message:=⟨v.Node,v.Seq,v.Trust,v.Votes,v.Accepts⟩
def q4j(n:Int):Option Int->List Message->Bool|_,[]=>true|none,m::r=>msgB m&&(!decide (m.Node=n)&&q4j n (some m.Node) r)|some q,m::r=>msgB m&&(!decide (m.Node=n)&&(decide (q<m.Node)&&q4j n (some m.Node) r))
structure SmallV(v:Voter):Prop where
 tr:Small v.Trust
 votes:v.Votes.length<1000000
 accs:v.Accepts.length<1000000
 confs:v.Confirms.length<1000000
 heard:v.Heard.length<1000000
 msgs:∀m∈v.Heard,SmallM m
def q4h(v:Voter):Bool:=inR v.Node&&(decide (1<=v.Seq)&&(decide (v.Seq<=1000000)&&(valid v.Trust&&(plainC v.Votes&&(plainC v.Accepts&&(plainC v.Confirms&&(consC v.Votes&&(consC v.Accepts&&(v.Confirms.all (fun x=>decide (x∈v.Accepts))&&q4j v.Node none v.Heard)))))))))
theorem q25{n:Int}:∀{l:List Message}{q:Option Int},q4j n q l=true↔(∀m∈l,msgB m=true/\m.Node≠n)/\(∀k,q=some k->∀m∈l,k<m.Node)/\l.Pairwise (fun a b=>a.Node<b.Node)
 |[],q=>by cases q<;>simp[q4j]|m::r,q=>by
  have ih:=q25 (n:=n) (l:=r) (q:=some m.Node);have h1:q4j n q (m::r)=true↔msgB m=true/\m.Node≠n/\(∀k,q=some k->k<m.Node)/\q4j n (some m.Node) r=true:=by cases q<;>simp[q4j]
  rw[h1,ih,List.pairwise_cons];grind
theorem qri{n:Int}{l:List Message}(h:q4j n none l=true):l.length<=10:=by obtain⟨h1,_,h3⟩:=q25.1 h;have:=qcp (m:=10) (l:=l.map (·.Node)) (by decide) (fun k hk=>by obtain⟨m,hm,rfl⟩:=List.mem_map.1 hk;have:=(q2s.1 (h1 m hm).1).1;simpa[inR]using this) (List.pairwise_map.2 h3);grind
theorem y40(l:List Claim)(v:Voter)(hl:l.length<1152921504606846976)(ha:v.Accepts.length<1000000):∀(suf:List Claim)(i:Nat),l.drop i=suf->∃r:Int,z0t l ((l.length:Nat):Int) (i:Int) v.Node v.Seq v.Trust.Threshold v.Trust.Nodes v.Trust.Inner v.Votes v.Accepts v.Confirms v.Heard=some (r,v.Node,v.Seq,v.Trust.Threshold,v.Trust.Nodes,v.Trust.Inner,v.Votes,v.Accepts,v.Confirms,v.Heard)/\leB 0 r=!(suf.all fun x=>decide (x∈v.Accepts))
 |[],i,h=>by refine⟨-1,y2w _ _ _ _ _ _ _ _ _ _ _ _ _ ?_,by rfl⟩;rw[q0i h];rfl|y::suf,i,h=>by
  have hlt:=q0g h;obtain⟨r,h1,h2⟩:=y40 l v hl ha suf (i+1) (q03 h);have hf:z6w y v.Node v.Seq v.Trust.Threshold v.Trust.Nodes v.Trust.Inner v.Votes v.Accepts v.Confirms v.Heard=some (!decide (y∈v.Accepts),v.Node,v.Seq,v.Trust.Threshold,v.Trust.Nodes,v.Trust.Inner,v.Votes,v.Accepts,v.Confirms,v.Heard):=by apply yfd;rw[qjj _ (by omega)];rfl
  by_cases hy:y∈v.Accepts;·refine⟨r,y2w _ _ _ _ _ _ _ _ _ _ _ _ _ ?_,by rw[h2];simp[hy]⟩;rw[q09 h,cT,q07 h,hf,bS,q01 (by omega)];simp_all
  .refine⟨i,y2w _ _ _ _ _ _ _ _ _ _ _ _ _ ?_,by simp[hy,leB]⟩;rw[q09 h,cT,q07 h,hf,bS];simp_all
theorem y8w(v:Voter)(hl:v.Heard.length<1000000)(hm:∀m∈v.Heard,SmallM m):∀(suf:List Message)(i:Nat)(z:Message),v.Heard[i]?=some z->v.Heard.drop (i+1)=suf->z2a v.Heard ((v.Heard.length:Nat):Int) ((i+1:Nat):Int) v.Node v.Seq v.Trust.Threshold v.Trust.Nodes v.Trust.Inner v.Votes v.Accepts v.Confirms v.Heard=some (q4j v.Node (some z.Node) suf)|[],i,z,hz,h=>by apply quz;rw[q0i h];rfl|y::suf,i,z,hz,h=>by have hlt:=q0g h;apply quz;rw[q09 h,cT,q07 h,qcx (hm y (List.mem_of_mem_drop (i:=i+1) (by simp_all))),bS,q02 (by omega),cT,q2p (by omega) (by omega),q0u (y:=z) (by omega) (by simp_all),q01 (by omega),y8w v hl hm suf (i+1) y (by have:=congrArg (·[0]?) h;grind) (q03 h)];rw[q4j,show leB y.Node z.Node=!decide (z.Node<y.Node)by by_cases h2:z.Node<y.Node<;>simp[leB,h2]<;>omega];simp only[eqB];cases msgB y<;>cases decide (y.Node=v.Node)<;>cases decide (z.Node<y.Node)<;>rfl
theorem yh5(v:Voter)(hl:v.Heard.length<1000000)(hm:∀m∈v.Heard,SmallM m):z2a v.Heard ((v.Heard.length:Nat):Int) 0 v.Node v.Seq v.Trust.Threshold v.Trust.Nodes v.Trust.Inner v.Votes v.Accepts v.Confirms v.Heard=some (q4j v.Node none v.Heard):=by cases hh:v.Heard with|nil=>apply quz;rfl|cons y r=>have h1:=y8w v hl hm r 0 y (by simp_all) (by simp_all);rw[hh]at h1 hm;apply quz;rw[q02 (by simp),cT,q0u (y:=y) (by omega) rfl,qcx (hm y (by simp)),bS,q00 (by omega),cF,show addI .i64 0 1=((0+1:Nat):Int)from rfl,h1,q4j];by_cases h1:y.Node=v.Node;all_goals cases msgB y<;>simp[h1,eqB]
theorem qbw{v:Voter}(h:SmallV v):z5e v=some (q4h v):=by
 obtain⟨h1,h2,h3,h4,h5,h6⟩:=h;apply ydg;obtain⟨r,g1,g2⟩:=y40 v.Confirms v (by omega) h3 v.Confirms 0 rfl;have g3:z1n v.Confirms v.Node v.Seq v.Trust.Threshold v.Trust.Nodes v.Trust.Inner v.Votes v.Accepts v.Confirms v.Heard=_:=yf4 _ _ _ _ _ _ _ _ _ _ _ g1;have g4:z1m v.Confirms v.Node v.Seq v.Trust.Threshold v.Trust.Nodes v.Trust.Inner v.Votes v.Accepts v.Confirms v.Heard=some (!(v.Confirms.all fun x=>decide (x∈v.Accepts)),v.Node,v.Seq,v.Trust.Threshold,v.Trust.Nodes,v.Trust.Inner,v.Votes,v.Accepts,v.Confirms,v.Heard):=by apply ye2;simp_all
 rw[q91 _ h1,qa3 _ (by omega),qa3 _ (by omega),qa3 _ (by omega),g4];simp only[bS,yh5 v h5 h6,y51];unfold q4h inR ltB leB;by_cases e1:v.Node<0;·grind
 have e1':0<=v.Node:=by omega
 by_cases e2:10<=v.Node;·grind
 have e2':v.Node<10:=by omega
 by_cases e3:v.Seq<1;·grind
 have e3':1<=v.Seq:=by omega
 by_cases e4:1000000<v.Seq;·grind
 have e4':v.Seq<=1000000:=by omega
 simp only[e1,e1',e2,e2',e3,e3',e4,e4',decide_false,decide_true,cF,tA',Bool.and_true];cases valid v.Trust with|false=>simp|true=>cases hp1:plainC v.Votes with|false=>simp|true=>cases hp2:plainC v.Accepts with|false=>simp|true=>cases plainC v.Confirms with|false=>simp|true=>rw[qnk _ (by omega) (q0x.1 hp1).1,qnk _ (by omega) (q0x.1 hp2).1];grind
structure Ready(v:Voter):Prop where
 node:inR v.Node=true
 seq:1<=v.Seq/\v.Seq<=1000000
 tr:valid v.Trust=true
 votes:plainC v.Votes=true
 accs:plainC v.Accepts=true
 confs:plainC v.Confirms=true
 cons:consC v.Accepts=true
 sub:∀x∈v.Confirms,x∈v.Accepts
 heard:q4j v.Node none v.Heard=true
theorem q0y{v:Voter}:q4h v=true↔Ready v/\consC v.Votes=true:=by
 simp only[q4h,aT,dT',List.all_eq_true];constructor;·rintro⟨h1,h2,h3,h4,h5,h6,h7,h8,h9,h10,h11⟩;exact⟨⟨h1,⟨h2,h3⟩,h4,h5,h6,h7,h9,h10,h11⟩,h8⟩
 .rintro⟨⟨h1,⟨h2,h3⟩,h4,h5,h6,h7,h9,h10,h11⟩,h8⟩;simp_all
def allM(v:Voter):List Message:=v.Heard++[say v]
theorem Ready.msg{v:Voter}(h:Ready v):∀m∈v.Heard,msgB m=true/\m.Node≠v.Node:=(q25.1 h.heard).1
theorem Ready.say{v:Voter}(h:Ready v):msgB (say v)=true:=q2s.2 ⟨h.node,h.seq.1,h.tr,h.votes,h.accs⟩
theorem Ready.all{v:Voter}(h:Ready v):∀m∈allM v,msgB m=true:=fun m hm=>by
 rcases List.mem_append.1 hm with hm|hm;·exact(h.msg m hm).1
 .simp at hm;subst hm;exact h.say
theorem Ready.len{v:Voter}(h:Ready v):(allM v).length<=11:=by have:=qri h.heard;simp[allM];omega
theorem Ready.hlen{v:Voter}(h:Ready v):v.Heard.length<=10:=qri h.heard
theorem Ready.alen{v:Voter}(h:Ready v):v.Accepts.length<=128:=q4k h.accs
theorem Ready.vlen{v:Voter}(h:Ready v):v.Votes.length<=128:=q4k h.votes
theorem Ready.clen{v:Voter}(h:Ready v):v.Confirms.length<=128:=q4k h.confs
theorem Ready.small{v:Voter}(h:Ready v):SmallV v:=⟨q20 h.tr,by have:=h.vlen;omega,by have:=h.alen;omega,by have:=h.clen;omega,by have:=h.hlen;omega,fun m hm=>q2h (h.msg m hm).1⟩
theorem qso(v:Voter):z6z v=some (say v):=ydj _ _ (by rw[Trust.etaM];rfl)
theorem qjf(m:Message):Message.mk m.Node m.Seq (Trust.mk m.Trust.Threshold m.Trust.Nodes m.Trust.Inner) m.Votes m.Accepts=m:=by simp
theorem q2e(v:Voter):Voter.mk v.Node v.Seq (Trust.mk v.Trust.Threshold v.Trust.Nodes v.Trust.Inner) v.Votes v.Accepts v.Confirms v.Heard=v:=by simp
theorem ql2(l:List Message)(hl:l.length<1000000):z1s l=some ((),l):=yhm _ _ (by rw[q05 (by simp[q04];omega)];rfl)
theorem q3p(l:List Claim)(hl:l.length<1000000):z0k l=some ((),l):=y8i _ _ (by rw[q05 (by simp[q04];omega)];rfl)
def q97(l:List Message):List Claim:=l.flatMap fun m=>m.Votes++m.Accepts
def known(v:Voter):List Claim:=q18 (q97 (allM v))
theorem qyv{m:Message}(h:msgB m=true):∀x∈m.Votes++m.Accepts,vcl x=true:=fun x hx=>by
 obtain⟨_,_,_,h1,h2⟩:=q2s.1 h;rcases List.mem_append.1 hx with hx|hx;·exact(q0x.1 h1).1 x hx
 .exact(q0x.1 h2).1 x hx
theorem qpd(l:List Message)(hl:l.length<=11)(hm:∀m∈l,msgB m=true):∀(suf:List Message)(i:Nat)(acc:List Claim),i<=l.length->l.drop i=suf->acc.length<=256*i->(∀x∈acc,vcl x=true)->z4n acc l ((l.length:Nat):Int) (i:Int)=some (q18 (acc++q97 suf))
 |[],i,acc,hi,h,ha,hv=>by apply y9c;rw[q0i h,cF,qms acc (by omega) hv];simp[q97]|m::suf,i,acc,hi,h,ha,hv=>by
  have hlt:=q0g h;have g:=hm m (List.mem_of_mem_drop (i:=i) (by simp_all));obtain⟨_,_,_,g1,g2⟩:=q2s.1 g;have:=q4k g1;have:=q4k g2;apply y9c;rw[q09 h,cT,q07 h,q05 (by simp[q04];omega),q05 (by simp[q04];omega),q01 (by omega),qpd l hl hm suf (i+1) _ hlt (q03 h) (by grind) (fun x hx=>by
   rw[List.append_assoc]at hx;rcases List.mem_append.1 hx with hx|hx;·simp_all
   .exact qyv g x hx)];simp[q97]
theorem y2p{v:Voter}(h:Ready v):z6u (allM v)=some (known v):=by apply yh8;have:=qpd (allM v) h.len h.all (allM v) 0 [] (by omega) rfl (by simp) (by simp);exact this
def viewV(v:Voter):Config:=viewC v.Node v.Trust v.Heard
def canB(v:Voter)(x:Claim):Bool:=!decide (x∈v.Accepts)&&(decide (∀y∈v.Accepts,¬Contra x y)&&accB (viewV v) v.Node.toNat (votes (allM v) x) (q0z (allM v) x))
def nextV(v:Voter):Option Claim:=(known v).find? (canB v)
theorem Ready.view{v:Voter}(h:Ready v):q1j (viewV v):=qub h.tr fun m hm=>(h.msg m hm).1
theorem Ready.node'{v:Voter}(h:Ready v):v.Node.toNat<10/\((v.Node.toNat:Nat):Int)=v.Node:=by have:=q5p h.node;omega
theorem qb6{v:Voter}{x:Claim}(h:x∈known v):vcl x=true:=(q1i.1 h).1
theorem qg7{A:List Claim}(h:consC A=true)(x:Claim):consC (A++[x])=decide (∀y∈A,¬Contra x y):=by
 rw[Bool.eq_iff_iff,q8c,dT'];rw[q8c]at h;constructor;·simp_all
 .intro g a ha b hb;rcases List.mem_append.1 ha with ha'|ha'<;>rcases List.mem_append.1 hb with hb'|hb';·simp_all
  .simp at hb';subst hb';exact fun hc=>g a ha' hc.symm
  .simp_all
  .simp at ha' hb';subst ha';subst hb';exact fun hc=>hc.2 rfl
theorem qry{v:Voter}(h:Ready v)(l:List Claim)(hl:l.length<=128)(hv:∀x∈l,vcl x=true):∀(suf:List Claim)(i:Nat),l.drop i=suf->z3p (allM v) l ((l.length:Nat):Int) (i:Int) v.Node v.Seq v.Trust.Threshold v.Trust.Nodes v.Trust.Inner v.Votes v.Accepts v.Confirms v.Heard (viewV v).Members 0 0=some (match suf.find? (canB v)with|some x=>(x,true)|none=>(⟨0,0⟩,false))
 |[],i,g=>by apply yaa;rw[q0i g];rfl|y::suf,i,g=>by
  have hlt:=q0g g;have hlen:=h.len;have halen:=h.alen;have hy:=hv y (List.mem_of_mem_drop (i:=i) (by rw[g];simp));have ih:=qry h l hl hv suf (i+1) (q03 g);obtain⟨n1,n2⟩:=h.node';have hvc:∀x∈v.Accepts++[y],vcl x=true:=fun x hx=>by
   rcases List.mem_append.1 hx with hx|hx;·exact(q0x.1 h.accs).1 x hx
   .simp at hx;subst hx;exact hy
  have hacc:z4t ⟨(viewV v).Members⟩ v.Node ((votes (allM v) y:Nat):Int) ((q0z (allM v) y:Nat):Int)=some (accB (viewV v) v.Node.toNat (votes (allM v) y) (q0z (allM v) y)):=by have:=y6l h.view (qnc h.all y) (q54 h.all y) n1;rw[n2]at this;exact this
  apply yaa;rw[q09 g,cT,q07 g,qjj _ (by omega),bS,q3p _ (by omega),bS,q05 (by simp[q04];omega),qnk _ (by simp;omega) hvc,bS,qg7 h.cons,y0d _ (by omega) h.all,bS,qw8 _ (by omega) h.all,bS,hacc,bS,q01 (by omega),ih,List.find?_cons];simp only[canB];grind
theorem qrj{v:Voter}(h:Ready v):z6l v (viewV v)=some (match nextV v with|some x=>(x,true)|none=>(⟨0,0⟩,false)):=by apply yha;have hh:=h.hlen;rw[ql2 _ (by omega),bS,qso,bS,qjf,q05 (by simp[q04];omega)];have:z6u (v.Heard++[say v])=_:=y2p h;rw[this,bS];exact qry h (known v) (qdd _) (fun x hx=>qb6 hx) (known v) 0 rfl
def withA(v:Voter)(x:Claim):Voter:={v with Accepts:=q18 (v.Accepts++[x])}
def q22:Nat->Voter->Voter|0,v=>v|n+1,v=>match nextV v with|none=>v|some x=>q22 n (withA v x)
theorem qac{v:Voter}{x:Claim}(h:nextV v=some x):x∈known v/\x∉v.Accepts/\(∀y∈v.Accepts,¬Contra x y)/\accB (viewV v) v.Node.toNat (votes (allM v) x) (q0z (allM v) x)=true:=by have h1:=List.mem_of_find?_eq_some h;have h2:=List.find?_some h;simp only[canB,aT,Bool.not_eq_true',dT',decide_eq_false_iff_not]at h2;simp_all
theorem y3m{v:Voter}(h:nextV v=none):∀x∈known v,canB v x=false:=fun x hx=>by have:=List.find?_eq_none.1 h x hx;simp_all
theorem qga{A:List Claim}{x y:Claim}(hA:∀z∈A,vcl z=true)(hx:vcl x=true):y∈q18 (A++[x])↔y∈A\/y=x:=by rw[q1i,List.mem_append,List.mem_singleton];grind
theorem Ready.avc{v:Voter}(h:Ready v):∀z∈v.Accepts,vcl z=true:=(q0x.1 h.accs).1
theorem Ready.withA{v:Voter}(h:Ready v){x:Claim}(hx:vcl x=true)(hc:∀y∈v.Accepts,¬Contra x y):Ready (withA v x):=by
 have hm:=fun y=>qga (y:=y) h.avc hx;refine⟨h.node,h.seq,h.tr,h.votes,q4o _,h.confs,?_,fun y hy=>(hm y).2 (.inl (h.sub y hy)),h.heard⟩;have:consC (v.Accepts++[x])=true:=by rw[qg7 h.cons,dT'];omega
 rw[q8c]at this⊢;intro a ha b hb;exact this a (q1i.1 ha).2 b (q1i.1 hb).2
theorem qzl{A:List Claim}{x:Claim}(hA:plainC A=true)(hx:vcl x=true)(hn:x∉A):(q18 (A++[x])).length=A.length+1:=by
 have hnd:∀{l:List Claim},l.Pairwise ltc->l.Nodup:=fun h=>List.Pairwise.imp (fun{a b}(hab:ltc a b)=>fun(e:a=b)=>q68 a (by simp_all)) h;have hp:(q18 (A++[x])).Perm (A++[x]):=(List.perm_ext_iff_of_nodup (hnd (qdh _)) (by rw[List.nodup_append];exact⟨hnd (q0x.1 hA).2,by simp,fun a ha b hb=>by grind⟩)).2 fun y=>by rw[qga (q0x.1 hA).1 hx];simp
 rw[hp.length_eq];simp
theorem q75:∀(n:Nat)(v:Voter),Ready v->128-v.Accepts.length<n->Ready (q22 n v)/\nextV (q22 n v)=none|0,v,h,hn=>by omega|n+1,v,h,hn=>by rw[q22];cases hx:nextV v with|none=>simp_all|some x=>obtain⟨h1,h2,h3,_⟩:=qac hx;have hv:=qb6 h1;have hr:=h.withA hv h3;have hl:=qzl h.accs hv h2;have hal:(q18 (v.Accepts++[x])).length<=128:=hr.alen;exact q75 n (withA v x) hr (by show 128-(q18 (v.Accepts++[x])).length<n;omega)
theorem qar:∀(n:Nat)(v:Voter),(q22 n v).Node=v.Node/\(q22 n v).Seq=v.Seq/\(q22 n v).Trust=v.Trust/\(q22 n v).Votes=v.Votes/\(q22 n v).Confirms=v.Confirms/\(q22 n v).Heard=v.Heard|0,v=>⟨rfl,rfl,rfl,rfl,rfl,rfl⟩|n+1,v=>by rw[q22];cases nextV v with|none=>simp|some x=>exact qar n (withA v x)
def confC(v:Voter)(C:List Claim)(l:List Claim):List Claim:=l.foldl (fun C x=>if confB (viewV v) v.Node.toNat (q0z (allM v) x)then q18 (C++[x])else C) C
def finish(v:Voter):Voter:={v with Confirms:=confC v v.Confirms v.Accepts}
def q0l(v:Voter):Voter:=finish (q22 200 v)
theorem qjz(v:Voter):∀(l C:List Claim),plainC C=true->plainC (confC v C l)=true
 |[],C,h=>h|x::l,C,h=>by
  show plainC (confC v (if _ then _ else _) l)=true;refine qjz v l _ ?_;split;·exact q4o _
  omega
theorem qfc(v:Voter){y:Claim}:∀(l C:List Claim),(∀x∈C,vcl x=true)->(∀x∈l,vcl x=true)->(y∈confC v C l↔y∈C\/y∈l/\confB (viewV v) v.Node.toNat (q0z (allM v) y)=true)
 |[],C,_,_=>by simp[confC]|x::l,C,hC,hl=>by
  show y∈confC v (if _ then _ else _) l↔_;have hx:=hl x (by simp);have hl':∀z∈l,vcl z=true:=fun z hz=>hl z (by grind);by_cases hc:confB (viewV v) v.Node.toNat (q0z (allM v) x)=true;·rw[if_pos hc,qfc v l _ (fun z hz=>(q1i.1 hz).1) hl',qga hC hx];grind
  .rw[if_neg hc,qfc v l C hC hl'];grind
theorem Ready.finish{v:Voter}(h:Ready v):Ready (finish v):=⟨h.node,h.seq,h.tr,h.votes,h.accs,qjz v _ _ h.confs,h.cons,fun x hx=>by
  rcases(qfc v _ _ (q0x.1 h.confs).1 h.avc).1 hx with hx|hx;·exact h.sub x hx
  .exact hx.1,h.heard⟩
theorem Ready.settle{v:Voter}(h:Ready v):Ready (q0l v):=((q75 200 v h (by omega)).1).finish
theorem qjc:∀t:Trust,Fits t->z5g t=some t:=by
 apply Trust.ind;intro t ih ht;have hsz:size t<1073741824:=ht;rw[q3h]at hsz;have l1:∀(suf:List Trust)(i:Nat)(acc:List Trust)(a8:Int)(a10:List Int)(a12:List Trust)(a14:Int)(a16:List Int)(a18:List Trust)(a20:Int)(a22:List Int),t.Inner.drop i=suf->acc.length<=i->z4m t.Inner ((t.Inner.length:Nat):Int) (i:Int) a8 a10 a12 a14 a16 a18 a20 a22 acc=some ⟨a20,a22,acc++suf⟩:=by intro suf;induction suf with|nil=>intro i acc a8 a10 a12 a14 a16 a18 a20 a22 h ha;apply y7x;simp only[q0i h,cF,List.append_nil]|cons y suf ihs=>intro i acc a8 a10 a12 a14 a16 a18 a20 a22 h ha;have hlt:=q0g h;have hy:y∈t.Inner:=List.mem_of_mem_drop (by rw[h];exact List.mem_cons_self);apply y7x;simp only[q09 h,cT,q07 h,ih y hy (ht.mem hy),bS,q01 (show i<4611686018427387904 by omega),Trust.etaM];rw[q05 (by simp[q04];omega),ihs (i+1) (acc++[y]) _ _ _ _ _ _ _ _ (q03 h) (by simp;omega)];simp
 apply ye9;have h1:z24 t.Nodes=some ((),t.Nodes):=ya6 _ _ (by rw[q05 (by simp[q04];omega)];rfl);rw[h1,bS,show(0:Int)=((0:Nat):Int)from rfl,l1 t.Inner 0 [] _ _ _ _ _ _ _ _ rfl (Nat.le_refl _)];simp
theorem qko{m:Message}(ht:Fits m.Trust)(h1:m.Votes.length<1000000)(h2:m.Accepts.length<1000000):z3n m=some m:=by apply ygw;rw[qjc _ ht,bS,q3p _ h1,bS,q3p _ h2,bS,Trust.etaM]
theorem qq7(l:List Message)(hl:l.length<1000000)(hm:∀m∈l,z3n m=some m)(n s:Int)(t:Int)(ns:List Int)(is:List Trust)(va aa ca:List Claim)(d1 d2 d3:Int)(d4:List Int)(d5:List Trust)(d6 d7 d8:List Claim)(d9:List Message):∀(suf:List Message)(i:Nat)(acc:List Message),l.drop i=suf->acc.length<=i->z4l l ((l.length:Nat):Int) (i:Int) n s t ns is va aa ca acc d1 d2 d3 d4 d5 d6 d7 d8 d9=some ⟨n,s,⟨t,ns,is⟩,va,aa,ca,acc++suf⟩|[],i,acc,h,ha=>by apply ya2;rw[q0i h,cF,List.append_nil]|m::suf,i,acc,h,ha=>by have hlt:=q0g h;apply ya2;rw[q09 h,cT,q07 h,hm m (List.mem_of_mem_drop (i:=i) (by simp_all)),bS,qjf,q05 (by simp[q04];omega),q01 (by omega),qq7 l hl hm n s t ns is va aa ca d1 d2 d3 d4 d5 d6 d7 d8 d9 suf (i+1) _ (q03 h) (by simp_all)];simp
structure Fresh(v:Voter):Prop where
 tr:Fits v.Trust
 votes:v.Votes.length<1000000
 accs:v.Accepts.length<1000000
 confs:v.Confirms.length<1000000
 heard:v.Heard.length<1000000
 msgs:∀m∈v.Heard,z3n m=some m
theorem qet{v:Voter}(h:Fresh v):z2u v=some v:=by apply yhx;rw[qjc _ h.tr,bS,q3p _ h.votes,bS,q3p _ h.accs,bS,q3p _ h.confs,bS];have:=qq7 v.Heard h.heard h.msgs v.Node v.Seq v.Trust.Threshold v.Trust.Nodes v.Trust.Inner v.Votes v.Accepts v.Confirms 0 0 0 [] [] [] [] [] [] v.Heard 0 [] rfl (Nat.le_refl _);simp_all
theorem y5v{m:Message}(h:msgB m=true):z3n m=some m:=qko (q3b (q2s.1 h).2.2.1).1 (q2h h).votes (q2h h).accs
theorem Ready.fresh{v:Voter}(h:Ready v)(s:Int):Fresh {v with Seq:=s}:=⟨(q3b h.tr).1,by have:=h.vlen;grind,by have:=h.alen;grind,by have:=h.clen;grind,by have:=h.hlen;grind,fun m hm=>y5v (h.msg m hm).1⟩
theorem qu7{v:Voter}(h:Ready v)(l:List Claim)(hl:l.length<=128)(hv:∀x∈l,vcl x=true)(d1 d2 d3:Int)(d4:List Int)(d5:List Trust)(d6 d7 d8:List Claim)(d9:List Message)(e1 e2:Int):∀(suf:List Claim)(i:Nat)(C:List Claim),l.drop i=suf->plainC C=true->z35 (allM v) l ((l.length:Nat):Int) (i:Int) v.Node v.Seq v.Trust.Threshold v.Trust.Nodes v.Trust.Inner v.Votes v.Accepts C v.Heard d1 d2 d3 d4 d5 d6 d7 d8 d9 (viewV v).Members e1 e2=some {v with Confirms:=confC v C suf}
 |[],i,C,g,hC=>by apply y96;rw[q0i g,cF,Trust.etaM];rfl|y::suf,i,C,g,hC=>by
  have hlt:=q0g g;have hlen:=h.len;have hcl:=q4k hC;have hy:=hv y (List.mem_of_mem_drop (i:=i) (by simp_all));obtain⟨n1,n2⟩:=h.node';have hacc:z4c ⟨(viewV v).Members⟩ v.Node ((q0z (allM v) y:Nat):Int)=some (confB (viewV v) v.Node.toNat (q0z (allM v) y)):=by have:=y64 h.view (q54 h.all y) n1;simp_all
  apply y96;rw[q09 g,cT,q07 g,qw8 _ (by omega) h.all,bS,hacc,bS,qt9 C y (by omega) (q0x.1 hC).1 hy,bS,q01 (by omega)];show _=some {v with Confirms:=confC v (if confB (viewV v) v.Node.toNat (q0z (allM v) y)then q18 (C++[y])else C) suf};cases hc:confB (viewV v) v.Node.toNat (q0z (allM v) y)with|true=>rw[cT,if_pos rfl];exact qu7 h l hl hv d1 d2 d3 d4 d5 d6 d7 d8 d9 e1 e2 suf (i+1) _ (q03 g) (q4o _)|false=>rw[cF,if_neg (by simp)];exact qu7 h l hl hv d1 d2 d3 d4 d5 d6 d7 d8 d9 e1 e2 suf (i+1) _ (q03 g) hC
theorem y4q(d1 d2 d3:Int)(d4:List Int)(d5:List Trust)(d6 d7 d8:List Claim)(d9:List Message):∀(n:Nat)(v:Voter),Ready v->128-v.Accepts.length<n->∀r:Claim×Bool,r=(match nextV v with|some x=>(x,true)|none=>(⟨0,0⟩,false))->z4s r.2 v.Node v.Seq v.Trust.Threshold v.Trust.Nodes v.Trust.Inner v.Votes v.Accepts v.Confirms v.Heard d1 d2 d3 d4 d5 d6 d7 d8 d9 (viewV v).Members r.1.Topic r.1.Value=some (finish (q22 n v))|0,v,h,hn,_,_=>by omega|n+1,v,h,hn,r,hr=>by rw[q22];apply yfe;cases hx:nextV v with|none=>rw[hx]at hr;subst hr;have hh:=h.hlen;simp only[cF];rw[ql2 _ (by omega),bS,q2e,qso,bS,qjf,q05 (by simp[q04];omega)];have:=qu7 h v.Accepts h.alen h.avc d1 d2 d3 d4 d5 d6 d7 d8 d9 0 0 v.Accepts 0 v.Confirms rfl h.confs;exact this|some x=>
   rw[hx]at hr;subst hr;obtain⟨h1,h2,h3,_⟩:=qac hx;have hv:=qb6 h1;have hr:=h.withA hv h3;have hl:=qzl h.accs hv h2;have hal:=h.alen;have hal':(q18 (v.Accepts++[x])).length<=128:=hr.alen;simp only[cT];rw[show Claim.mk x.Topic x.Value=x from rfl,qt9 _ _ (by omega) h.avc hv,bS];have hw:Voter.mk v.Node v.Seq (Trust.mk v.Trust.Threshold v.Trust.Nodes v.Trust.Inner) v.Votes (q18 (v.Accepts++[x])) v.Confirms v.Heard=withA v x:=by rw[Trust.etaM];rfl
   rw[hw];have hn':z6l (withA v x) ⟨(viewV v).Members⟩=_:=qrj hr;rw[hn',bS];exact y4q d1 d2 d3 d4 d5 d6 d7 d8 d9 n (withA v x) hr (by grind) _ rfl
theorem qsz{v:Voter}(h:Ready v):z6t v=some (q0l v):=by have hh:=h.hlen;apply ygv;have hv:z63 v.Node v.Trust v.Heard=some (viewV v):=y5o h.node h.tr v.Heard (by omega) h.msg;rw[hv,bS,qrj h,bS];exact y4q _ _ _ _ _ _ _ _ _ 200 v h (by omega) _ rfl
noncomputable def turnV(b v:Voter):Voter:=if b.Trust=(q0l v).Trust/\b.Votes=(q0l v).Votes/\b.Accepts=(q0l v).Accepts then q0l v else{q0l v with Seq:=(q0l v).Seq+1}
theorem qfw{b v:Voter}(hb:Ready b)(h:Ready v):z3l b v=some (turnV b v):=by
 have hs:=h.settle;have h1:=hb.vlen;have h2:=hb.alen;have hq:=hs.seq;have f0:z2u (q0l v)=some (q0l v):=qet (hs.fresh (q0l v).Seq);have f1:z2u {q0l v with Seq:=(q0l v).Seq+1}=some {q0l v with Seq:=(q0l v).Seq+1}:=qet (hs.fresh _);have hw:Voter.mk (q0l v).Node (addI .i64 (q0l v).Seq 1) (Trust.mk (q0l v).Trust.Threshold (q0l v).Trust.Nodes (q0l v).Trust.Inner) (q0l v).Votes (q0l v).Accepts (q0l v).Confirms (q0l v).Heard={q0l v with Seq:=(q0l v).Seq+1}:=by rw[Trust.etaM,q24 (by omega) (by omega)]
 apply ydh;rw[qsz h,bS,qut _ (q20 hb.tr),bS,qro _ _ (by omega),bS,qro _ _ (by omega),bS,hw,f1,bS,f0,bS,q2e,q2e,turnV];by_cases e1:b.Trust=(q0l v).Trust<;>by_cases e2:b.Votes=(q0l v).Votes<;>by_cases e3:b.Accepts=(q0l v).Accepts<;>simp[e1,e2,e3]
section
variable {b : Voter} (hb : SmallV b) (hbs : 0 <= b.Seq /\ b.Seq < 4611686018427387904) (d1 d2 d3 : Int) (d4 : List Int) (d5 : List Trust) (d6 d7 d8 : List Claim) (d9 : List Message)
include hb hbs
end
def qez:Voter:=⟨0,0,⟨0,[],[]⟩,[],[],[],[]⟩
noncomputable def voteV(v:Voter)(x:Claim):Voter×Int:=if q4h v=false\/vcl x=false then(qez,1)else if∃y∈v.Votes++v.Accepts,Contra x y then(qez,14)else if x∈v.Votes then(v,0)else(turnV v {v with Votes:=q18 (v.Votes++[x])},0)
theorem qvh(l:List Claim)(hl:l.length<1152921504606846976)(x:Claim):∀(suf:List Claim)(i:Nat),l.drop i=suf->∃r:Int,z0x l ((l.length:Nat):Int) (i:Int) x.Topic x.Value=some (r,x.Topic,x.Value)/\leB 0 r=decide (∃y∈suf,Contra x y)
 |[],i,h=>by refine⟨-1,y0j _ _ _ _ _ _ ?_,by rfl⟩;rw[q0i h];rfl|y::suf,i,h=>by
  have hlt:=q0g h;obtain⟨r,h1,h2⟩:=qvh l hl x suf (i+1) (q03 h);have hf:z75 y x.Topic x.Value=some (decide (Contra x y),x.Topic,x.Value):=yd0 _ _ _ _ (by rw[show Claim.mk x.Topic x.Value=x from rfl,qxy];rfl);by_cases hc:Contra x y;·refine⟨i,y0j _ _ _ _ _ _ ?_,by simp[leB,hc]⟩;rw[q09 h,cT,q07 h,hf];grind
  .refine⟨r,y0j _ _ _ _ _ _ ?_,by rw[h2];simp[hc]⟩;rw[q09 h,cT,q07 h,hf,bS,q01 (by omega)];simp_all
theorem y0r(l:List Claim)(hl:l.length<1152921504606846976)(x:Claim):z1f l x.Topic x.Value=some (decide (∃y∈l,Contra x y),x.Topic,x.Value):=by obtain⟨r,h1,h2⟩:=qvh l hl x l 0 rfl;apply yfy;have h3:z1o l x.Topic x.Value=_:=ycq _ _ _ _ h1;simp_all
theorem Ready.withV{v:Voter}(h:Ready v)(x:Claim):Ready {v with Votes:=q18 (v.Votes++[x])}:=⟨h.node,h.seq,h.tr,q4o _,h.accs,h.confs,h.cons,h.sub,h.heard⟩
theorem y3z{v:Voter}(hs:SmallV v)(x:Claim):z7o v x=some (voteV v x):=by apply ydk;rw[qbw hs,bS,qef,bS,voteV];cases hv:q4h v with|false=>rfl|true=>cases hx:vcl x with|false=>rfl|true=>
   obtain⟨h,hc⟩:=q0y.1 hv;have h1:=h.vlen;have h2:=h.alen;have hw:Voter.mk v.Node v.Seq (Trust.mk v.Trust.Threshold v.Trust.Nodes v.Trust.Inner) (q18 (v.Votes++[x])) v.Accepts v.Confirms v.Heard={v with Votes:=q18 (v.Votes++[x])}:=by simp
   simp only[nT,cF,Bool.true_eq_false,or_self,if_false];rw[y0r _ (by omega),bS,y0r _ (by omega),bS];dsimp only;rw[show Claim.mk x.Topic x.Value=x from rfl,qjj _ (by omega),bS,qet (h.fresh v.Seq),bS,qt9 _ _ (by omega) (q0x.1 h.votes).1 hx,bS,hw,qfw h (h.withV x),bS,q2e,q2e];by_cases e1:∃y∈v.Votes,Contra x y
   .have:∃y∈v.Votes++v.Accepts,Contra x y:=by grind
    rw[if_pos this];simp only[e1,decide_true,cT];rfl
   .by_cases e2:∃y∈v.Accepts,Contra x y
    .have:∃y∈v.Votes++v.Accepts,Contra x y:=by grind
     rw[if_pos this];simp only[e1,e2,decide_true,decide_false,cT,cF];rfl
    .have:¬∃y∈v.Votes++v.Accepts,Contra x y:=by
      rintro⟨y,h,h'⟩;rcases List.mem_append.1 h with h|h;·exact e1 ⟨y,h,h'⟩
      .exact e2 ⟨y,h,h'⟩
     rw[if_neg this];by_cases e3:x∈v.Votes;·simp only[e1,e2,e3,decide_true,decide_false,cT,cF,if_true]
     grind
noncomputable def declV(v:Voter)(t:Trust):Voter×Int:=if q4h v=false then(qez,1)else if verr t≠0 then(qez,verr t)else if v.Trust=t then(v,0)else(turnV v {v with Trust:=t},0)
theorem Ready.withT{v:Voter}(h:Ready v){t:Trust}(ht:valid t=true):Ready {v with Trust:=t}:=⟨h.node,h.seq,ht,h.votes,h.accs,h.confs,h.cons,h.sub,h.heard⟩
theorem y0g{v:Voter}(hs:SmallV v){t:Trust}(ht:Small t):z6s v t=some (declV v t):=by apply yh7;rw[qbw hs,bS,q91 _ ht,bS,declV];cases hv:q4h v with|false=>rfl|true=>
  obtain⟨h,hc⟩:=q0y.1 hv;simp only[nT,cF,Bool.true_eq_false,if_false];by_cases e:verr t=0
  .rw[e,q0m,cF,if_neg (by simp),qut _ hs.tr,bS,qet (h.fresh v.Seq),bS];have hw:Voter.mk v.Node v.Seq (Trust.mk t.Threshold t.Nodes t.Inner) v.Votes v.Accepts v.Confirms v.Heard={v with Trust:=t}:=by rw[Trust.etaM]
   rw[hw,qfw h (h.withT ((q66 t).1 e)),bS,q2e,q2e];by_cases e2:v.Trust=t;·rw[if_pos e2,decide_eq_true e2,cT]
   simp_all
  .rw[q19 e,cT,if_pos e];rfl
def qvc(n:Int)(t:Trust):Voter×Int:=if inR n=false then(qez,5)else if verr t≠0 then(qez,verr t)else(⟨n,1,t,[],[],[],[]⟩,0)
theorem qz8(n:Int){t:Trust}(ht:Small t):z6v n t=some (qvc n t):=by
 apply yho;rw[q91 _ ht,bS,qvc,inR,ltB,leB];by_cases e1:n<0
 .have:¬0<=n:=by omega
  simp[e1,this];rfl
 .have e1':0<=n:=by omega
  by_cases e2:10<=n
  .have:¬n<10:=by omega
   simp[e1,e2,this];rfl
  .have e2':n<10:=by omega
   by_cases e:verr t=0;·rw[qjc _ (q3b ((q66 t).1 e)).1];simp[e1,e2,e1',e2',e,neB]
   .simp[e1,e2,e1',e2',e,neB];rfl
def hearL(m:Message):List Message->List Message|[]=>[m]|x::r=>if x.Node<m.Node then x::hearL m r else if x.Node=m.Node then m::r else m::x::r
def oldB(l:List Message)(m:Message):Bool:=l.any fun x=>decide (x.Node=m.Node)&&decide (m.Seq<=x.Seq)
noncomputable def hearV(v:Voter)(m:Message):Voter×Int:=if q4h v=false\/msgB m=false\/m.Node=v.Node then(qez,1)else if oldB v.Heard m=true then(qez,9)else(turnV v {v with Heard:=hearL m v.Heard},0)
theorem qkq{m x:Message}:∀{l:List Message},x∈hearL m l->x=m\/x∈l
 |[],h=>by simp[hearL]at h;simp_all|y::r,h=>by
  rw[hearL]at h;split at h
  .rcases List.mem_cons.1 h with h|h;·exact .inr (by simp[h])
   .rcases qkq h with h|h;·exact .inl h
    .exact .inr (by simp[h])
  grind
theorem qjl{n:Int}{m:Message}(hm:msgB m=true)(hn:m.Node≠n):∀{l:List Message}{q:Option Int},q4j n q l=true->(∀k,q=some k->k<m.Node)->q4j n q (hearL m l)=true
 |[],q,_,hq=>by cases q with|none=>simp[hearL,q4j,hm,hn]|some k=>simp[hearL,q4j,hm,hn,hq k rfl]
 |y::r,q,h,hq=>by
  have hi:=q25.1 h;rw[hearL];split
  .rename_i hlt;have hr:q4j n (some y.Node) r=true:=by rw[List.pairwise_cons]at hi;exact q25.2 ⟨fun x hx=>hi.1 x (by simp[hx]),fun k hk x hx=>by cases hk;exact hi.2.2.1 x hx,hi.2.2.2⟩
   have ih:=qjl hm hn hr (fun k hk=>by cases hk;exact hlt);have hj:=q25.1 ih;refine q25.2 ⟨fun x hx=>?_,fun k hk x hx=>?_,List.pairwise_cons.2 ⟨fun x hx=>hj.2.1 _ rfl x hx,hj.2.2⟩⟩
   .rcases List.mem_cons.1 hx with e|hx;·subst e;exact hi.1 x (by simp)
    .exact hj.1 x hx
   grind
  .rename_i hge;rw[List.pairwise_cons]at hi;split
   .rename_i heq;refine q25.2 ⟨fun x hx=>?_,fun k hk x hx=>?_,List.pairwise_cons.2 ⟨fun x hx=>by rw[<-heq];exact hi.2.2.1 x hx,hi.2.2.2⟩⟩
    .rcases List.mem_cons.1 hx with e|hx;·subst e;exact⟨hm,hn⟩
     .exact hi.1 x (by simp[hx])
    grind
   .rename_i hne;have hlt:m.Node<y.Node:=by omega
    refine q25.2 ⟨fun x hx=>?_,fun k hk x hx=>?_,List.pairwise_cons.2 ⟨fun x hx=>?_,List.pairwise_cons.2 hi.2.2⟩⟩
    .rcases List.mem_cons.1 hx with e|hx;·subst e;exact⟨hm,hn⟩
     .exact hi.1 x hx
    .rcases List.mem_cons.1 hx with e|hx;·subst e;exact hq k hk
     .exact hi.2.1 k hk x hx
    grind
theorem Ready.withH{v:Voter}(h:Ready v){m:Message}(hm:msgB m=true)(hn:m.Node≠v.Node):Ready {v with Heard:=hearL m v.Heard}:=⟨h.node,h.seq,h.tr,h.votes,h.accs,h.confs,h.cons,h.sub,qjl hm hn h.heard (fun k hk=>by grind)⟩
def pos(k:Int):List Message->Nat|[]=>0|x::r=>if x.Node<k then pos k r+1 else 0
theorem y2o(k:Int):∀l:List Message,pos k l<=l.length
 |[]=>Nat.le_refl _|x::r=>by
  rw[pos];split;·simp;exact y2o k r
  simp
theorem qmn{k:Int}:∀{l:List Message},l.Pairwise (fun a b=>a.Node<b.Node)->∀(i:Nat)(x:Message),l[i]?=some x->(x.Node<k↔i<pos k l)|[],_,i,x,h=>by grind|y::r,hp,i,x,h=>by rw[List.pairwise_cons]at hp;rw[pos];cases i with|zero=>grind|succ i=>
   have h':r[i]?=some x:=by simpa using h
   have hyx:=hp.1 x (List.mem_of_getElem? h');split;·rw[qmn hp.2 i x h'];omega
   omega
def q9v(k:Int)(l:List Message):Bool:=match l[pos k l]? with|some x=>decide (x.Node=k)|none=>false
theorem qpw{m:Message}:∀{l:List Message},hearL m l=if q9v m.Node l=true then l.set (pos m.Node l) m else l.take (pos m.Node l)++m::l.drop (pos m.Node l)
 |[]=>by rfl|x::r=>by
  rw[hearL];by_cases h1:x.Node<m.Node
  .have hp:pos m.Node (x::r)=pos m.Node r+1:=by rw[pos,if_pos h1]
   have hf:q9v m.Node (x::r)=q9v m.Node r:=by simp[q9v,hp]
   rw[if_pos h1,qpw (l:=r),hp,hf];split<;>simp
  .have hp:pos m.Node (x::r)=0:=by rw[pos,if_neg h1]
   have hf:q9v m.Node (x::r)=decide (x.Node=m.Node):=by simp[q9v,hp]
   grind
theorem y5l{m:Message}{l:List Message}(hp:l.Pairwise (fun a b=>a.Node<b.Node)):oldB l m=match l[pos m.Node l]? with|some x=>decide (x.Node=m.Node)&&decide (m.Seq<=x.Seq)|none=>false:=by cases hx:l[pos m.Node l]? with|none=>rw[oldB,List.any_eq_false];intro x hx';obtain⟨i,hi,rfl⟩:=List.mem_iff_getElem.1 hx';have h1:=(qmn (k:=m.Node) hp i l[i] (by simp[hi]));grind|some y=>
  show oldB l m=(decide (y.Node=m.Node)&&decide (m.Seq<=y.Seq));rw[oldB,Bool.eq_iff_iff,List.any_eq_true];constructor
  .rintro⟨x,hx',h⟩;simp only[aT,dT']at h;obtain⟨i,hi,rfl⟩:=List.mem_iff_getElem.1 hx';have h1:=(qmn (k:=m.Node) hp i l[i] (by simp[hi]));have h3:=(qmn (k:=m.Node) hp _ y hx);have hge:pos m.Node l<=i:=by
    have:¬l[i].Node<m.Node:=by omega
    rw[h1]at this;omega
   have hpl:=(List.getElem?_eq_some_iff.1 hx).1;have:i=pos m.Node l:=by
    by_cases e:i=pos m.Node l;·exact e
    .have hlt:pos m.Node l<i:=by omega
     have:=List.pairwise_iff_getElem.1 hp _ _ hpl hi hlt;have h4:l[pos m.Node l]=y:=(List.getElem?_eq_some_iff.1 hx).2;rw[h4]at this;have:¬y.Node<m.Node:=by rw[h3];omega
     omega
   subst this;have h4:l[pos m.Node l]=y:=(List.getElem?_eq_some_iff.1 hx).2;rw[h4]at h;simp[h]
  grind
theorem yex:∀i:Fin 12,∀j:Fin 12,IntKind.wrap .i64 (shrI .u64 (IntKind.wrap .u64 (addI .i64 ((i.val:Nat):Int) ((j.val:Nat):Int))) 1)=(((i.val+j.val)/2:Nat):Int):=by decide+kernel
theorem qwm(x:Message)(k:Int):z6e x k=some (if x.Node<k then-1 else if k<x.Node then 1 else 0):=yhw _ _ _ (by rw[qjg];rfl)
theorem y0t{l:List Message}(hl:l.length<=10)(hp:l.Pairwise (fun a b=>a.Node<b.Node))(k:Int):∀(n i j:Nat),j-i<=n->i<=pos k l->pos k l<=j->j<=l.length->z0f l k ((l.length:Nat):Int) (i:Int) (j:Int)=some (((pos k l:Nat):Int),q9v k l)
 |n,i,j,hn,hi,hj,hjl=>by
  apply yhe;by_cases hij:i<j
  .obtain⟨n,rfl⟩:∃m,n=m+1:=⟨n-1,by omega⟩;have hmid:=yex ⟨i,by omega⟩ ⟨j,by omega⟩;dsimp only at hmid;have hml:(i+j)/2<l.length:=by omega
   have hg:l[(i+j)/2]?=some l[(i+j)/2]:=by simp
   have hpl:=qmn (k:=k) hp _ _ hg;rw[q02 (by omega),cT,hmid,q0u (by omega) (by rw[tN];omega),qwm,bS];by_cases h1:l[(i+j)/2].Node<k;·rw[if_pos h1,q02 (by decide),cT,q01 (by omega)];exact y0t hl hp k n ((i+j)/2+1) j (by omega) (by omega) hj hjl
   .rw[if_neg h1,q00 (by split<;>decide),cF];exact y0t hl hp k n i ((i+j)/2) (by omega) hi (by omega) (by omega)
  .have hij':i=pos k l:=by omega
   subst hij';rw[q00 (by omega),cF];unfold q9v;by_cases he:pos k l<l.length
   .have hg:l[pos k l]?=some l[pos k l]:=by simp
    have hpl:=qmn (k:=k) hp _ _ hg;have h1:¬l[pos k l].Node<k:=by omega
    rw[q02 (by omega),cT,q0u (by omega) (by rw[tN];omega),qwm,bS,hg,if_neg h1];by_cases h2:k<l[pos k l].Node
    .have:¬l[pos k l].Node=k:=by omega
     simp[h2,this,eqB]
    .have:l[pos k l].Node=k:=by omega
     simp[this,eqB]
   .rw[q00 (by omega),cF,List.getElem?_eq_none (by omega)]
theorem yef{l:List Message}(hl:l.length<=10)(hp:l.Pairwise (fun a b=>a.Node<b.Node))(k:Int):z1a l k=some (((pos k l:Nat):Int),q9v k l):=by apply yen;exact y0t hl hp k l.length 0 l.length (by omega) (by omega) (y2o k l) (Nat.le_refl _)
theorem y2f(l:List Message):(l.map q1n).all (q5c 7)=true:=by rw[List.all_eq_true];intro x hx;obtain⟨y,_,rfl⟩:=List.mem_map.1 hx;rfl
theorem qy0(l:List Message)(hl:l.length<1000000)(m:Message)(i:Nat)(hi:i<=l.length):z5f (i:Int) [m] l=some (l.take i++m::l.drop i,()):=by
 refine qf0 (T:=tn) (m:=q81 7) sigOk (by rfl) rfl ?_;show libA (q81 7) [.ref 0,.d (.v (.int .i64 i)),.d (.list [q1n m])] [[.own (l.map q1n) false]]=some (.d (.list ((l.take i++m::l.drop i).map q1n)),[[.undef]]);unfold libA q81;have h1:(i:Int)<=((l.map q1n).length:Int):=by simp_all
 have h2:(l.map q1n).length<q04:=by simp[q04];omega
 have h3:q5c 7 (q1n m)=true:=rfl;simp only[Int.natCast_nonneg,h1,h2,h3,y2f,and_self,if_true,tN];simp only[List.map_append,List.map_cons,List.map_take,List.map_drop];rfl
theorem qr9{v:Voter}(hs:SmallV v){m:Message}(hm:SmallM m):z77 v m=some (hearV v m):=by apply ydo;rw[qbw hs,bS,qcx hm,bS,hearV];cases hv:q4h v with|false=>rfl|true=>cases hx:msgB m with|false=>rfl|true=>
   obtain⟨h,hc⟩:=q0y.1 hv;simp only[nT,cF,Bool.true_eq_false,false_or];by_cases hn:m.Node=v.Node;·rw[if_pos hn,hn,q0k];rfl
   .rw[if_neg hn,q0n hn,cF];have hp:=(q25.1 h.heard).2.2;have hh:=h.hlen;rw[yef hh hp,bS,y5l hp,ql2 _ (by omega)];have hpl:=y2o m.Node v.Heard;have hw:∀H,Voter.mk v.Node v.Seq (Trust.mk v.Trust.Threshold v.Trust.Nodes v.Trust.Inner) v.Votes v.Accepts v.Confirms H={v with Heard:=H}:=fun H=>by simp
    have ht:=qfw h (h.withH hx hn);rw[qpw]at ht⊢;simp only[bS,qjf];cases hf:q9v m.Node v.Heard with
    |true=>rw[hf,if_pos rfl]at ht;unfold q9v at hf;cases hg:v.Heard[pos m.Node v.Heard]? with|none=>simp_all|some y=>
      rw[hg]at hf;have hy:y.Node=m.Node:=by simp_all
      simp only[cT,if_true];rw[q0u (by omega) (by rw[tN];omega),q0u (by omega) (by rw[tN];omega),q5d (by rw[tN];omega),tN,hw,ht,bS,q2e];by_cases hq:m.Seq<=y.Seq<;>simp[leB,hy,hq]<;>rfl
    |false=>
     rw[hf,if_neg (by simp)]at ht;unfold q9v at hf;have hold:(match v.Heard[pos m.Node v.Heard]? with|some x=>decide (x.Node=m.Node)&&decide (m.Seq<=x.Seq)|none=>false)=false:=by grind
     simp only[cF,hold,fT,if_false];rw[qy0 _ (by omega) m _ hpl,bS,hw,ht,bS,q2e]
theorem qzi(y:Message)(l:List Message)(m:Message):oldB (y::l) m=(decide (y.Node=m.Node)&&decide (m.Seq<=y.Seq)||oldB l m):=rfl
theorem y6a{v:Voter}(ht:Fits v.Trust)(h1:v.Votes.length<1000000)(h2:v.Accepts.length<1000000):z7s v=some (say v):=by apply yev;rw[qso,bS,qko ht h1 h2,bS,qjf]
theorem q3k(v:Voter):(q0l v).Node=v.Node/\(q0l v).Seq=v.Seq/\(q0l v).Trust=v.Trust/\(q0l v).Votes=v.Votes/\(q0l v).Heard=v.Heard:=by obtain⟨h1,h2,h3,h4,_,h6⟩:=qar 200 v;exact⟨h1,h2,h3,h4,h6⟩
theorem qco:∀(n:Nat)(v:Voter),Ready v->∀x∈v.Accepts,x∈(q22 n v).Accepts|0,v,h,x,hx=>hx|n+1,v,h,x,hx=>by rw[q22];cases hy:nextV v with|none=>omega|some y=>obtain⟨h1,h2,h3,_⟩:=qac hy;have hv:=qb6 h1;exact qco n (withA v y) (h.withA hv h3) x ((qga h.avc hv).2 (.inl hx))
theorem qhs{v:Voter}(h:Ready v){y:Claim}:y∈(q0l v).Confirms↔y∈v.Confirms\/y∈(q0l v).Accepts/\confB (viewV (q0l v)) (q0l v).Node.toNat (q0z (allM (q0l v)) y)=true:=by have hs:=(q75 200 v h (by omega)).1;obtain⟨_,_,_,_,h5,_⟩:=qar 200 v;show y∈confC (q22 200 v) (q22 200 v).Confirms (q22 200 v).Accepts↔_;rw[qfc _ _ _ (q0x.1 hs.confs).1 hs.avc,h5];rfl
theorem qu9{v:Voter}(h:Ready v):∀x∈known (q0l v),canB (q0l v) x=false:=fun x hx=>y3m (q75 200 v h (by omega)).2 x hx
theorem Ready.withS{v:Voter}(h:Ready v){s:Int}(h1:1<=s)(h2:s<=1000000):Ready {v with Seq:=s}:=⟨h.node,⟨h1,h2⟩,h.tr,h.votes,h.accs,h.confs,h.cons,h.sub,h.heard⟩
theorem q65(b v:Voter):∃s:Int,(s=v.Seq\/s=v.Seq+1)/\turnV b v={q0l v with Seq:=s}/\(s=v.Seq↔b.Trust=v.Trust/\b.Votes=v.Votes/\b.Accepts=(q0l v).Accepts):=by
 obtain⟨h1,h2,h3,h4,h5⟩:=q3k v;rw[turnV,h3,h4,h2];split;·rename_i h;exact⟨v.Seq,.inl rfl,by rw[<-h2],fun _=>h,fun _=>rfl⟩
 .rename_i h;exact⟨v.Seq+1,.inr rfl,rfl,fun e=>by omega,fun e=>absurd e h⟩
structure Step(v w:Voter):Prop where
 node:w.Node=v.Node
 seq:w.Seq=v.Seq\/w.Seq=v.Seq+1
 votes:∀x∈v.Votes,x∈w.Votes
 accs:∀x∈v.Accepts,x∈w.Accepts
 confs:∀x∈v.Confirms,x∈w.Confirms
 ready:w.Seq<=1000000->q4h w=true
 small:SmallV w
theorem qg2{v:Voter}(hv:q4h v=true){m:Message}(hm:msgB m=true)(hn:m.Node≠v.Node)(ho:oldB v.Heard m=false):hearV v m=(turnV v {v with Heard:=hearL m v.Heard},0):=by unfold hearV;simp_all
theorem qr0{v:Voter}{m:Message}(h:(hearV v m).2=0):msgB m=true/\m.Node≠v.Node/\oldB v.Heard m=false:=by unfold hearV at h;grind
theorem ql9{n:Int}{t:Trust}(hn:inR n=true)(ht:valid t=true):qvc n t=(⟨n,1,t,[],[],[],[]⟩,0)/\q4h ⟨n,1,t,[],[],[],[]⟩=true:=by
 constructor;·rw[qvc,if_neg (by simp_all),if_neg (by rw[(q66 t).2 ht];simp)]
 .rw[q0y];exact⟨⟨hn,⟨by simp,by simp⟩,ht,rfl,rfl,rfl,by rfl,(fun x hx=>by omega),rfl⟩,by rfl⟩
theorem qv5:∀(l:List Message)(ms:List Member)(k:Nat),(l.Pairwise fun a b=>a.Node.toNat≠b.Node.toNat)->k<ms.length->(l.foldl seeM ms)[k]?=(match l.find? (fun m=>decide (m.Node.toNat=k))with|some m=>some ⟨true,m.Trust⟩|none=>ms[k]?)
 |[],ms,k,_,_=>rfl|m::l,ms,k,hd,hk=>by
  have hd:=List.pairwise_cons.1 hd;rw[List.foldl_cons,qv5 l _ k hd.2 (by simpa[seeM]using hk),List.find?_cons];by_cases e:m.Node.toNat=k
  .have:l.find? (fun m=>decide (m.Node.toNat=k))=none:=List.find?_eq_none.2 fun x hx=>by grind
   simp[this,e,seeM,hk]
  .simp only[e,decide_false];cases hf:l.find? (fun m=>decide (m.Node.toNat=k))with|some y=>rfl|none=>exact List.getElem?_set_ne e
section
variable {n : Int} {t : Trust} {l : List Message} (hn : inR n = true) (hl : q4j n none l = true)
include hl in
theorem qhx : l.Pairwise fun a b => a.Node.toNat ≠ b.Node.toNat := by
 obtain ⟨h1, _, h3⟩ := q25.1 hl;refine List.Pairwise.imp_of_mem (fun {a b} ha hb hab => ?_) h3;have g1 := q5p (q2s.1 (h1 a ha).1).1;have g2 := q5p (q2s.1 (h1 b hb).1).1;omega
include hl in
theorem y0q {a b : Message} (ha : a ∈ l) (hb : b ∈ l) (h : a.Node = b.Node) : a = b := by
 obtain ⟨i, hi, rfl⟩ := List.mem_iff_getElem.1 ha;obtain ⟨j, hj, rfl⟩ := List.mem_iff_getElem.1 hb;have hp := List.pairwise_iff_getElem.1 (qhx hl);rcases Nat.lt_trichotomy i j with c | c | c
 .exact absurd (by rw [h]) (hp i j hi hj c)
 .subst c; rfl
 .exact absurd (by rw [h]) (hp j i hj hi c)
include hn in
theorem qjm : (decl (viewC n t l)).testBit n.toNat = true /\ tr (viewC n t l) n.toNat = t := by
 have hg : (viewC n t l).Members[n.toNat]? = some ⟨true, t⟩ := by
  rw [viewC, List.getElem?_set_self (by rw [q90]; simpa using (q5p hn).2)]
 exact ⟨q3n.2 ⟨(q5p hn).2, _, hg, rfl⟩, by unfold tr; rw [hg]; rfl⟩
include hl in
theorem y4u {k : Nat} (hk : k < 10) (hne : k ≠ n.toNat) : (viewC n t l).Members[k]? = match l.find? (fun m => decide (m.Node.toNat = k)) with | some m => some ⟨true, m.Trust⟩ | none => some ⟨false, ⟨0, [], []⟩⟩ := by
 rw [viewC, List.getElem?_set_ne (fun e => hne e.symm), qv5 _ _ _ (qhx hl) (by simpa using hk)];cases l.find? (fun m => decide (m.Node.toNat = k)) with
 | some m => rfl
 | none =>
  show (List.replicate 10 (⟨false, ⟨0, [], []⟩⟩ : Member))[k]? = _;rw [List.getElem?_replicate, if_pos hk]
include hn hl in
theorem qd9 {m : Message} (hm : m ∈ l) : (decl (viewC n t l)).testBit m.Node.toNat = true /\ tr (viewC n t l) m.Node.toNat = m.Trust := by
 obtain ⟨g1, g2⟩ := (q25.1 hl).1 m hm;have hb := q5p (q2s.1 g1).1;have hb' := q5p hn;have hg : (viewC n t l).Members[m.Node.toNat]? = some ⟨true, m.Trust⟩ := by
  rw [y4u hl hb.2 (by omega)];cases hf : l.find? (fun k => decide (k.Node.toNat = m.Node.toNat)) with
  | none =>
   have := List.find?_eq_none.1 hf m hm;simp at this
  | some y =>
   have h1 := List.mem_of_find?_eq_some hf;have h2 := List.find?_some hf;rw [dT'] at h2;have hy := q5p (q2s.1 ((q25.1 hl).1 y h1).1).1;have : y = m := y0q hl h1 hm (by omega);subst this; rfl
 exact ⟨q3n.2 ⟨hb.2, _, hg, rfl⟩, by unfold tr; rw [hg]; rfl⟩
end
theorem qbb{p:Message->Bool}:∀(l:List Message)(s i:Nat),(whoF p s l).testBit i=true↔s.testBit i=true\/∃m∈l,p m=true/\m.Node.toNat=i|[],s,i=>by simp[whoF]|m::l,s,i=>by rw[qek,qbb l];cases hp:p m with|true=>simp only[if_true];rw[Nat.testBit_or,Bool.or_eq_true,bit,qd4,dT'];grind|false=>simp_all
theorem qeb{l:List Message}{x:Claim}{i:Nat}:(votes l x).testBit i=true↔∃m∈l,x∈m.Votes/\m.Node.toNat=i:=by show(whoF _ 0 l).testBit i=true↔_;rw[qbb];simp
theorem q5q{l:List Message}{x:Claim}{i:Nat}:(q0z l x).testBit i=true↔∃m∈l,x∈m.Accepts/\m.Node.toNat=i:=by show(whoF _ 0 l).testBit i=true↔_;rw[qbb];simp
theorem qgo{v:Voter}{m:Message}(h:m∈allM v):m∈v.Heard\/m=say v:=by
 rcases List.mem_append.1 h with h|h;·exact .inl h
 simp_all
theorem y70{l:List Message}{m:Message}:oldB l m=true↔∃x∈l,x.Node=m.Node/\m.Seq<=x.Seq:=by simp[oldB]
def atV(S:List Voter)(b:Nat):Voter:=S.getD b qez
theorem q6l{S:List Voter}{b:Nat}(h:b<S.length):S[b]?=some (atV S b):=by unfold atV;simp_all
theorem q9h{S:List Voter}{b:Nat}(h:b<S.length)(x:Voter)(c:Nat):atV (S.set b x) c=if b=c then x else atV S c:=by unfold atV;grind
def SubC(a b:List Claim):Prop:=∀x∈a,x∈b
theorem q7l:∀{A B:List Claim},A.Nodup->SubC A B->A.length<=B.length|[],_,_,_=>Nat.zero_le _|a::A,B,hn,h=>by obtain⟨h1,h2⟩:=List.nodup_cons.1 hn;have ha:=h a (by simp);have:=q7l (B:=B.erase a) h2 fun x hx=>(List.mem_erase_of_ne (fun(e:x=a)=>h1 (by rw[<-e];exact hx))).2 (h x (by simp[hx]));grind
theorem qhr{l:List Claim}(h:plainC l=true):l.Nodup:=List.Pairwise.imp (fun{a b}(hab:ltc a b)=>fun(e:a=b)=>q68 a (by simp_all)) (q0x.1 h).2
theorem qys{A B:List Claim}(h:plainC A=true)(hs:SubC A B):A.length<=B.length:=q7l (qhr h) hs
theorem qs6{A B:List Claim}(h:plainC A=true)(h':plainC B=true)(hs:SubC A B)(hne:A≠B):A.length<B.length:=by
 rcases Nat.lt_or_ge A.length B.length with g|g;·exact g
 .refine absurd (qm7 h h' fun x=>⟨hs x,fun hx=>?_⟩) hne;cases hd:decide (x∈A)with
  |true=>simp_all
  |false=>have hx':x∉A:=of_decide_eq_false hd;have:=q7l (A:=x::A) (B:=B) (List.nodup_cons.2 ⟨hx',qhr h⟩) (fun y hy=>by
    rcases List.mem_cons.1 hy with e|hy;·subst e;exact hx
    .exact hs y hy);grind
structure Settled(v:Voter):Prop where
 none:∀x∈known v,canB v x=false
 conf:∀y∈v.Accepts,confB (viewV v) v.Node.toNat (q0z (allM v) y)=true->y∈v.Confirms
theorem y2b(p:Message->Bool)(l:List Message)(m m':Message)(h1:m'.Node=m.Node)(h2:p m'=p m):who p (l++[m'])=who p (l++[m]):=by simp only[who,List.foldl_append,List.foldl_cons,List.foldl_nil,h1,h2]
theorem y69(v:Voter)(s:Int)(x:Claim):votes (allM {v with Seq:=s}) x=votes (allM v) x:=y2b _ _ _ _ rfl rfl
theorem qdn(v:Voter)(s:Int)(x:Claim):q0z (allM {v with Seq:=s}) x=q0z (allM v) x:=y2b _ _ _ _ rfl rfl
theorem y5i(v:Voter)(s:Int):known {v with Seq:=s}=known v:=by simp[known,allM,q97,say]
theorem ybi(v:Voter)(s:Int)(x:Claim):canB {v with Seq:=s} x=canB v x:=by unfold canB;rw[y69,qdn];rfl
theorem qy9{v:Voter}(h:Settled v)(s:Int):Settled {v with Seq:=s}:=by
 refine⟨fun x hx=>?_,fun y hy hc=>?_⟩;·rw[y5i]at hx;rw[ybi];exact h.none x hx
 .rw[qdn]at hc;exact h.conf y hy hc
theorem qr1{b u:Voter}(hu:Ready u):Settled (turnV b u):=by obtain⟨s,_,h2,_⟩:=q65 b u;rw[h2];exact qy9 ⟨qu9 hu,fun y hy hc=>(qhs hu).2 (.inr ⟨hy,hc⟩)⟩ s
structure Lay where
 N:Nat
 G:Nat->Prop
 T:Nat->Trust->Prop
 Cl:Claim->Prop
structure Told(P:Lay)(S:List Voter)(m:Message):Prop where
 node:0<=m.Node/\m.Node.toNat<P.N
 ins:uses m.Trust<2^P.N
 cl:∀y,y∈m.Votes\/y∈m.Accepts->P.Cl y
 good:∀a:Nat,P.G a->m.Node=(a:Int)->P.T a m.Trust/\SubC m.Votes (atV S a).Votes/\SubC m.Accepts (atV S a).Accepts/\m.Seq<=(atV S a).Seq/\(m.Seq=(atV S a).Seq->m=say (atV S a))
def WitC(P:Lay)(S:List Voter)(b:Nat)(y:Claim):Prop:=∃U:Nat,U.testBit b=true/\(∀k,U.testBit k=true->k<P.N)/\∀k,U.testBit k=true->P.G k->y∈(atV S k).Accepts/\∃t,P.T k t/\sat U t=true
structure MtB(P:Lay)(q:Nat)(S:List Voter)(b:Nat):Prop where
 valid:q4h (atV S b)=true
 node:(atV S b).Node=(b:Int)tru:P.G b->P.T b (atV S b).Trust
 ins:uses (atV S b).Trust<2^P.N
 seq:(atV S b).Seq<=((q+(atV S b).Accepts.length:Nat):Int)cl:∀y,y∈(atV S b).Votes\/y∈(atV S b).Accepts->P.Cl y
 set:Settled (atV S b)told:∀m∈(atV S b).Heard,Told P S m
 conf:P.G b->∀y∈(atV S b).Confirms,WitC P S b y
structure MtI(P:Lay)(q:Nat)(S:List Voter):Prop where
 len:S.length=P.N
 all:∀b,b<P.N->MtB P q S b
structure Up(P:Lay)(S:List Voter)(b:Nat)(u:Voter):Prop where
 ready:Ready u
 cons:consC u.Votes=true
 node:u.Node=(b:Int)seq:u.Seq=(atV S b).Seq
 votes:SubC (atV S b).Votes u.Votes
 accs:u.Accepts=(atV S b).Accepts
 confs:u.Confirms=(atV S b).Confirms
 tru:P.G b->P.T b u.Trust
 ins:uses u.Trust<2^P.N
 cl:∀y∈u.Votes,P.Cl y
 told:∀m∈u.Heard,Told P S m
theorem qn6{Cl:Claim->Prop}:∀(n:Nat)(v:Voter),(∀m∈allM v,∀y,y∈m.Votes\/y∈m.Accepts->Cl y)->∀y∈(q22 n v).Accepts,Cl y|0,v,h,y,hy=>h (say v) (by simp[allM]) y (.inr hy)|n+1,v,h,y,hy=>by rw[q22]at hy;cases hx:nextV v with|none=>rw[hx]at hy;exact h (say v) (by simp[allM]) y (.inr hy)|some x=>
   rw[hx]at hy;obtain⟨h1,_⟩:=qac hx;have hcx:Cl x:=by have:=(q1i.1 h1).2;unfold q97 at this;grind
   refine qn6 n (withA v x) (fun m hm z hz=>?_) y hy;rcases qgo hm with g|g;·exact h m (by simp[allM];exact .inl g) z hz
   .subst g;rcases hz with hz|hz;·exact h (say v) (by simp[allM]) z (.inl hz)
    .have hz:z∈q18 (v.Accepts++[x]):=hz;rw[q1i,List.mem_append,List.mem_singleton]at hz;rcases hz.2 with g|g;·exact h (say v) (by simp[allM]) z (.inr g)
     simp_all
structure Turn(v w:Voter):Prop where
 node:w.Node=v.Node
 seq:v.Seq<=w.Seq
 votes:SubC v.Votes w.Votes
 accs:SubC v.Accepts w.Accepts
 same:w.Seq=v.Seq->say w=say v
theorem Turn.refl(v:Voter):Turn v v:=⟨rfl,Int.le_refl _,fun _ h=>h,fun _ h=>h,fun _=>rfl⟩
theorem Up.turn{P:Lay}{S:List Voter}{b:Nat}{u:Voter}(h:Up P S b u)(hn:(atV S b).Node=(b:Int)):Turn (atV S b) (turnV (atV S b) u):=by
 obtain⟨s,h1,h2,h3⟩:=q65 (atV S b) u;obtain⟨g1,g2,g3,g4,g5⟩:=q3k u;have hsq:=h.seq;rw[h2];refine⟨by show(q0l u).Node=_;rw[g1,h.node,hn],by grind,fun x hx=>?_,fun x hx=>?_,fun e=>?_⟩;·show x∈(q0l u).Votes;rw[g4];exact h.votes x hx
 .exact qco 200 u h.ready x (by rw[h.accs];omega)
 .have e:s=u.Seq:=by simp_all
  obtain⟨e1,e2,e3⟩:=h3.1 e;simp only[say];rw[g1,g3,g4,<-e1,<-e2,<-e3,h.node,hn,e,hsq]
theorem qrt{P:Lay}{S:List Voter}{b:Nat}{w:Voter}(hb:b<S.length)(hw:Turn (atV S b) w){m:Message}(h:Told P S m):Told P (S.set b w) m:=by
 refine⟨h.node,h.ins,h.cl,fun a ha hm=>?_⟩;obtain⟨q1,q2,q3,q4,q5⟩:=h.good a ha hm;rw[q9h hb];by_cases e:b=a
 .subst e;rw[if_pos rfl];have:=hw.seq;refine⟨q1,fun x hx=>hw.votes x (q2 x hx),fun x hx=>hw.accs x (q3 x hx),by omega,fun he=>?_⟩;have e1:w.Seq=(atV S b).Seq:=by omega
  rw[q5 (by omega),hw.same e1]
 grind
theorem y2i{S:List Voter}{b:Nat}{w:Voter}(hb:b<S.length)(hw:Turn (atV S b) w)(k:Nat){x:Claim}(hx:x∈(atV S k).Accepts):x∈(atV (S.set b w) k).Accepts:=by
 rw[q9h hb];by_cases e:b=k;·subst e;rw[if_pos rfl];exact hw.accs x hx
 simp_all
theorem qmb{S:List Voter}{b:Nat}{w:Voter}(hb:b<S.length)(hw:Turn (atV S b) w)(k:Nat){x:Claim}(hx:x∈(atV S k).Votes):x∈(atV (S.set b w) k).Votes:=by
 rw[q9h hb];by_cases e:b=k;·subst e;rw[if_pos rfl];exact hw.votes x hx
 simp_all
theorem qrz{P:Lay}{S:List Voter}{b:Nat}{w:Voter}(hb:b<S.length)(hw:Turn (atV S b) w){d:Nat}{y:Claim}:WitC P S d y->WitC P (S.set b w) d y:=by rintro⟨U,h1,h2,h3⟩;exact⟨U,h1,h2,fun k hk hg=>⟨y2i hb hw k (h3 k hk hg).1,(h3 k hk hg).2⟩⟩
theorem y2d{P:Lay}(_hN:P.N<=10){q q':Nat}{S:List Voter}(hS:MtI P q S){b:Nat}(hb:b<P.N)(hq:q<=100000){u:Voter}(hu:Up P S b u)(hq':q'=q+1\/q'=q/\u.Trust=(atV S b).Trust/\u.Votes=(atV S b).Votes):MtI P q' (S.set b (turnV (atV S b) u))/\Turn (atV S b) (turnV (atV S b) u):=by
 have hl:=hS.len;have B:=hS.all b hb;obtain⟨hbr,_⟩:=q0y.1 B.valid;have ht:=hu.turn B.node;have hbs:b<S.length:=by omega
 refine⟨⟨by grind,?_⟩,ht⟩;obtain⟨s,h1,h2,h3⟩:=q65 (atV S b) u;obtain⟨g1,g2,g3,g4,g5⟩:=q3k u;have hr:=hu.ready.settle;have hsq:=hu.seq;have hset:=qr1 (b:=atV S b) hu.ready;have hsub:SubC (atV S b).Accepts (q0l u).Accepts:=fun x hx=>qco 200 u hu.ready x (by rw[hu.accs];omega);have hle:=qys hbr.accs hsub;have hal:=hr.alen;have hbq:=B.seq;generalize hw:turnV (atV S b) u=w at*;have eN:w.Node=(b:Int):=by rw[h2];show(q0l u).Node=_;rw[g1,hu.node]
 have eT:w.Trust=u.Trust:=by simp_all
 have eV:w.Votes=u.Votes:=by simp_all
 have eA:w.Accepts=(q0l u).Accepts:=by rw[h2]
 have eC:w.Confirms=(q0l u).Confirms:=by rw[h2]
 have eH:w.Heard=u.Heard:=by simp_all
 have eS:w.Seq=s:=by rw[h2]
 have hseq:s<=((q'+(q0l u).Accepts.length:Nat):Int):=by
  rcases hq' with e|⟨e,e1,e2⟩;·omega
  .rcases h1 with g|g;·omega
   .have hne:(atV S b).Accepts≠(q0l u).Accepts:=fun ea=>by grind
    have:=qs6 hbr.accs hr.accs hsub hne;omega
 have hs1:1<=s:=by have:=hu.ready.seq;omega
 have hs2:s<=1000000:=by rcases hq' with e|⟨e,_,_⟩<;>omega
 have hval:q4h w=true:=by rw[h2];exact q0y.2 ⟨hr.withS hs1 hs2,by show consC (q0l u).Votes=true;rw[g4];exact hu.cons⟩
 have hwr:=(q0y.1 hval).1;have hown:∀m∈w.Heard,Told P (S.set b w) m:=fun m hm=>qrt hbs ht (hu.told m (by simp_all));intro d hd;by_cases e:b=d
 .subst e;have ew:atV (S.set b w) b=w:=by rw[q9h hbs,if_pos rfl]
  refine⟨by simp_all,by simp_all,fun hg=>by rw[ew,eT];exact hu.tru hg,by rw[ew,eT];exact hu.ins,by simp_all,?_,by simp_all,by simp_all,fun hg y hy=>?_⟩
  .rw[ew];rintro y(hy|hy);·exact hu.cl y (by simp_all)
   .rw[eA]at hy;refine qn6 (Cl:=P.Cl) 200 u (fun m hm z hz=>?_) y hy;rcases qgo hm with g|g;·exact(hu.told m g).cl z hz
    .subst g;rcases hz with hz|hz;·exact hu.cl z hz
     .have hz:z∈u.Accepts:=hz;rw[hu.accs]at hz;exact B.cl z (.inr hz)
  .rw[ew,eC]at hy;rcases(qhs hu.ready).1 hy with g|⟨g,hc⟩;·rw[hu.confs]at g;exact qrz hbs ht (B.conf hg y g)
   .have hc':confB (viewV w) w.Node.toNat (q0z (allM w) y)=true:=by
     have:q0z (allM w) y=q0z (allM (q0l u)) y:=by rw[h2];exact qdn _ _ _
     rw[this,h2];exact hc
    have hlt:=q54 hwr.all y;unfold confB at hc';have h0:q1v (viewV w) (q0z (allM w) y)≠0:=nz.2 ⟨_,hc'⟩;have hQ:=q6v (viewV w) hlt h0;have hbn:w.Node.toNat=b:=by omega
    rw[hbn]at hc';have one:∀k,(q1v (viewV w) (q0z (allM w) y)).testBit k=true->∃m∈allM w,y∈m.Accepts/\m.Node.toNat=k:=fun k hk=>by have hl:=q5f (viewV w) hlt k hk;rw[Nat.testBit_and,aT]at hl;exact q5q.1 hl.1
    refine⟨_,hc',fun k hk=>?_,fun k hk hgk=>?_⟩
    .obtain⟨m,hm,_,hmn⟩:=one k hk;rcases qgo hm with g|g;·have:=(hown m g).node;omega
     .subst g;have:(say w).Node=(b:Int):=eN;omega
    .have hs:=hQ.2.2 k hk;obtain⟨m,hm,hma,hmn⟩:=one k hk;rcases qgo hm with g|g;·have hmN:=(hown m g).node;obtain⟨q1,q2,q3,_,_⟩:=(hown m g).good k hgk (by omega);have t:=(qd9 hwr.node hwr.heard (t:=w.Trust) g).2;rw[hmn]at t;have t:tr (viewV w) k=m.Trust:=t;rw[t]at hs;exact⟨q3 y hma,_,q1,hs⟩
     .subst g;have hk':k=b:=hmn.symm.trans hbn;subst hk';have t:=(qjm hwr.node (t:=w.Trust) (l:=w.Heard)).2;have t:tr (viewV w) w.Node.toNat=w.Trust:=t;rw[hbn]at t;rw[t]at hs;rw[ew];exact⟨hma,_,by rw[eT];exact hu.tru hgk,hs⟩
 .have ed:atV (S.set b w) d=atV S d:=by rw[q9h hbs,if_neg e]
  have D:=hS.all d hd;have hqq:q<=q':=by rcases hq' with e|⟨e,_,_⟩<;>omega
  have:=D.seq;refine⟨by rw[ed];exact D.valid,by rw[ed];exact D.node,fun hg=>by rw[ed];exact D.tru hg,by rw[ed];exact D.ins,by grind,by rw[ed];exact D.cl,by rw[ed];exact D.set,fun m hm=>?_,fun hg y hy=>?_⟩;·rw[ed]at hm;exact qrt hbs ht (D.told m hm)
  .rw[ed]at hy;exact qrz hbs ht (D.conf hg y hy)
structure Own(P:Lay)(I:Nat):Prop where
 sub:∀k,I.testBit k=true->P.G k/\k<P.N
 sat:∀k t,I.testBit k=true->P.T k t->sat I t=true
def WitA(P:Lay)(I:Nat)(V:Nat->List Claim)(y:Claim):Prop:=∃U:Nat,(∃a,I.testBit a=true/\U.testBit a=true)/\∀k,I.testBit k=true->U.testBit k=true->y∈V k/\∃t,P.T k t/\sat U t=true
def AcI(P:Lay)(I:Nat)(S:List Voter):Prop:=∀k y,I.testBit k=true->y∈(atV S k).Accepts->WitA P I (fun k=>(atV S k).Votes) y
theorem WitA.mono{P:Lay}{I:Nat}{V W:Nat->List Claim}(h:∀k,SubC (V k) (W k)){y:Claim}:WitA P I V y->WitA P I W y:=by rintro⟨U,h1,h2⟩;exact⟨U,h1,fun k hk hu=>⟨h k y (h2 k hk hu).1,(h2 k hk hu).2⟩⟩
theorem qpp{P:Lay}(hN:P.N<=10){I:Nat}(hO:Own P I){S:List Voter}(hA:AcI P I S){b:Nat}(hb:I.testBit b=true){u:Voter}(hu:Up P S b u):∀(n:Nat)(v:Voter),Ready v->v.Node=u.Node->v.Trust=u.Trust->v.Votes=u.Votes->v.Heard=u.Heard->(∀y∈v.Accepts,WitA P I (fun k=>if k=b then u.Votes else(atV S k).Votes) y)->∀y∈(q22 n v).Accepts,WitA P I (fun k=>if k=b then u.Votes else(atV S k).Votes) y|0,v,_,_,_,_,_,h,y,hy=>h y hy|n+1,v,hr,eN,eT,eV,eH,h,y,hy=>by rw[q22]at hy;cases hx:nextV v with|none=>simp_all|some x=>
   rw[hx]at hy;obtain⟨h1,h2,h3,h4⟩:=qac hx;have hv:=qb6 h1;have hGb:=hO.sub b hb;have hbn:v.Node.toNat=b:=by rw[eN,hu.node,tN]
   have hwx:WitA P I (fun k=>if k=b then u.Votes else(atV S k).Votes) x:=by
    by_cases hex:∃k,I.testBit k=true/\x∈(atV S k).Accepts
    .obtain⟨k,hk,hxk⟩:=hex;refine(hA k x hk hxk).mono fun j z hz=>?_;by_cases e:j=b;·subst e;rw[if_pos rfl];exact hu.votes z hz
     .rw[if_neg e];exact hz
    .have hacc:∀k,I.testBit k=true->(q0z (allM v) x).testBit k=true->False:=fun k hk ha=>by
      obtain⟨m,hm,hxm,hmn⟩:=q5q.1 ha;rcases qgo hm with g|g;·rw[eH]at g;have T:=hu.told m g;have:=T.node;exact hex ⟨k,hk,(T.good k (hO.sub k hk).1 (by omega)).2.2.1 x hxm⟩
      .subst g;exact h2 hxm
     have hown:=qjm hr.node (t:=v.Trust) (l:=v.Heard);rw[hbn]at hown;have hto:tr (viewV v) b=u.Trust:=hown.2.trans eT;unfold accB at h4;rw[Bool.or_eq_true,hbn]at h4;rcases h4 with h4|h4
     .exfalso;unfold blk at h4;rw[aT,Bool.not_eq_true']at h4;have hs:=hO.sat b u.Trust hb (hu.tru hGb.1);have:Sub I (ndiff 1023 (q0z (allM v) x)|||2^b):=fun k hk=>by
       rw[Nat.testBit_or,q0a,Bool.or_eq_true,aT,Bool.not_eq_true'];left;have hk10:k<10:=by have:=(hO.sub k hk).2;omega
       refine⟨?_,?_⟩;·rw[show(1023:Nat)=2^10-1 from rfl,Nat.testBit_two_pow_sub_one];simp;omega
       .cases ha:(q0z (allM v) x).testBit k with|false=>rfl|true=>exact absurd (hacc k hk ha) id
      have:=qk4 this hs;rw[hto,this]at h4;cases h4.2
     .have l1:=qnc hr.all x;have l2:=q54 hr.all x;have hlt:votes (allM v) x|||q0z (allM v) x<1024:=Nat.or_lt_two_pow (n:=10) l1 l2;have h0:q1v (viewV v) (votes (allM v) x|||q0z (allM v) x)≠0:=nz.2 ⟨_,h4⟩;have hQ:=q6v (viewV v) hlt h0;refine⟨_,⟨b,hb,h4⟩,fun k hk hku=>?_⟩;have hs:=hQ.2.2 k hku;have hl:=q5f (viewV v) hlt k hku;rw[Nat.testBit_and,aT,Nat.testBit_or,Bool.or_eq_true]at hl;rcases hl.1 with g|g
      .obtain⟨m,hm,hxm,hmn⟩:=qeb.1 g;rcases qgo hm with g|g;·have g':=g;rw[eH]at g;have T:=hu.told m g;have hne:=(hr.msg m g').2;have:=T.node;obtain⟨q1,q2,_⟩:=T.good k (hO.sub k hk).1 (by omega);have t:=(qd9 hr.node hr.heard (t:=v.Trust) g').2;rw[hmn]at t;have t:tr (viewV v) k=m.Trust:=t;rw[t]at hs;have hkb:k≠b:=fun e=>hne (by rw[eN,hu.node];omega);exact⟨by dsimp only;rw[if_neg hkb];exact q2 x hxm,_,q1,hs⟩
       .subst g;have hk':k=b:=hmn.symm.trans hbn;subst hk';rw[hto]at hs;have hxm:x∈v.Votes:=hxm;rw[eV]at hxm;exact⟨by dsimp only;rw[if_pos rfl];exact hxm,_,hu.tru hGb.1,hs⟩
      .exact absurd (hacc k hk g) id
   refine qpp hN hO hA hb hu n (withA v x) (hr.withA hv h3) eN eT eV eH (fun z hz=>?_) y hy;rcases(qga hr.avc hv).1 hz with g|g;·exact h z g
   simp_all
theorem ybe{P:Lay}(hN:P.N<=10){I:Nat}(hO:Own P I){S:List Voter}(hA:AcI P I S){b:Nat}(hb:b<S.length)(hn:(atV S b).Node=(b:Int)){u:Voter}(hu:Up P S b u):AcI P I (S.set b (turnV (atV S b) u)):=by
 have ht:=hu.turn hn;obtain⟨s,h1,h2,h3⟩:=q65 (atV S b) u;obtain⟨g1,g2,g3,g4,g5⟩:=q3k u;intro k y hk hy;have hmono:∀j,SubC (atV S j).Votes (atV (S.set b (turnV (atV S b) u)) j).Votes:=fun j z hz=>qmb hb ht j hz;rw[q9h hb]at hy;by_cases e:b=k
 .subst e;rw[if_pos rfl,h2]at hy;have hy:y∈(q22 200 u).Accepts:=hy;have:=qpp hN hO hA hk hu 200 u hu.ready rfl rfl rfl rfl (fun z hz=>(hA b z hk (by rw[hu.accs]at hz;exact hz)).mono fun j x hx=>by
   by_cases e:j=b;·subst e;rw[if_pos rfl];exact hu.votes x hx
   .rw[if_neg e];exact hx) y hy;refine this.mono fun j z hz=>?_;rw[q9h hb];grind
 .rw[if_neg e]at hy;exact(hA k y hk hy).mono hmono
section
variable {P : Lay} (hN : P.N <= 10) {q : Nat} {S : List Voter} (hS : MtI P q S) {I : Nat}
include hS
variable (hO : Own P I)
include hO
variable (hC : ∀ a b, P.G a -> a < P.N -> I.testBit b = true -> a ≠ b -> oldB (atV S b).Heard (say (atV S a)) = true)
include hC
theorem qlt{a b:Nat}(ha:P.G a)(haN:a<P.N)(hb:I.testBit b=true)(hab:a≠b):say (atV S a)∈(atV S b).Heard:=by obtain⟨m,hm,hn,hs⟩:=y70.1 (hC a b ha haN hb hab);have A:=hS.all a haN;have hn:m.Node=(a:Int):=hn.trans A.node;obtain⟨_,_,_,q4,q5⟩:=((hS.all b (hO.sub b hb).2).told m hm).good a ha hn;have hs:(atV S a).Seq<=m.Seq:=hs;grind
theorem qv3{a b:Nat}(ha:P.G a)(haN:a<P.N)(hb:I.testBit b=true):say (atV S a)∈allM (atV S b):=by
 by_cases e:a=b;·subst e;simp[allM]
 .exact List.mem_append.2 (.inl (qlt hS hO hC ha haN hb e))
omit hO hC in
theorem qsf{a:Nat}(haN:a<P.N):(say (atV S a)).Node.toNat=a:=by show(atV S a).Node.toNat=a;rw[(hS.all a haN).node,tN]
theorem qk3{b:Nat}(hb:I.testBit b=true):q2g (viewV (atV S b)) I:=by
 have B:=hS.all b (hO.sub b hb).2;obtain⟨hr,_⟩:=q0y.1 B.valid;have key:∀k,I.testBit k=true->(decl (viewV (atV S b))).testBit k=true/\tr (viewV (atV S b)) k=(atV S k).Trust:=fun k hk=>by
  have hkN:=hO.sub k hk;by_cases e:k=b;·subst e;have:=qjm hr.node (t:=(atV S k).Trust) (l:=(atV S k).Heard);rw[B.node,tN]at this;unfold viewV;rw[B.node];omega
  .have hm:=qlt hS hO hC hkN.1 hkN.2 hb e;have:=qd9 hr.node hr.heard (t:=(atV S b).Trust) hm;rw[qsf hS hkN.2]at this;exact this
 refine⟨nz.2 ⟨b,hb⟩,fun k hk=>(key k hk).1,fun k hk=>?_⟩;rw[(key k hk).2];exact hO.sat k _ hk ((hS.all k (hO.sub k hk).2).tru (hO.sub k hk).1)
theorem y5w{y:Claim}(hy:∀k,I.testBit k=true->y∈(atV S k).Accepts){b:Nat}(hb:I.testBit b=true):y∈(atV S b).Confirms:=by have B:=hS.all b (hO.sub b hb).2;obtain⟨hr,_⟩:=q0y.1 B.valid;refine B.set.conf y (hy b hb) ?_;unfold confB;rw[B.node,tN];refine qaj _ (q54 hr.all y) (qk3 hS hO hC hb) (fun k hk=>?_) b hb;exact q5q.2 ⟨_,qv3 hS hO hC (hO.sub k hk).1 (hO.sub k hk).2 hb,hy k hk,qsf hS (hO.sub k hk).2⟩
theorem qzp{x:Claim}(hx:∀k,I.testBit k=true->x∈(atV S k).Votes)(hcl:∀y,P.Cl y->¬Contra x y){b:Nat}(hb:I.testBit b=true):x∈(atV S b).Confirms:=by refine y5w hS hO hC (fun k hk=>?_) hb;have K:=hS.all k (hO.sub k hk).2;obtain⟨hr,_⟩:=q0y.1 K.valid;cases hd:decide (x∈(atV S k).Accepts)with|true=>simp_all|false=>have hvx:vcl x=true:=(q0x.1 hr.votes).1 x (hx k hk);have hkn:x∈known (atV S k):=q1i.2 ⟨hvx,List.mem_flatMap.2 ⟨say (atV S k),by simp[allM],List.mem_append.2 (.inl (hx k hk))⟩⟩;have:=K.set.none x hkn;unfold canB at this;rw[hd,decide_eq_true (fun y hy=>hcl y (K.cl y (.inr hy)))]at this;simp only[Bool.not_false,tA']at this;unfold accB at this;rw[Bool.or_eq_false_iff]at this;have hlt:votes (allM (atV S k)) x|||q0z (allM (atV S k)) x<1024:=Nat.or_lt_two_pow (n:=10) (qnc hr.all x) (q54 hr.all x);have hg:=qaj _ hlt (qk3 hS hO hC hk) (fun j hj=>by rw[Nat.testBit_or,Bool.or_eq_true];exact .inl (qeb.2 ⟨_,qv3 hS hO hC (hO.sub j hj).1 (hO.sub j hj).2 hk,hx j hj,qsf hS (hO.sub j hj).2⟩)) k hk;rw[K.node,tN,hg]at this;simp_all
include hN
end
def insB(t:Trust)(n:Nat):Bool:=decide (uses t<2^n)
def qak(n:Nat)(l:List Message):Bool:=l.all fun x=>decide (x.Node<(n:Int))&&insB x.Trust n
def qa5(n:Nat):Nat->List Voter->Bool|_,[]=>true|k,v::r=>decide (v.Node=(k:Int))&&(q4h v&&(insB v.Trust n&&(qak n v.Heard&&qa5 n (k+1) r)))
abbrev qdy(m:Meeting):Prop:=1<=m.Voters.length/\m.Voters.length<=10/\(0<=m.Ill/\m.Ill<((2^m.Voters.length:Nat):Int))/\(0<=m.Stopped/\m.Stopped<((2^m.Voters.length:Nat):Int))/\m.Ill.toNat&&&m.Stopped.toNat=0
def q7s(m:Meeting):Bool:=decide (qdy m)&&qa5 m.Voters.length 0 m.Voters
structure SmallMt(m:Meeting):Prop where
 len:m.Voters.length<1000000
 voters:∀v∈m.Voters,SmallV v
theorem shlN{n:Nat}(h:n<=10):shlI .i64 1 (n:Int)=((2^n:Nat):Int):=by rw[shl1 (by omega) (by omega),tN]
theorem qja{n:Nat}(h:n<=10):2^n<=1024:=Nat.pow_le_pow_right (by decide) h
theorem qf4{t:Trust}(ht:Small t){n:Nat}(hn:n<=10):z3x t (n:Int)=some (insB t n):=by apply yd6;rw[q0j (by omega),qwt t ht,bS,shlN hn];unfold ltB insB;congr 1;grind
theorem y6m{m:Message}(hm:SmallM m){n:Nat}(hn:n<=10):z6a m (n:Int)=some (!(decide (m.Node<(n:Int))&&insB m.Trust n),(n:Int)):=by
 apply ye7;by_cases h:m.Node<(n:Int);·rw[show leB (n:Int) m.Node=false by unfold leB;simp;omega,cF,qf4 hm.tr hn];grind
 .rw[show leB (n:Int) m.Node=true by unfold leB;simp;omega,cT];grind
theorem qv1(l:List Message)(hl:l.length<1000000)(hm:∀m∈l,SmallM m){n:Nat}(hn:n<=10):∀(suf:List Message)(i:Nat),l.drop i=suf->∃r:Int,z0j l ((l.length:Nat):Int) (i:Int) (n:Int)=some (r,(n:Int))/\leB 0 r=!qak n suf
 |[],i,h=>by refine⟨-1,qzq _ _ _ _ _ ?_,by rfl⟩;rw[q0i h];rfl|y::suf,i,h=>by
  have hlt:=q0g h;obtain⟨r,h1,h2⟩:=qv1 l hl hm hn suf (i+1) (q03 h);have hf:=y6m (hm y (List.mem_of_mem_drop (i:=i) (by simp_all))) hn;by_cases hy:(decide (y.Node<(n:Int))&&insB y.Trust n)=true;·refine⟨r,qzq _ _ _ _ _ ?_,by rw[h2];simp[qak,hy]⟩;rw[q09 h,cT,q07 h,hf,bS,hy,q01 (by omega)];grind
  .refine⟨i,qzq _ _ _ _ _ ?_,by rw[Bool.not_eq_true]at hy;simp[qak,hy,leB]⟩;rw[Bool.not_eq_true]at hy;rw[q09 h,cT,q07 h,hf,bS,hy];rfl
theorem y6x(l:List Message)(hl:l.length<1000000)(hm:∀m∈l,SmallM m){n:Nat}(hn:n<=10):z1h l (n:Int)=some (!qak n l,(n:Int)):=by apply ycr;obtain⟨r,h1,h2⟩:=qv1 l hl hm hn l 0 rfl;have h3:z1l l (n:Int)=_:=ygs _ _ _ h1;simp_all
theorem y04{n:Nat}(hn:n<=10)(l:List Voter)(hl:l.length<1000000)(hv:∀v∈l,SmallV v)(a7:List Voter)(a9 a11:Int):∀(suf:List Voter)(i:Nat),l.drop i=suf->z30 l ((l.length:Nat):Int) (i:Int) a7 a9 a11 (n:Int)=some (qa5 n i suf)
 |[],i,h=>by apply y9z;rw[q0i h];rfl|y::suf,i,h=>by
  have hlt:=q0g h;have hy:=hv y (List.mem_of_mem_drop (i:=i) (by simp_all));have ih:=y04 hn l hl hv a7 a9 a11 suf (i+1) (q03 h);apply y9z;rw[q09 h,cT,q07 h,qbw hy,bS,qf4 hy.tr hn,bS,y6x _ hy.heard hy.msgs hn,bS,q01 (by omega),ih,qa5];by_cases e:y.Node=(i:Int);·rw[e,q0m];cases q4h y<;>cases insB y.Trust n<;>cases qak n y.Heard<;>simp
  .rw[q19 e];grind
theorem qk2{z:Int}{n:Nat}:leB ((2^n:Nat):Int) z=!decide (z<((2^n:Nat):Int)):=by unfold leB;grind
theorem qwo{z:Int}:ltB z 0=!decide (0<=z):=by unfold ltB;grind
theorem qj4{m:Meeting}(h:SmallMt m):z60 m=some (q7s m):=by
 apply yct;unfold q7s;by_cases h1:1<=m.Voters.length;case neg=>rw[q02 (by omega),cT,decide_eq_false (p:=qdy m) (fun g=>h1 g.1)];rfl
 rw[q00 (by omega),cF];by_cases h2:m.Voters.length<=10;case neg=>rw[q02 (by omega),cT,decide_eq_false (p:=qdy m) (fun g=>h2 g.2.1)];rfl
 have l1:z30 m.Voters ((m.Voters.length:Nat):Int) 0 m.Voters m.Stopped m.Ill ((m.Voters.length:Nat):Int)=_:=y04 h2 m.Voters h.len h.voters m.Voters m.Stopped m.Ill m.Voters 0 rfl;have hp:=qja h2;rw[q00 (by omega),cF,q0j (by omega),q0j (by omega),shlN h2,qk2,qk2,qwo,qwo,l1];by_cases h3:0<=m.Ill;case neg=>grind
 by_cases h4:m.Ill<((2^m.Voters.length:Nat):Int);case neg=>grind
 by_cases h5:0<=m.Stopped;case neg=>grind
 by_cases h6:m.Stopped<((2^m.Voters.length:Nat):Int);case neg=>grind
 have ha:andI .i64 m.Ill m.Stopped=((m.Ill.toNat&&&m.Stopped.toNat:Nat):Int):=by have:=q49 (a:=m.Ill.toNat) (b:=m.Stopped.toNat) (by omega) (by omega);grind
 rw[ha,decide_eq_true h3,decide_eq_true h4,decide_eq_true h5,decide_eq_true h6];simp only[nT,cF];by_cases h7:m.Ill.toNat&&&m.Stopped.toNat=0;·rw[decide_eq_true (p:=qdy m) ⟨h1,h2,⟨h3,h4⟩,⟨h5,h6⟩,h7⟩,h7,show(((0:Nat):Nat):Int)=0 from rfl,q0m,cF];rfl
 .rw[q19 (by omega),cT,decide_eq_false (p:=qdy m) (fun g=>h7 g.2.2.2.2)];rfl
def pairK(k:Int):Bool:=decide (k=2\/k=5)
def mGone(m:Meeting)(p:Play):Bool:=if pairK p.Kind=true then has (m.Ill.toNat|||m.Stopped.toNat) p.To else has m.Stopped.toNat p.From
def mAsk(m:Meeting)(p:Play):Int:=if q7s m=false\/p.Kind<1\/5<p.Kind\/p.From<0\/(m.Voters.length:Int)<=p.From then 1 else if pairK p.Kind=true/\(p.To<0\/(m.Voters.length:Int)<=p.To\/p.To=p.From)then 1 else if has m.Ill.toNat p.From≠decide (p.Kind=5)then 13 else if mGone m p=true then 13 else 0
noncomputable def mChg(m:Meeting)(p:Play):Int×Voter×Int:=if p.Kind=1 then(p.From,(voteV (atV m.Voters p.From.toNat) p.Claim).1,(voteV (atV m.Voters p.From.toNat) p.Claim).2)else if p.Kind=2 then(p.To,(hearV (atV m.Voters p.To.toNat) (say (atV m.Voters p.From.toNat))).1,(hearV (atV m.Voters p.To.toNat) (say (atV m.Voters p.From.toNat))).2)else if p.Kind=3 then if verr p.Trust≠0 then(0,atV m.Voters p.From.toNat,verr p.Trust)else if insB p.Trust m.Voters.length=false then(0,atV m.Voters p.From.toNat,5)else(p.From,(declV (atV m.Voters p.From.toNat) p.Trust).1,(declV (atV m.Voters p.From.toNat) p.Trust).2)else if p.Kind=5 then if p.Message.Node≠p.From then(0,atV m.Voters p.From.toNat,8)else if msgB p.Message=false then(0,atV m.Voters p.From.toNat,1)else if insB p.Message.Trust m.Voters.length=false then(0,atV m.Voters p.From.toNat,5)else(p.To,(hearV (atV m.Voters p.To.toNat) p.Message).1,(hearV (atV m.Voters p.To.toNat) p.Message).2)else(p.From,atV m.Voters p.From.toNat,0)
def qsx:Meeting:=⟨[],0,0⟩
noncomputable def stepM(m:Meeting)(p:Play):Meeting×Int:=if mAsk m p≠0 then(qsx,mAsk m p)else if(mChg m p).2.2≠0 then(qsx,(mChg m p).2.2)else(⟨m.Voters.set (mChg m p).1.toNat (mChg m p).2.1,if p.Kind=4 then((m.Stopped.toNat|||2^p.From.toNat:Nat):Int)else m.Stopped,m.Ill⟩,0)
structure SmallP(p:Play):Prop where
 tr:Small p.Trust
 msg:SmallM p.Message
theorem yc4(k:Int):z3r k=some (pairK k):=by
 apply yf0;unfold pairK;by_cases h:k=2;·subst h;rfl
 .rw[q0n h,cF];simp[eqB,h]
theorem q4a{m:Meeting}:q7s m=true↔(1<=m.Voters.length/\m.Voters.length<=10/\(0<=m.Ill/\m.Ill<((2^m.Voters.length:Nat):Int))/\(0<=m.Stopped/\m.Stopped<((2^m.Voters.length:Nat):Int))/\m.Ill.toNat&&&m.Stopped.toNat=0)/\qa5 m.Voters.length 0 m.Voters=true:=by unfold q7s;simp
theorem q4x{n:Nat}:∀{l:List Voter}{k:Nat},qa5 n k l=true↔∀i,i<l.length->(atV l i).Node=((k+i:Nat):Int)/\q4h (atV l i)=true/\uses (atV l i).Trust<2^n/\∀x∈(atV l i).Heard,x.Node<(n:Int)/\uses x.Trust<2^n
 |[],k=>by simp[qa5]|v::r,k=>by
  have ih:=q4x (n:=n) (l:=r) (k:=k+1);have hh:qak n v.Heard=true↔∀x∈v.Heard,x.Node<(n:Int)/\uses x.Trust<2^n:=by unfold qak insB;simp
  rw[qa5,aT,aT,aT,aT,ih,hh,dT',insB,dT'];constructor;·rintro⟨h1,h2,h3,h4,h5⟩i hi;cases i with|zero=>exact⟨h1,h2,h3,h4⟩|succ i=>have:=h5 i (by simp_all);rw[show k+(i+1)=k+1+i by omega];exact this
  .intro h;obtain⟨h1,h2,h3,h4⟩:=h 0 (by simp);refine⟨h1,h2,h3,h4,fun i hi=>?_⟩;have:=h (i+1) (by simp_all);rw[show k+1+i=k+(i+1)by omega];exact this
theorem yc6{m:Meeting}(h:SmallMt m)(p:Play):z6r m p=some (mAsk m p):=by apply ydn;rw[qj4 h,bS];unfold mAsk;cases hv:q7s m with|false=>rfl|true=>
  obtain⟨⟨_,h2,⟨h3,h4⟩,⟨h5,h6⟩,_⟩,_⟩:=q4a.1 hv;have hp:=qja h2;simp only[nT,cF,Bool.true_eq_false,false_or];by_cases k1:p.Kind<1;·rw[q02 k1,if_pos (.inl k1)];rfl
  by_cases k2:5<p.Kind;·rw[q00 (by omega),q02 k2,if_pos (.inr (.inl k2))];rfl
  by_cases k3:p.From<0;·rw[q00 (by omega),q00 (by omega),q02 k3,if_pos (.inr (.inr (.inl k3)))];rfl
  by_cases k4:(m.Voters.length:Int)<=p.From;·rw[q00 (by omega),q00 (by omega),q00 (by omega),show leB ((m.Voters.length:Nat):Int) p.From=true by unfold leB;simp_all,if_pos (.inr (.inr (.inr k4)))];rfl
  rw[q00 (by omega),q00 (by omega),q00 (by omega),show leB ((m.Voters.length:Nat):Int) p.From=false by unfold leB;simp_all,if_neg (by omega),yc4,bS];have e1:z1t m.Ill p.From=some (has m.Ill.toNat p.From):=by have:=q1f (s:=m.Ill.toNat) (by omega) p.From;grind
  have e2:z1t m.Stopped p.From=some (has m.Stopped.toNat p.From):=by have:=q1f (s:=m.Stopped.toNat) (by omega) p.From;grind
  have e3:z1t (orI .i64 m.Ill m.Stopped) p.To=some (has (m.Ill.toNat|||m.Stopped.toNat) p.To):=by have ho:=q42 (a:=m.Ill.toNat) (b:=m.Stopped.toNat) (by omega) (by omega);rw[Int.toNat_of_nonneg h3,Int.toNat_of_nonneg h5]at ho;rw[ho];exact q1f (Nat.or_lt_two_pow (n:=10) (by omega) (by omega)) p.To
  have e4:eqB p.Kind 5=decide (p.Kind=5):=rfl;rw[e1,e2,e3,e4];unfold mGone;simp only[bS,cF];cases hk:pairK p.Kind with|true=>
   simp only[cT,true_and,if_true];by_cases t1:p.To<0;·rw[q02 t1,if_pos (.inl t1)];rfl
   by_cases t2:(m.Voters.length:Int)<=p.To;·rw[q00 (by omega),show leB ((m.Voters.length:Nat):Int) p.To=true by unfold leB;simp;omega,if_pos (.inr (.inl t2))];rfl
   by_cases t3:p.To=p.From;·rw[q00 (by omega),show leB ((m.Voters.length:Nat):Int) p.To=false by unfold leB;simp;omega,t3,q0k,if_pos (.inr (.inr rfl))];rfl
   rw[q00 (by omega),show leB ((m.Voters.length:Nat):Int) p.To=false by unfold leB;simp;omega,q0n t3,if_neg (by omega)];grind|false=>grind
theorem q5e{m:Meeting}{p:Play}(h:mAsk m p=0):q7s m=true/\1<=p.Kind/\p.Kind<=5/\0<=p.From/\p.From<(m.Voters.length:Int)/\(pairK p.Kind=true->0<=p.To/\p.To<(m.Voters.length:Int)/\p.To≠p.From/\has (m.Ill.toNat|||m.Stopped.toNat) p.To=false)/\has m.Ill.toNat p.From=decide (p.Kind=5)/\(pairK p.Kind=false->has m.Stopped.toNat p.From=false):=by
 unfold mAsk at h;split at h;·cases h
 .rename_i h1;split at h;·cases h
  .rename_i h2;split at h;·cases h
   .rename_i h3;split at h;·cases h
    .rename_i h4;have hv:q7s m=true:=by simp_all
     refine⟨hv,by omega,by omega,by omega,by omega,fun hk=>?_,by simp_all,fun hk=>?_⟩;·unfold mGone at h4;simp_all
     .unfold mGone at h4;simp_all
theorem ybj{m:Meeting}(h:SmallMt m){p:Play}(hp:SmallP p)(ha:mAsk m p=0):z67 m p=some (mChg m p):=by
 obtain⟨hv,k1,k2,f1,f2,ht,_,_⟩:=q5e ha;obtain⟨⟨_,h2,_⟩,hvs⟩:=q4a.1 hv;have gf:m.Voters[p.From.toNat]?=some (atV m.Voters p.From.toNat):=q6l (by omega);have vf:=q4x.1 hvs p.From.toNat (by omega);have sf:=h.voters _ (List.mem_of_getElem? gf);have rf:=(q0y.1 vf.2.1).1;apply yej;rw[q0u f1 gf];unfold mChg;by_cases e1:p.Kind=1;·rw[if_pos e1,e1,q0k,cT,y3z sf,bS,q2e]
 rw[if_neg e1,q0n e1,cF];by_cases e2:p.Kind=2;·have ht:=ht (by rw[e2];rfl);have gt:m.Voters[p.To.toNat]?=some (atV m.Voters p.To.toNat):=q6l (by omega);have st:=h.voters _ (List.mem_of_getElem? gt);rw[if_pos e2,e2,q0k,cT,q0u ht.1 gt,y6a (q3b rf.tr).1 sf.votes sf.accs,bS,qr9 st (q2h rf.say),bS,q2e]
 rw[if_neg e2,q0n e2,cF];by_cases e3:p.Kind=3
 .rw[if_pos e3,e3,q0k,cT,q91 _ hp.tr,bS,q2e];by_cases z:verr p.Trust=0;·rw[z,q0m,cF,if_neg (by simp),qf4 hp.tr h2,bS,y0g sf hp.tr,bS,q2e];cases insB p.Trust m.Voters.length<;>simp
  .rw[q19 z,cT,if_pos z]
 rw[if_neg e3,q0n e3,cF];by_cases e5:p.Kind=5
 .have ht:=ht (by rw[e5];rfl);have gt:m.Voters[p.To.toNat]?=some (atV m.Voters p.To.toNat):=q6l (by omega);have st:=h.voters _ (List.mem_of_getElem? gt);rw[if_pos e5,e5,q0k,cT,q0u ht.1 gt,qcx hp.msg,bS,q2e,qf4 hp.msg.tr h2,bS,qr9 st hp.msg,bS,q2e];by_cases z:p.Message.Node=p.From;·rw[z,q0m,cF,if_neg (by simp)];cases msgB p.Message<;>cases insB p.Message.Trust m.Voters.length<;>simp
  .rw[q19 z,cT,if_pos z]
 rw[if_neg e5,q0n e5,cF,q2e]
theorem y4a{m:Meeting}{p:Play}(ha:mAsk m p=0)(h0:(mChg m p).2.2=0):(mChg m p).1=(if pairK p.Kind=true then p.To else p.From):=by
 obtain⟨hv,k1,k2,f1,f2,ht,_,_⟩:=q5e ha;unfold mChg at h0⊢;by_cases e1:p.Kind=1;·rw[if_pos e1,e1];rfl
 rw[if_neg e1]at h0⊢;by_cases e2:p.Kind=2;·rw[if_pos e2,e2];rfl
 rw[if_neg e2]at h0⊢;by_cases e3:p.Kind=3
 .rw[if_pos e3]at h0⊢;by_cases z:verr p.Trust=0
  .rw[if_neg (by simpa using z)]at h0⊢;by_cases y:insB p.Trust m.Voters.length=false;·rw[if_pos y]at h0;cases h0
   .rw[if_neg y,e3];rfl
  .rw[if_pos z]at h0;exact absurd h0 z
 rw[if_neg e3]at h0⊢;by_cases e5:p.Kind=5
 .rw[if_pos e5]at h0⊢;by_cases z:p.Message.Node=p.From
  .rw[if_neg (by simpa using z)]at h0⊢;by_cases y:msgB p.Message=false;·rw[if_pos y]at h0;cases h0
   .rw[if_neg y]at h0⊢;by_cases x:insB p.Message.Trust m.Voters.length=false;·rw[if_pos x]at h0;cases h0
    .rw[if_neg x,e5];rfl
  .rw[if_pos z]at h0;cases h0
 rw[if_neg e5];have:pairK p.Kind=false:=by unfold pairK;simp[e2,e5]
 simp_all
theorem qyt(l:List Voter)(hl:l.length<1000000):z3c l=some ((),l):=yfu _ _ (by rw[q05 (by simp[q04];omega)];rfl)
theorem qw4{m:Meeting}(h:SmallMt m){p:Play}(hp:SmallP p):z5l m p=some (stepM m p):=by
 apply yfl;rw[yc6 h,bS,stepM];by_cases ha:mAsk m p=0;case neg=>rw[q19 ha,cT,if_pos ha];rfl
 rw[ha,q0m,cF,if_neg (by simp),ybj h hp ha,bS];by_cases h0:(mChg m p).2.2=0;case neg=>rw[q19 h0,cT,if_pos h0];rfl
 obtain⟨hv,k1,k2,f1,f2,ht,_,_⟩:=q5e ha;obtain⟨⟨_,h2,_,⟨h5,h6⟩,_⟩,_⟩:=q4a.1 hv;have hpw:=qja h2;have hat:=y4a ha h0;have hx:0<=(mChg m p).1/\(mChg m p).1<(m.Voters.length:Int):=by grind
 have gx:m.Voters[(mChg m p).1.toNat]?=some (atV m.Voters (mChg m p).1.toNat):=q6l (by omega);rw[h0,q0m,cF,if_neg (by simp),qyt _ h.len,bS];dsimp only;rw[q0u hx.1 gx];simp only[nthN,gx,q2e];by_cases e4:p.Kind=4
 .have hf:p.From=((p.From.toNat:Nat):Int):=by omega
  rw[if_pos e4,e4,q0k,cT,q0j f1];have hs:shlI .i64 1 p.From=((2^p.From.toNat:Nat):Int):=by rw[shl1 (by omega) (by omega)]
  have hpf:2^p.From.toNat<=2^10:=Nat.pow_le_pow_right (by decide) (by omega);have ho:orI .i64 m.Stopped ((2^p.From.toNat:Nat):Int)=((m.Stopped.toNat|||2^p.From.toNat:Nat):Int):=by have:=q42 (a:=m.Stopped.toNat) (b:=2^p.From.toNat) (by omega) (by omega);rw[Int.toNat_of_nonneg h5]at this;exact this
  grind
 .rw[if_neg e4,q0n e4,cF]
theorem qqd:∀t:Trust,Fits t->z55 t=some t:=by
 apply Trust.ind;intro t ih ht;have hsz:size t<1073741824:=ht;rw[q3h]at hsz;have l1:∀(suf:List Trust)(i:Nat)(acc:List Trust)(a8:Int)(a10:List Int)(a12:List Trust)(a14:Int)(a16:List Int)(a18:List Trust)(a20:Int)(a22:List Int),t.Inner.drop i=suf->acc.length<=i->z3v t.Inner ((t.Inner.length:Nat):Int) (i:Int) a8 a10 a12 a14 a16 a18 a20 a22 acc=some ⟨a20,a22,acc++suf⟩:=by intro suf;induction suf with|nil=>intro i acc a8 a10 a12 a14 a16 a18 a20 a22 h ha;apply y7r;simp only[q0i h,cF,List.append_nil]|cons y suf ihs=>intro i acc a8 a10 a12 a14 a16 a18 a20 a22 h ha;have hlt:=q0g h;have hy:y∈t.Inner:=List.mem_of_mem_drop (by rw[h];exact List.mem_cons_self);apply y7r;simp only[q09 h,cT,q07 h,ih y hy (ht.mem hy),bS,q01 (show i<4611686018427387904 by omega),Trust.etaM];rw[q05 (by simp[q04];omega),ihs (i+1) (acc++[y]) _ _ _ _ _ _ _ _ (q03 h) (by simp;omega)];simp
 apply yek;have h1:z24 t.Nodes=some ((),t.Nodes):=ya6 _ _ (by rw[q05 (by simp[q04];omega)];rfl);rw[h1,bS,show(0:Int)=((0:Nat):Int)from rfl,l1 t.Inner 0 [] _ _ _ _ _ _ _ _ rfl (Nat.le_refl _)];simp
theorem qt2{m:Message}(ht:Fits m.Trust)(h1:m.Votes.length<1000000)(h2:m.Accepts.length<1000000):z3j m=some m:=by apply ycl;rw[qqd _ ht,bS,q3p _ h1,bS,q3p _ h2,bS,Trust.etaM]
theorem qr5(l:List Message)(hl:l.length<1000000)(hm:∀m∈l,z3j m=some m){a3 a15 a21:List Voter}{a5 a7 a17 a19 a23 a25:Int}(ha:a15.length<1000000){n s t:Int}{ns:List Int}{is:List Trust}{va aa ca:List Claim}{R:Meeting}:∀(suf:List Message)(i:Nat)(acc:List Message),l.drop i=suf->acc.length<=i->z31 a3 a5 (addI .i64 a7 1) (a15++[Voter.mk n s ⟨t,ns,is⟩ va aa ca (acc++suf)]) a17 a19 a21 a23 a25=some R->z3u a3 a5 a7 l ((l.length:Nat):Int) (i:Int) a15 a17 a19 a21 a23 a25 n s t ns is va aa ca acc=some R|[],i,acc,h,hac,hR=>by apply y7v;rw[q0i h,cF,q05 (by simp[q04];omega)];simp_all|m::suf,i,acc,h,hac,hR=>by have hlt:=q0g h;apply y7v;rw[q09 h,cT,q07 h,hm m (List.mem_of_mem_drop (i:=i) (by simp_all)),bS,qjf,q05 (by simp[q04];omega),q01 (by omega)];exact qr5 l hl hm ha suf (i+1) (acc++[m]) (q03 h) (by simp_all) (by simp_all)
structure FreshA(v:Voter):Prop where
 tr:Fits v.Trust
 votes:v.Votes.length<1000000
 accs:v.Accepts.length<1000000
 confs:v.Confirms.length<1000000
 heard:v.Heard.length<1000000
 msgs:∀m∈v.Heard,z3j m=some m
theorem qqm(l:List Voter)(hl:l.length<1000000)(hf:∀v∈l,FreshA v)(a10 a12 a16 a18:Int)(a14:List Voter):∀(suf:List Voter)(i:Nat)(acc:List Voter),l.drop i=suf->acc.length<=i->z31 l ((l.length:Nat):Int) (i:Int) acc a10 a12 a14 a16 a18=some ⟨acc++suf,a10,a12⟩
 |[],i,acc,h,ha=>by apply y7u;rw[q0i h,cF,List.append_nil]|y::suf,i,acc,h,ha=>by
  have hlt:=q0g h;have hy:=hf y (List.mem_of_mem_drop (i:=i) (by simp_all));apply y7u;rw[q09 h,cT,q07 h,qqd _ hy.tr,bS,q3p _ hy.votes,bS,q3p _ hy.accs,bS,q3p _ hy.confs,bS];dsimp only;refine qr5 y.Heard hy.heard hy.msgs (by omega) y.Heard 0 [] rfl (Nat.le_refl _) ?_;have hv:Voter.mk y.Node y.Seq ⟨y.Trust.Threshold,y.Trust.Nodes,y.Trust.Inner⟩ y.Votes y.Accepts y.Confirms ([]++y.Heard)=y:=by simp
  rw[hv,q01 (by omega),qqm l hl hf a10 a12 a16 a18 a14 suf (i+1) (acc++[y]) (q03 h) (by simp_all)];simp
theorem y0k{m:Meeting}(h:m.Voters.length<1000000)(hf:∀v∈m.Voters,FreshA v):z53 m=some m:=by apply yh6;have:=qqm m.Voters h hf m.Stopped m.Ill 0 0 [] m.Voters 0 [] rfl (Nat.le_refl _);exact this
theorem y3t{m:Message}(h:msgB m=true):z3j m=some m:=qt2 (q3b (q2s.1 h).2.2.1).1 (q2h h).votes (q2h h).accs
theorem Ready.freshA{v:Voter}(h:Ready v):FreshA v:=⟨(q3b h.tr).1,by have:=h.vlen;omega,by have:=h.alen;omega,by have:=h.clen;omega,by have:=h.hlen;omega,fun m hm=>y3t (h.msg m hm).1⟩
theorem y6k{S:List Voter}{b:Nat}(h:b<S.length):S.set b (atV S b)=S:=by
 apply List.ext_getElem?;intro i;rw[List.getElem?_set];by_cases e:b=i;·subst e;have:=q6l h;rw[if_pos rfl,if_pos h,this]
 simp_all
def Move(m:Meeting)(p:Play)(v u:Voter):Prop:=(p.Kind=1/\vcl p.Claim=true/\(∀y∈v.Votes++v.Accepts,¬Contra p.Claim y)/\u={v with Votes:=q18 (v.Votes++[p.Claim])})\/(p.Kind=2/\oldB v.Heard (say (atV m.Voters p.From.toNat))=false/\u={v with Heard:=hearL (say (atV m.Voters p.From.toNat)) v.Heard})\/(p.Kind=3/\valid p.Trust=true/\uses p.Trust<2^m.Voters.length/\u={v with Trust:=p.Trust})\/(p.Kind=5/\msgB p.Message=true/\p.Message.Node=p.From/\uses p.Message.Trust<2^m.Voters.length/\oldB v.Heard p.Message=false/\u={v with Heard:=hearL p.Message v.Heard})
def whoP(p:Play):Nat:=(if pairK p.Kind=true then p.To else p.From).toNat
noncomputable def stopP(m:Meeting)(p:Play):Int:=if p.Kind=4 then((m.Stopped.toNat|||2^p.From.toNat:Nat):Int)else m.Stopped
theorem qa8{m:Meeting}{p:Play}(h:(stepM m p).2=0):mAsk m p=0/\∃w,(stepM m p).1=⟨m.Voters.set (whoP p) w,stopP m p,m.Ill⟩/\(w=atV m.Voters (whoP p)/\(p.Kind=1->p.Claim∈w.Votes)/\p.Kind≠2/\p.Kind≠5\/∃u,Move m p (atV m.Voters (whoP p)) u/\w=turnV (atV m.Voters (whoP p)) u):=by
 unfold stepM at h⊢;by_cases ha:mAsk m p=0;case neg=>rw[if_pos ha]at h;exact absurd h ha
 rw[if_neg (by simpa using ha)]at h⊢;by_cases h0:(mChg m p).2.2=0;case neg=>rw[if_pos h0]at h;exact absurd h h0
 rw[if_neg (by simpa using h0)];have hat:=y4a ha h0;refine⟨ha,(mChg m p).2.1,by rw[whoP,<-hat];rfl,?_⟩;obtain⟨hv,k1,k2,f1,f2,ht,_,_⟩:=q5e ha;obtain⟨_,hvs⟩:=q4a.1 hv;unfold whoP;unfold mChg at h0⊢;by_cases e1:p.Kind=1
 .have hk:pairK p.Kind=false:=by rw[e1];rfl
  rw[if_pos e1]at h0⊢;dsimp only at h0⊢;rw[hk,if_neg (by simp)];unfold voteV at h0⊢;split at h0;·cases h0
  .rename_i g1;split at h0;·cases h0
   .rename_i g2;rw[if_neg g1,if_neg g2];split;·rename_i g3;exact .inl ⟨rfl,fun _=>g3,by omega,by omega⟩
    .refine .inr ⟨_,.inl ⟨e1,?_,fun y hy hc=>g2 ⟨y,hy,hc⟩,rfl⟩,rfl⟩;cases hx:vcl p.Claim with|true=>rfl|false=>exact absurd (.inr hx) g1
 rw[if_neg e1]at h0⊢;by_cases e2:p.Kind=2
 .have hk:pairK p.Kind=true:=by rw[e2];rfl
  rw[if_pos e2]at h0⊢;dsimp only at h0⊢;rw[hk,if_pos rfl];obtain⟨g1,g2,g3⟩:=qr0 h0;have vt:=q4x.1 hvs p.To.toNat (by have:=ht hk;omega);rw[qg2 vt.2.1 g1 g2 g3];exact .inr ⟨_,.inr (.inl ⟨e2,g3,rfl⟩),rfl⟩
 rw[if_neg e2]at h0⊢;by_cases e3:p.Kind=3
 .have hk:pairK p.Kind=false:=by rw[e3];rfl
  rw[if_pos e3]at h0⊢;by_cases z:verr p.Trust=0;case neg=>rw[if_pos z]at h0;exact absurd h0 z
  rw[if_neg (by simpa using z)]at h0⊢;by_cases y:insB p.Trust m.Voters.length=false;case pos=>rw[if_pos y]at h0;cases h0
  rw[if_neg y]at h0⊢;dsimp only at h0⊢;rw[hk,if_neg (by simp)];have vf:=q4x.1 hvs p.From.toNat (by omega);have y':uses p.Trust<2^m.Voters.length:=by unfold insB at y;simpa using y
  unfold declV;rw[if_neg (by rw[vf.2.1];simp),if_neg (by simpa using z)];split;·exact .inl ⟨rfl,fun e=>absurd e e1,e2,by omega⟩
  .exact .inr ⟨_,.inr (.inr (.inl ⟨e3,(q66 _).1 z,y',rfl⟩)),rfl⟩
 rw[if_neg e3]at h0⊢;by_cases e5:p.Kind=5
 .have hk:pairK p.Kind=true:=by rw[e5];rfl
  rw[if_pos e5]at h0⊢;by_cases z:p.Message.Node=p.From;case neg=>rw[if_pos z]at h0;cases h0
  rw[if_neg (by simpa using z)]at h0⊢;by_cases y:msgB p.Message=false;case pos=>rw[if_pos y]at h0;cases h0
  rw[if_neg y]at h0⊢;by_cases x:insB p.Message.Trust m.Voters.length=false;case pos=>rw[if_pos x]at h0;cases h0
  rw[if_neg x]at h0⊢;dsimp only at h0⊢;rw[hk,if_pos rfl];obtain⟨g1,g2,g3⟩:=qr0 h0;have vt:=q4x.1 hvs p.To.toNat (by have:=ht hk;omega);have x':uses p.Message.Trust<2^m.Voters.length:=by unfold insB at x;simpa using x
  rw[qg2 vt.2.1 g1 g2 g3];exact .inr ⟨_,.inr (.inr (.inr ⟨e5,g1,z,x',g3,rfl⟩)),rfl⟩
 rw[if_neg e5];have hk:pairK p.Kind=false:=by unfold pairK;simp[e2,e5]
 simp_all
structure PlayOk(P:Lay)(p:Play):Prop where
 vote:p.Kind=1->P.Cl p.Claim
 decl:p.Kind=3->P.T p.From.toNat p.Trust
 lie:p.Kind=5->∀y,y∈p.Message.Votes\/y∈p.Message.Accepts->P.Cl y
theorem qon{P:Lay}{q:Nat}{S:List Voter}(hS:MtI P q S){a:Nat}(ha:a<P.N):Told P S (say (atV S a)):=by
 have A:=hS.all a ha;have hn:(say (atV S a)).Node=(a:Int):=A.node;refine⟨by omega,A.ins,A.cl,fun b hb he=>?_⟩;have:a=b:=by omega
 subst this;exact⟨A.tru hb,fun _ h=>h,fun _ h=>h,Int.le_refl _,fun _=>rfl⟩
theorem qnb{P:Lay}{q:Nat}{S:List Voter}(hS:MtI P q S){b:Nat}(hb:b<P.N){m:Message}(hm:msgB m=true)(hne:m.Node≠(b:Int))(ht:Told P S m):Up P S b {atV S b with Heard:=hearL m (atV S b).Heard}:=by
 have B:=hS.all b hb;obtain⟨hr,hc⟩:=q0y.1 B.valid;refine⟨hr.withH hm (by rw[B.node];omega),hc,B.node,rfl,fun _ h=>h,rfl,rfl,B.tru,B.ins,fun y hy=>B.cl y (.inl hy),fun x hx=>?_⟩;rcases qkq hx with e|e;·simp_all
 .exact B.told x e
theorem ych{P:Lay}{q:Nat}{m:Meeting}(hS:MtI P q m.Voters){p:Play}(hp:PlayOk P p)(hG:∀a:Nat,P.G a->has m.Ill.toNat (a:Int)=false)(ha:mAsk m p=0){u:Voter}(hu:Move m p (atV m.Voters (whoP p)) u):Up P m.Voters (whoP p) u/\whoP p<P.N:=by
 obtain⟨hv,k1,k2,f1,f2,ht,hi,hg⟩:=q5e ha;have hl:=hS.len;have hwN:whoP p<P.N:=by unfold whoP;grind
 refine⟨?_,hwN⟩;have B:=hS.all _ hwN;obtain⟨hr,hc⟩:=q0y.1 B.valid;rcases hu with⟨e,x1,x2,rfl⟩|⟨e,x1,rfl⟩|⟨e,x1,x2,rfl⟩|⟨e,x1,x2,x3,x4,rfl⟩
 .have hmp:=fun y=>qga (y:=y) (q0x.1 hr.votes).1 x1;refine⟨hr.withV p.Claim,?_,B.node,rfl,fun y hy=>(hmp y).2 (.inl hy),rfl,rfl,B.tru,B.ins,fun y hy=>?_,B.told⟩
  .have:consC ((atV m.Voters (whoP p)).Votes++[p.Claim])=true:=by rw[qg7 hc,dT'];exact fun y hy hcc=>x2 y (by simp[hy]) hcc
   rw[q8c]at this⊢;simp_all
  .rcases(hmp y).1 hy with g|g;·exact B.cl y (.inl g)
   .rw[g];exact hp.vote e
 .have hk:pairK p.Kind=true:=by rw[e];rfl
  have h1:=ht hk;have hw:whoP p=p.To.toNat:=by unfold whoP;simp_all
  have A:=hS.all p.From.toNat (by omega);exact qnb hS hwN (q0y.1 A.valid).1.say (by show(atV m.Voters p.From.toNat).Node≠_;rw[A.node];omega) (qon hS (by omega))
 .have hk:pairK p.Kind=false:=by rw[e];rfl
  have hw:whoP p=p.From.toNat:=by unfold whoP;simp_all
  exact⟨hr.withT x1,hc,B.node,rfl,fun _ h=>h,rfl,rfl,fun _=>by rw[hw];exact hp.decl e,by simp_all,fun y hy=>B.cl y (.inl hy),B.told⟩
 .have hk:pairK p.Kind=true:=by rw[e];rfl
  have h1:=ht hk;have hw:whoP p=p.To.toNat:=by unfold whoP;rw[hk];rfl
  refine qnb hS hwN x1 (by omega) ⟨by rw[x2];omega,by rw[<-hl];exact x3,hp.lie e,fun a ha he=>?_⟩;grind
theorem mt_up{P:Lay}{q:Nat}{S:List Voter}(hS:MtI P q S):MtI P (q+1) S:=⟨hS.len,fun b hb=>by have B:=hS.all b hb;have:=B.seq;exact⟨B.valid,B.node,B.tru,B.ins,by omega,B.cl,B.set,B.told,B.conf⟩⟩
theorem y4h{P:Lay}(hN:P.N<=10){q:Nat}(hq:q<=100000){m:Meeting}(hS:MtI P q m.Voters){p:Play}(hp:PlayOk P p)(hG:∀a:Nat,P.G a->has m.Ill.toNat (a:Int)=false)(h:(stepM m p).2=0):MtI P (q+1) (stepM m p).1.Voters/\(∀b,b<P.N->Turn (atV m.Voters b) (atV (stepM m p).1.Voters b))/\∀I,Own P I->AcI P I m.Voters->AcI P I (stepM m p).1.Voters:=by
 obtain⟨ha,w,e,hw⟩:=qa8 h;have hl:=hS.len;rw[e];dsimp only;rcases hw with⟨rfl,_⟩|⟨u,hu,rfl⟩
 .obtain⟨hv,k1,k2,f1,f2,ht,hi,hg⟩:=q5e ha;have hwN:whoP p<m.Voters.length:=by unfold whoP;grind
  rw[y6k hwN];exact⟨mt_up hS,fun b _=>Turn.refl _,fun I _ hA=>hA⟩
 .obtain⟨hU,hwN⟩:=ych hS hp hG ha hu;obtain⟨h1,h2⟩:=y2d hN hS hwN hq hU (.inl rfl);refine⟨h1,fun b hb=>?_,fun I hO hA=>ybe hN hO hA (by omega) (hS.all _ hwN).node hU⟩;rw[q9h (by omega)];by_cases e:whoP p=b;·simp_all
  .rw[if_neg e];exact Turn.refl _
theorem y6d{P:Lay}(hN:P.N<=10)(h1:1<=P.N){q:Nat}{m:Meeting}(hS:MtI P q m.Voters)(hb:(0<=m.Ill/\m.Ill<((2^P.N:Nat):Int))/\(0<=m.Stopped/\m.Stopped<((2^P.N:Nat):Int))/\m.Ill.toNat&&&m.Stopped.toNat=0):q7s m=true:=by have hl:=hS.len;refine q4a.2 ⟨⟨by omega,by omega,by simp_all,by simp_all,hb.2.2⟩,q4x.2 fun i hi=>?_⟩;have B:=hS.all i (by omega);rw[hl];refine⟨by rw[Nat.zero_add];exact B.node,B.valid,B.ins,fun x hx=>?_⟩;have T:=B.told x hx;have:=T.node;exact⟨by omega,T.ins⟩
theorem qwx{P:Lay}(hN:P.N<=10){q:Nat}{S:List Voter}(hS:MtI P q S):(∀v∈S,SmallV v)/\(∀v∈S,FreshA v)/\S.length<=10:=by
 have key:∀v∈S,Ready v:=fun v hv=>by obtain⟨i,hi⟩:=List.getElem?_of_mem hv;have hlt:i<S.length:=(List.getElem?_eq_some_iff.1 hi).1;have:=(q0y.1 (hS.all i (by have:=hS.len;omega)).valid).1;rw[q6l hlt]at hi;simp_all
 exact⟨fun v hv=>(key v hv).small,fun v hv=>(key v hv).freshA,by have:=hS.len;omega⟩
def Sets2(N:Nat)(m:Meeting):Prop:=(0<=m.Ill/\m.Ill<((2^N:Nat):Int))/\(0<=m.Stopped/\m.Stopped<((2^N:Nat):Int))/\m.Ill.toNat&&&m.Stopped.toNat=0
theorem qjy{m:Meeting}{p:Play}(h:(stepM m p).2=0){N:Nat}(hl:m.Voters.length=N)(hs:Sets2 N m):Sets2 N (stepM m p).1/\(stepM m p).1.Ill=m.Ill/\(stepM m p).1.Stopped.toNat=(if p.Kind=4 then m.Stopped.toNat|||2^p.From.toNat else m.Stopped.toNat):=by
 obtain⟨ha,w,e,_⟩:=qa8 h;obtain⟨hv,k1,k2,f1,f2,ht,hi,hg⟩:=q5e ha;obtain⟨⟨_,l10,_⟩,_⟩:=q4a.1 hv;obtain⟨s1,s2,s3⟩:=hs;rw[e];unfold stopP;by_cases e4:p.Kind=4
 .have hk:pairK p.Kind=false:=by rw[e4];rfl
  have hi':m.Ill.toNat.testBit p.From.toNat=false:=by
   have:has m.Ill.toNat p.From=false:=by rw[hi,e4];rfl
   have hf:p.From=((p.From.toNat:Nat):Int):=by omega
   rw[hf,q34 (by omega)]at this;exact this
  simp only[if_pos e4];have h1:m.Stopped.toNat|||2^p.From.toNat<2^N:=Nat.or_lt_two_pow (by omega) (Nat.pow_lt_pow_right (by decide) (by omega));refine⟨⟨s1,⟨by show(0:Int)<=((m.Stopped.toNat|||2^p.From.toNat:Nat):Int);omega,by show((m.Stopped.toNat|||2^p.From.toNat:Nat):Int)<_;omega⟩,?_⟩,by first|trivial|rfl,by first|trivial|rfl⟩;show m.Ill.toNat&&&((m.Stopped.toNat|||2^p.From.toNat:Nat):Int).toNat=0;rw[tN];apply Nat.eq_of_testBit_eq;grind
 .simp only[if_neg e4];exact⟨⟨s1,s2,s3⟩,by simp,by simp⟩
theorem y3v{n:Int}(h1:1<=n)(h2:n<=10){l:List Int}{i:Int}(h:q0t l i):∃t j,z7e n 2 l i=some (t,l,j)/\valid t=true/\q0t l j:=by obtain⟨t,j,g1,g2,_,g4⟩:=qwa h1 h2 1 (by decide) h;grind
structure Gone(v:Voter)(k:Nat):Prop where
 valid:q4h v=true
 seq:v.Seq<=(k:Int)+1
theorem Gone.step{v w:Voter}{k:Nat}(h:Gone v k)(hk:k<1000)(hs:Step v w):Gone w (k+1):=by have:=h.seq;have:=hs.seq;exact⟨hs.ready (by omega),by omega⟩
theorem Gone.up{v:Voter}{k:Nat}(h:Gone v k):Gone v (k+1):=⟨h.valid,by have:=h.seq;omega⟩
theorem qnl{a n:Int}(h0:0<=a)(h:a<n)(hn:n<=1000):0<=remI .i64 (addI .i64 a 1) n/\remI .i64 (addI .i64 a 1) n<n:=by rw[q24 (by omega) (by omega),show remI .i64 (a+1) n=(a+1).tmod n from rfl];exact⟨Int.tmod_nonneg n (by omega),Int.tmod_lt_of_pos _ (by omega)⟩
theorem y01{l:List Int}{i:Int}(h:q0t l i):∃x j,z7y l i=some (x,l,j)/\x.Topic≠5/\q0t l j:=by
 obtain⟨x0,i0,g0,g0',g0'x,g0''⟩:=N_ok (n:=30) (by omega) (by omega) h;by_cases e:x0=29
 .obtain⟨x1,i1,g1,m1,g1'⟩:=qg3 (ps:=[-1,0,7,8]) (by decide) (by decide) g0'';obtain⟨x2,i2,g2,_,g2'⟩:=qg3 (ps:=[-1,0,15,16]) (by decide) (by decide) g1';refine⟨⟨x1,x2⟩,i2,y8l _ _ _ ?_,?_,g2'⟩;·rw[g0,bS];dsimp only;rw[e,q0k,cT,g1,bS];dsimp only;rw[g2];rfl
  grind
 .obtain⟨x1,i1,g1,_,m1,g1'⟩:=N_ok (n:=3) (by omega) (by omega) g0'';obtain⟨x2,i2,g2,_,_,g2'⟩:=N_ok (n:=3) (by omega) (by omega) g1';refine⟨⟨x1,x2⟩,i2,y8l _ _ _ ?_,by show x1≠5;omega,g2'⟩;rw[g0,bS];dsimp only;rw[q0n e,cF,g1,bS];simp_all
theorem qmo{l:List Int}:∀(n:Nat)(acc:List Claim)(i:Int),n+acc.length<=1000->(∀x∈acc,x.Topic≠5)->q0t l i->∃k j,z6b acc (n:Int) l i=some (k,l,j)/\k.length<=n+acc.length/\(∀x∈k,x.Topic≠5)/\q0t l j
 |0,acc,i,ha,hx,h=>⟨acc,i,y82 _ _ _ _ _ (by rfl),by omega,hx,h⟩
 |n+1,acc,i,ha,hx,h=>by obtain⟨x,i1,g1,q1,g1'⟩:=y01 h;obtain⟨k,j,g2,g3,g4,g5⟩:=qmo n (acc++[x]) i1 (by simp;omega) (fun y hy=>by
   rcases List.mem_append.1 hy with hy|hy;·exact hx y hy
   .simp at hy;rw[hy];exact q1) g1';refine⟨k,j,y82 _ _ _ _ _ ?_,by simp at g3;omega,g4,g5⟩;rw[q02 (by omega),cT,g1,bS,q05 (by simp[q04];omega),q2p (by omega) (by omega),show((n+1:Nat):Int)-1=(n:Int)by omega];omega
theorem qy2{l:List Int}{i:Int}(h:q0t l i):∃k j,z81 3 l i=some (k,l,j)/\k.length<=100/\(∀x∈k,x.Topic≠5)/\q0t l j:=by obtain⟨x0,i0,g0,g0',g0'x,g0''⟩:=N_ok (n:=4) (by omega) (by omega) h;obtain⟨m,rfl⟩:∃m:Nat,x0=m:=⟨x0.toNat,by omega⟩;obtain⟨k,j,g1,g2,g3,g4⟩:=qmo (l:=l) m [] i0 (by simp;omega) (fun _ h=>by cases h) g0'';refine⟨k,j,yfx _ _ _ _ ?_,by simp at g2;omega,g3,g4⟩;rw[q24 (by omega) (by omega),show(3:Int)+1=4 from rfl,g0,bS];omega
theorem qhl{m:Int}(h1:1<=m)(h2:m<=10){l:List Int}{i:Int}(h:q0t l i):∃t j,z5y m l i=some (t,l,j)/\valid t=true/\q0t l j:=by
 obtain⟨t,j,g1,g2,g3⟩:=y3v h1 h2 h;have hs:=q20 g2;have e0:valid ⟨1,[0],[]⟩=true:=by rfl
 by_cases a1:40<(size t:Int);·refine⟨_,j,y00 _ _ _ _ ?_,e0,g3⟩;rw[g1,bS];dsimp only;rw[qgk t hs,bS,q02 a1];rfl
 .by_cases a2:3<(depth t:Int);·refine⟨_,j,y00 _ _ _ _ ?_,e0,g3⟩;rw[g1,bS];dsimp only;rw[qgk t hs,bS,q00 (by omega),cF,qbv t hs,bS,q02 a2];rfl
  .refine⟨t,j,y00 _ _ _ _ ?_,g2,g3⟩;rw[g1,bS];dsimp only;rw[qgk t hs,bS,q00 (by omega),cF,qbv t hs,bS,q00 (by omega),cF,Trust.etaM]
structure DrawnP(N:Nat)(d:Bool)(p:Play):Prop where
 small:SmallP p
 vote:p.Kind=1->p.Claim.Topic≠5
 decl:p.Kind=3->d=true/\valid p.Trust=true
 lie:∀y,y∈p.Message.Votes\/y∈p.Message.Accepts->y.Topic≠5
 fr:0<=p.From/\p.From<(N:Int)
def noT:Trust:=⟨0,[],[]⟩
def noM:Message:=⟨0,0,noT,[],[]⟩
theorem q2b:Small noT:=by unfold Small noT;rw[q93];simp[sizes]
theorem qfp:SmallM noM:=⟨q2b,by simp[noM],by simp[noM]⟩
theorem q1z{N:Nat}{d:Bool}{k f t:Int}{c:Claim}{tr:Trust}(htr:Small tr)(h1:k=1->c.Topic≠5)(h3:k=3->d=true/\valid tr=true)(hf:0<=f/\f<(N:Int)):DrawnP N d ⟨k,f,t,c,tr,noM⟩:=⟨⟨htr,qfp⟩,h1,h3,(fun y hy=>by rcases hy with h|h<;>cases h),hf⟩
theorem y03(k:Int):Small ⟨1,[k],[]⟩:=by unfold Small;rw[q93];simp[sizes]
def qs3(N:Nat)(d:Bool)(n:Nat)(l:List Int)(r:Option (List Play×List Int×Int)):Prop:=∃out j,r=some (out,l,j)/\(∀p∈out,DrawnP N d p)/\out.length=n/\q0t l j
theorem qi8{N:Nat}(hN:1<=N)(hN2:N<=10){d:Bool}{l:List Int}{ms:List Member}{n i:Nat}(hi:i<1000){ill:Int}{acc:List Play}(hac:acc.length<1000)(again:∀p j,DrawnP N d p->q0t l j->qs3 N d n l (z0w ill (n:Int) d (acc++[p]) (N:Int) (addI .i64 (i:Int) 1) l j ms)):∀(r k:Nat)(f t j:Int),k+r=N->0<=f/\f<(N:Int)->0<=t/\t<(N:Int)->q0t l j->qs3 N d n l (z2x ill (n:Int) d acc (N:Int) (i:Int) (k:Int) l j ms 5 f t 0 0 0 [] [] 0 0 0 [] [] [] [])
 |0,k,f,t,j,hk,hf,ht,h=>by
  obtain⟨x0,j0,g0,a0,b0,h0⟩:=N_ok (n:=2) (by decide) (by decide) h;obtain⟨x1,j1,g1,a1,b1,h1⟩:=N_ok (n:=2) (by decide) (by decide) h0;obtain⟨x2,j2,g2,a2,b2,h2⟩:=N_ok (n:=3) (by decide) (by decide) h1;have hrem:=qnl ht.1 ht.2 (by omega);have hne:(N:Int)≠0:=by omega
  have mk:∀(T:Int)(A:List Claim),A.length<1000000->(∀y∈A,y.Topic≠5)->DrawnP N d ⟨5,f,T,⟨0,0⟩,⟨0,[],[]⟩,⟨f,mulI .i64 2 (addI .i64 (i:Int) 1),⟨1,[f],[]⟩,[⟨x0,x1⟩],A⟩⟩:=fun T A hA hA5=>⟨⟨q2b,y03 f,by simp,hA⟩,(fun e=>by simp),(fun e=>by cases e),(fun y hy=>by grind),hf⟩;by_cases e2:x2=0
  .obtain⟨x3,j3,g3,l3,q3,h3⟩:=qy2 h2;have g4:=qz3 x3 (by omega);have hl4:=qdd x3;have hq4:∀y∈q18 x3,y.Topic≠5:=fun y hy=>q3 y (q1i.1 hy).2;by_cases e:f=t;·obtain⟨out,j',r1,r2⟩:=again _ j3 (mk (remI .i64 (addI .i64 t 1) (N:Int)) (q18 x3) (by omega) hq4) h3;refine⟨out,j',qmg _ _ _ _ _ _ _ _ _ _ _ _ _ _ _ _ _ _ _ _ _ _ _ _ _ _ ?_,r2⟩;rw[q00 (by omega),cF,g0,bS];dsimp only;rw[g1,bS];dsimp only;rw[g2,bS];dsimp only;rw[e2,q0k,cT,g3,bS];dsimp only;rw[g4,bS,e,q0k,cT,q0j hne,q05 (by simp[q04];omega)];simp_all
   .obtain⟨out,j',r1,r2⟩:=again _ j3 (mk t (q18 x3) (by omega) hq4) h3;refine⟨out,j',qmg _ _ _ _ _ _ _ _ _ _ _ _ _ _ _ _ _ _ _ _ _ _ _ _ _ _ ?_,r2⟩;rw[q00 (by omega),cF,g0,bS];dsimp only;rw[g1,bS];dsimp only;rw[g2,bS];dsimp only;rw[e2,q0k,cT,g3,bS];dsimp only;rw[g4,bS,q0n e,cF,q05 (by simp[q04];omega)];omega
  .have hq:∀y∈[(⟨x0,x1⟩:Claim)],y.Topic≠5:=fun y hy=>by grind
   by_cases e:f=t;·obtain⟨out,j',r1,r2⟩:=again _ j2 (mk (remI .i64 (addI .i64 t 1) (N:Int)) [⟨x0,x1⟩] (by simp) hq) h2;refine⟨out,j',qmg _ _ _ _ _ _ _ _ _ _ _ _ _ _ _ _ _ _ _ _ _ _ _ _ _ _ ?_,r2⟩;rw[q00 (by omega),cF,g0,bS];dsimp only;rw[g1,bS];dsimp only;rw[g2,bS];dsimp only;rw[q0n e2,cF,e,q0k,cT,q0j hne,q05 (by simp[q04];omega)];simp_all
   .obtain⟨out,j',r1,r2⟩:=again _ j2 (mk t [⟨x0,x1⟩] (by simp) hq) h2;refine⟨out,j',qmg _ _ _ _ _ _ _ _ _ _ _ _ _ _ _ _ _ _ _ _ _ _ _ _ _ _ ?_,r2⟩;rw[q00 (by omega),cF,g0,bS];dsimp only;rw[g1,bS];dsimp only;rw[g2,bS];dsimp only;rw[q0n e2,cF,q0n e,cF,q05 (by simp[q04];omega)];omega|r+1,k,f,t,j,hk,hf,ht,h=>by
  have hne:(N:Int)≠0:=by omega
  have hrem:=qnl hf.1 hf.2 (by omega);cases hb:eqB (andI .i64 (shrI .i64 ill f) 1) 0 with|true=>obtain⟨out,j',r1,r2⟩:=qi8 hN hN2 hi hac again r (k+1) (remI .i64 (addI .i64 f 1) (N:Int)) t j (by omega) hrem ht h;refine⟨out,j',qmg _ _ _ _ _ _ _ _ _ _ _ _ _ _ _ _ _ _ _ _ _ _ _ _ _ _ ?_,r2⟩;rw[q02 (by omega),cT,q0j hf.1,hb,cT,q0j hne,q01 (by omega)];omega|false=>obtain⟨out,j',r1,r2⟩:=qi8 hN hN2 hi hac again r (k+1) f t j (by omega) hf ht h;refine⟨out,j',qmg _ _ _ _ _ _ _ _ _ _ _ _ _ _ _ _ _ _ _ _ _ _ _ _ _ _ ?_,r2⟩;rw[q02 (by omega),cT,q0j hf.1,hb,cF,q01 (by omega)];omega
theorem qvs{N:Nat}(hN:1<=N)(hN2:N<=10){d:Bool}{l:List Int}{ms:List Member}{ill:Int}{n:Nat}(hn:n<1000):∀(r i:Nat)(acc:List Play)(j:Int),i+r=n->acc.length=i->(∀p∈acc,DrawnP N d p)->q0t l j->qs3 N d n l (z0w ill (n:Int) d acc (N:Int) (i:Int) l j ms)
 |0,i,acc,j,hi,ha,hD,h=>⟨acc,j,q6x _ _ _ _ _ _ _ _ _ _ (by rw[q00 (by omega)];rfl),hD,by omega,h⟩|r+1,i,acc,j,hi,ha,hD,h=>by
  have hne:(N:Int)≠0:=by omega
  have again:∀p j,DrawnP N d p->q0t l j->qs3 N d n l (z0w ill (n:Int) d (acc++[p]) (N:Int) (addI .i64 (i:Int) 1) l j ms):=fun p j hp ht=>by rw[q01 (by omega)];refine qvs hN hN2 hn r (i+1) (acc++[p]) j (by omega) (by simp[ha]) (fun x hx=>?_) ht;grind
  obtain⟨f,j0,g0,a0,b0,h0⟩:=N_ok (n:=(N:Int)) (by omega) (by omega) h;obtain⟨t0,j1,g1,a1,b1,h1⟩:=N_ok (n:=(N:Int)) (by omega) (by omega) h0;have hrem:=qnl a1 b1 (by omega);obtain⟨k,j2,g2,mk2,h2⟩:=qg3 (ps:=[1,1,1,2,2,2,2,2,2,5,5,3,4]) (by decide) (by decide) h1;have hcap:∀p:Play,acc.length+[p].length<=100000:=fun p=>by grind
  by_cases e:f=t0
  .skip;by_cases e1:k=1;·obtain⟨x3,j3,g3,a3,b3,h3⟩:=N_ok (n:=2) (by decide) (by decide) h2;obtain⟨x4,j4,g4,a4,b4,h4⟩:=N_ok (n:=2) (by decide) (by decide) h3;obtain⟨out,j',r1,r2⟩:=again ⟨1,f,remI .i64 (addI .i64 t0 1) (N:Int),⟨x3,x4⟩,noT,noM⟩ j4 (q1z q2b (fun _=>by show x3≠5;omega) (fun e=>by cases e) ⟨a0,b0⟩) h4;refine⟨out,j',q6x _ _ _ _ _ _ _ _ _ _ ?_,r2⟩;rw[q02 (by omega),cT,g0,bS];dsimp only;rw[g1,bS];dsimp only;rw[show eqB f t0=true by rw[e];exact q0k _,cT,q0j hne,g2,bS];dsimp only;rw[e1,q0k,cT,g3,bS];dsimp only;rw[g4,bS];dsimp only;rw[q05 (by simp[q04];omega)];exact r1
   by_cases e2:k=2;·obtain⟨out,j',r1,r2⟩:=again ⟨2,f,remI .i64 (addI .i64 t0 1) (N:Int),⟨0,0⟩,noT,noM⟩ j2 (q1z q2b (fun e=>by cases e) (fun e=>by cases e) ⟨a0,b0⟩) h2;refine⟨out,j',q6x _ _ _ _ _ _ _ _ _ _ ?_,r2⟩;rw[q02 (by omega),cT,g0,bS];dsimp only;rw[g1,bS];dsimp only;rw[show eqB f t0=true by rw[e];exact q0k _,cT,q0j hne,g2,bS];dsimp only;rw[q0n e1,cF,e2,q0k,cT,q05 (by simp[q04];omega)];exact r1
   by_cases e3:k=3;·cases hd:d with|false=>rw[hd]at again;obtain⟨out,j',r1,r2⟩:=again ⟨2,f,remI .i64 (addI .i64 t0 1) (N:Int),⟨0,0⟩,noT,noM⟩ j2 (q1z q2b (fun e=>by cases e) (fun e=>by cases e) ⟨a0,b0⟩) h2;refine⟨out,j',q6x _ _ _ _ _ _ _ _ _ _ ?_,r2⟩;rw[q02 (by omega),cT,g0,bS];dsimp only;rw[g1,bS];dsimp only;rw[show eqB f t0=true by rw[e];exact q0k _,cT,q0j hne,g2,bS];dsimp only;rw[q0n e1,cF,q0n e2,cF,e3,q0k,cT,Bool.not_false,cT,q05 (by simp[q04];omega)];exact r1|true=>rw[hd]at again;obtain⟨t5,j5,g5,v5,h5⟩:=qhl (m:=(N:Int)) (by omega) (by omega) h2;obtain⟨out,j',r1,r2⟩:=again ⟨3,f,remI .i64 (addI .i64 t0 1) (N:Int),⟨0,0⟩,t5,noM⟩ j5 (q1z (q20 v5) (fun e=>by cases e) (fun _=>⟨rfl,v5⟩) ⟨a0,b0⟩) h5;refine⟨out,j',q6x _ _ _ _ _ _ _ _ _ _ ?_,r2⟩;rw[q02 (by omega),cT,g0,bS];dsimp only;rw[g1,bS];dsimp only;rw[show eqB f t0=true by rw[e];exact q0k _,cT,q0j hne,g2,bS];dsimp only;rw[q0n e1,cF,q0n e2,cF,e3,q0k,cT,nT,cF,g5,bS];dsimp only;rw[Trust.etaM,q05 (by simp[q04];omega)];exact r1
   by_cases e4:k=4
   .obtain⟨x6,j6,g6,a6,b6,h6⟩:=N_ok (n:=4) (by decide) (by decide) h2;by_cases e6:x6=0;·obtain⟨out,j',r1,r2⟩:=again ⟨4,f,remI .i64 (addI .i64 t0 1) (N:Int),⟨0,0⟩,noT,noM⟩ j6 (q1z q2b (fun e=>by cases e) (fun e=>by cases e) ⟨a0,b0⟩) h6;refine⟨out,j',q6x _ _ _ _ _ _ _ _ _ _ ?_,r2⟩;rw[q02 (by omega),cT,g0,bS];dsimp only;rw[g1,bS];dsimp only;rw[show eqB f t0=true by rw[e];exact q0k _,cT,q0j hne,g2,bS];dsimp only;rw[q0n e1,cF,q0n e2,cF,q0n e3,cF,e4,q0k,cT,g6,bS];dsimp only;rw[e6,q0k,cT,q05 (by simp[q04];omega)];exact r1
    .obtain⟨out,j',r1,r2⟩:=again ⟨2,f,remI .i64 (addI .i64 t0 1) (N:Int),⟨0,0⟩,noT,noM⟩ j6 (q1z q2b (fun e=>by cases e) (fun e=>by cases e) ⟨a0,b0⟩) h6;refine⟨out,j',q6x _ _ _ _ _ _ _ _ _ _ ?_,r2⟩;rw[q02 (by omega),cT,g0,bS];dsimp only;rw[g1,bS];dsimp only;rw[show eqB f t0=true by rw[e];exact q0k _,cT,q0j hne,g2,bS];dsimp only;rw[q0n e1,cF,q0n e2,cF,q0n e3,cF,e4,q0k,cT,g6,bS];dsimp only;rw[q0n e6,cF,q05 (by simp[q04];omega)];exact r1
   obtain⟨out,j',r1,r2⟩:=qi8 hN hN2 (i:=i) (by omega) (acc:=acc) (by omega) again N 0 f (remI .i64 (addI .i64 t0 1) (N:Int)) j2 (by omega) ⟨a0,b0⟩ hrem h2;refine⟨out,j',q6x _ _ _ _ _ _ _ _ _ _ ?_,r2⟩;rw[q02 (by omega),cT,g0,bS];dsimp only;rw[g1,bS];dsimp only;rw[show eqB f t0=true by rw[e];exact q0k _,cT,q0j hne,g2,bS];dsimp only;rw[q0n e1,cF,q0n e2,cF,q0n e3,cF,q0n e4,cF];omega
  .skip;by_cases e1:k=1;·obtain⟨x3,j3,g3,a3,b3,h3⟩:=N_ok (n:=2) (by decide) (by decide) h2;obtain⟨x4,j4,g4,a4,b4,h4⟩:=N_ok (n:=2) (by decide) (by decide) h3;obtain⟨out,j',r1,r2⟩:=again ⟨1,f,t0,⟨x3,x4⟩,noT,noM⟩ j4 (q1z q2b (fun _=>by show x3≠5;omega) (fun e=>by cases e) ⟨a0,b0⟩) h4;refine⟨out,j',q6x _ _ _ _ _ _ _ _ _ _ ?_,r2⟩;rw[q02 (by omega),cT,g0,bS];dsimp only;rw[g1,bS];dsimp only;rw[q0n e,cF,g2,bS];dsimp only;rw[e1,q0k,cT,g3,bS];dsimp only;rw[g4,bS];dsimp only;rw[q05 (by simp[q04];omega)];exact r1
   by_cases e2:k=2;·obtain⟨out,j',r1,r2⟩:=again ⟨2,f,t0,⟨0,0⟩,noT,noM⟩ j2 (q1z q2b (fun e=>by cases e) (fun e=>by cases e) ⟨a0,b0⟩) h2;refine⟨out,j',q6x _ _ _ _ _ _ _ _ _ _ ?_,r2⟩;rw[q02 (by omega),cT,g0,bS];dsimp only;rw[g1,bS];dsimp only;rw[q0n e,cF,g2,bS];dsimp only;rw[q0n e1,cF,e2,q0k,cT,q05 (by simp[q04];omega)];exact r1
   by_cases e3:k=3;·cases hd:d with|false=>rw[hd]at again;obtain⟨out,j',r1,r2⟩:=again ⟨2,f,t0,⟨0,0⟩,noT,noM⟩ j2 (q1z q2b (fun e=>by cases e) (fun e=>by cases e) ⟨a0,b0⟩) h2;refine⟨out,j',q6x _ _ _ _ _ _ _ _ _ _ ?_,r2⟩;rw[q02 (by omega),cT,g0,bS];dsimp only;rw[g1,bS];dsimp only;rw[q0n e,cF,g2,bS];dsimp only;rw[q0n e1,cF,q0n e2,cF,e3,q0k,cT,Bool.not_false,cT,q05 (by simp[q04];omega)];exact r1|true=>rw[hd]at again;obtain⟨t5,j5,g5,v5,h5⟩:=qhl (m:=(N:Int)) (by omega) (by omega) h2;obtain⟨out,j',r1,r2⟩:=again ⟨3,f,t0,⟨0,0⟩,t5,noM⟩ j5 (q1z (q20 v5) (fun e=>by cases e) (fun _=>⟨rfl,v5⟩) ⟨a0,b0⟩) h5;refine⟨out,j',q6x _ _ _ _ _ _ _ _ _ _ ?_,r2⟩;rw[q02 (by omega),cT,g0,bS];dsimp only;rw[g1,bS];dsimp only;rw[q0n e,cF,g2,bS];dsimp only;rw[q0n e1,cF,q0n e2,cF,e3,q0k,cT,nT,cF,g5,bS];dsimp only;rw[Trust.etaM,q05 (by simp[q04];omega)];exact r1
   by_cases e4:k=4
   .obtain⟨x6,j6,g6,a6,b6,h6⟩:=N_ok (n:=4) (by decide) (by decide) h2;by_cases e6:x6=0;·obtain⟨out,j',r1,r2⟩:=again ⟨4,f,t0,⟨0,0⟩,noT,noM⟩ j6 (q1z q2b (fun e=>by cases e) (fun e=>by cases e) ⟨a0,b0⟩) h6;refine⟨out,j',q6x _ _ _ _ _ _ _ _ _ _ ?_,r2⟩;rw[q02 (by omega),cT,g0,bS];dsimp only;rw[g1,bS];dsimp only;rw[q0n e,cF,g2,bS];dsimp only;rw[q0n e1,cF,q0n e2,cF,q0n e3,cF,e4,q0k,cT,g6,bS];dsimp only;rw[e6,q0k,cT,q05 (by simp[q04];omega)];exact r1
    .obtain⟨out,j',r1,r2⟩:=again ⟨2,f,t0,⟨0,0⟩,noT,noM⟩ j6 (q1z q2b (fun e=>by cases e) (fun e=>by cases e) ⟨a0,b0⟩) h6;refine⟨out,j',q6x _ _ _ _ _ _ _ _ _ _ ?_,r2⟩;rw[q02 (by omega),cT,g0,bS];dsimp only;rw[g1,bS];dsimp only;rw[q0n e,cF,g2,bS];dsimp only;rw[q0n e1,cF,q0n e2,cF,q0n e3,cF,e4,q0k,cT,g6,bS];dsimp only;rw[q0n e6,cF,q05 (by simp[q04];omega)];exact r1
   obtain⟨out,j',r1,r2⟩:=qi8 hN hN2 (i:=i) (by omega) (acc:=acc) (by omega) again N 0 f (t0) j2 (by omega) ⟨a0,b0⟩ ⟨a1,b1⟩ h2;refine⟨out,j',q6x _ _ _ _ _ _ _ _ _ _ ?_,r2⟩;rw[q02 (by omega),cT,g0,bS];dsimp only;rw[g1,bS];dsimp only;rw[q0n e,cF,g2,bS];dsimp only;rw[q0n e1,cF,q0n e2,cF,q0n e3,cF,q0n e4,cF];omega
theorem y53{N:Nat}(hN:1<=N)(hN2:N<=10){d:Bool}{l:List Int}{c:Config}(hc:c.Members.length=N){ill:Int}{n:Nat}(hn:n<1000){j:Int}(h:q0t l j):qs3 N d n l (z7w c ill (n:Int) d l j):=by obtain⟨out,j',r1,r2⟩:=qvs hN hN2 hn (ms:=c.Members) (ill:=ill) (d:=d) n 0 [] j (by omega) rfl (fun _ h=>by cases h) h;refine⟨out,j',yia _ _ _ _ _ _ _ ?_,r2⟩;simp_all
def qd7(c:Config)(k:Nat):Voter:=⟨(k:Int),1,tr c k,[],[],[],[]⟩
def q5g(c:Config):List Voter:=(List.range c.Members.length).map (qd7 c)
theorem qma(c:Config):(q5g c).length=c.Members.length:=by simp[q5g]
theorem y2l(c:Config){k:Nat}(h:k<c.Members.length):atV (q5g c) k=qd7 c k:=by
 have:=q6l (S:=q5g c) (b:=k) (by rw[qma];exact h);have h2:(q5g c)[k]?=some (qd7 c k):=by simp[q5g,h]
 simp_all
theorem tr_at{c:Config}{i:Nat}{m:Member}(h:c.Members[i]?=some m):tr c i=m.Trust:=by unfold tr;simp_all
theorem y29{N:Nat}{c:Config}(hc:ConfOk N c)(hd:∀m∈c.Members,m.Declared=true){k:Nat}(h:k<c.Members.length):valid (tr c k)=true/\uses (tr c k)<2^c.Members.length:=by
 have hget:c.Members[k]?=some c.Members[k]:=by simp
 have hm:=hc.mem _ (List.getElem_mem h);unfold MemOk at hm;rw[if_pos (hd _ (List.getElem_mem h))]at hm;rw[tr_at hget];exact⟨hm.1,qg9 _ hm.2⟩
theorem qx6{N:Nat}(hN:N<=10){c:Config}(hc:ConfOk N c)(hd:∀m∈c.Members,m.Declared=true)(a0:Int)(a10:List Member)(a12:List Voter)(a14 a16 a20 a22:Int):∀(r k:Nat),k+r=c.Members.length->z2z a0 c.Members ((c.Members.length:Nat):Int) (k:Int) a10 a12 a14 a16 ((List.range k).map (qd7 c)) a20 a22=some (⟨q5g c,a20,a22⟩,0)
 |0,k,h=>by apply y9a;rw[q00 (by omega),cF,show k=c.Members.length by omega];rfl|r+1,k,h=>by
  have hlt:k<c.Members.length:=by omega
  have hl:=hc.le;have hget:c.Members[k]?=some c.Members[k]:=by simp
  have ht:=tr_at hget;obtain⟨hv,hu⟩:=y29 hc hd hlt;have hk:inR (k:Int)=true:=by simp[inR];omega
  apply y9a;rw[q02 (by omega),cT,q0u (y:=c.Members[k]) (by omega) (by simp),hd _ (List.getElem_mem hlt),nT,cF,<-ht,qz8 _ (q20 hv),(ql9 hk hv).1,bS,q2e,q05 (by simp[q04];omega),q01 (by omega)];have:=qx6 hN hc hd a0 a10 a12 a14 a16 a20 a22 r (k+1) (by omega);rw[List.range_succ,List.map_append]at this;exact this
theorem y4t{N:Nat}(hN:N<=10){c:Config}(hc:ConfOk N c)(hd:∀m∈c.Members,m.Declared=true){ill:Nat}(hill:ill<2^c.Members.length):z6o c (ill:Int)=some (⟨q5g c,0,(ill:Int)⟩,0):=by have hl:=hc.le;have hp:=hc.pos;have hpw:=qja (n:=c.Members.length) (by omega);have h0:cerr c=0:=q3a.2 (hc.valid hN);apply yg8;rw[y6e (hc.smallC hN),bS,h0,q0m,cF,q0n (by omega),cF,q00 (by omega),cF,q0j (by omega),shlN (by omega),qk2,decide_eq_true (by omega)];exact qx6 hN hc hd _ _ _ _ _ _ _ c.Members.length 0 (by omega)
theorem qoo(c:Config)(k:Nat):Settled (qd7 c k):=⟨fun x hx=>by simp[known,allM,q97,qd7,say,q1i]at hx,fun y hy=>by cases hy⟩
theorem qus{N:Nat}(hN:N<=10){c:Config}(hc:ConfOk N c)(hd:∀m∈c.Members,m.Declared=true){P:Lay}(hP:P.N=c.Members.length)(hT:∀b,b<P.N->P.G b->P.T b (tr c b)):MtI P 1 (q5g c):=by
 refine⟨by rw[qma,hP],fun b hb=>?_⟩;have hb':b<c.Members.length:=by omega
 have hl:=hc.le;obtain⟨hv,hu⟩:=y29 hc hd hb';have hk:inR (b:Int)=true:=by simp[inR];omega
 rw[show MtB P 1 (q5g c) b=MtB P 1 (q5g c) b from rfl];have e:=y2l c hb';refine⟨by rw[e];exact(ql9 hk hv).2,by rw[e];rfl,fun hg=>by rw[e];exact hT b hb hg,by rw[e,hP];exact hu,by rw[e];show(1:Int)<=_;omega,?_,by rw[e];exact qoo c b,fun m hm=>?_,fun _ y hy=>?_⟩;·rw[e];rintro y(h|h)<;>cases h
 .rw[e]at hm;cases hm
 .rw[e]at hy;cases hy
noncomputable def playM:List Play->Meeting->Meeting×List Int|[],m=>(m,[])|p::r,m=>((playM r (if(stepM m p).2=0 then(stepM m p).1 else m)).1,(stepM m p).2::(playM r (if(stepM m p).2=0 then(stepM m p).1 else m)).2)
def lay0(N:Nat):Lay:=⟨N,fun _=>False,fun _ _=>True,fun _=>True⟩
theorem ok0(N:Nat)(p:Play):PlayOk (lay0 N) p:=⟨fun _=>trivial,fun _=>trivial,fun _ _ _=>trivial⟩
theorem g0(N:Nat)(m:Meeting):∀a:Nat,(lay0 N).G a->has m.Ill.toNat (a:Int)=false:=fun _ h=>h.elim
structure GoodMt(N q:Nat)(m:Meeting):Prop where
 mt:MtI (lay0 N) q m.Voters
 sets:Sets2 N m
theorem GoodMt.small{N q:Nat}(hN:N<=10){m:Meeting}(h:GoodMt N q m):SmallMt m:=by obtain⟨h1,_,h3⟩:=qwx hN h.mt;exact⟨by omega,h1⟩
theorem GoodMt.fresh{N q:Nat}(hN:N<=10){m:Meeting}(h:GoodMt N q m):z53 m=some m:=by obtain⟨_,h2,h3⟩:=qwx hN h.mt;exact y0k (by omega) h2
theorem GoodMt.valid{N q:Nat}(hN:N<=10)(h1:1<=N){m:Meeting}(h:GoodMt N q m):q7s m=true:=y6d (P:=lay0 N) hN h1 h.mt h.sets
theorem GoodMt.len{N q:Nat}{m:Meeting}(h:GoodMt N q m):m.Voters.length=N:=h.mt.len
theorem GoodMt.step{N q:Nat}(hN:N<=10)(hq:q<=100000){m:Meeting}(h:GoodMt N q m){p:Play}(h0:(stepM m p).2=0):GoodMt N (q+1) (stepM m p).1:=⟨(y4h (P:=lay0 N) hN hq h.mt (ok0 N p) (g0 N m) h0).1,(qjy h0 h.len h.sets).1⟩
theorem GoodMt.up{N q:Nat}{m:Meeting}(h:GoodMt N q m):GoodMt N (q+1) m:=⟨mt_up h.mt,h.sets⟩
theorem qsy{N:Nat}(hN:N<=10)(l:List Play)(hl:l.length<=400)(hp:∀p∈l,SmallP p)(a10:List Member)(a12:List Voter)(a14 a16:Int):∀(suf:List Play)(i q:Nat)(acc:List Int)(m:Meeting),l.drop i=suf->acc.length<=i->GoodMt N q m->q+suf.length<=1000->z3w acc l ((l.length:Nat):Int) (i:Int) a10 a12 a14 a16 m.Voters m.Stopped m.Ill=some ((playM suf m).1,acc++(playM suf m).2,0)
 |[],i,q,acc,m,h,ha,hm,hq=>by apply y9n;rw[q0i h,cF,show Meeting.mk m.Voters m.Stopped m.Ill=m from rfl,hm.fresh hN,bS,playM,List.append_nil]|p::suf,i,q,acc,m,h,ha,hm,hq=>by
  have hlt:=q0g h;rw[List.length_cons]at hq;have hps:=hp p (List.mem_of_mem_drop (i:=i) (by simp_all));apply y9n;rw[q09 h,cT,q07 h,show Meeting.mk m.Voters m.Stopped m.Ill=m from rfl,qw4 (hm.small hN) hps,bS,q01 (by omega),playM];by_cases h0:(stepM m p).2=0;·have ih:=qsy hN l hl hp a10 a12 a14 a16 suf (i+1) (q+1) (acc++[(stepM m p).2]) (stepM m p).1 (q03 h) (by simp_all) (hm.step hN (by omega) h0) (by omega);simp only[if_pos h0];rw[show eqB (stepM m p).2 0=true by rw[h0];rfl,cT,q05 (by simp[q04];omega),ih];simp
  .have ih:=qsy hN l hl hp a10 a12 a14 a16 suf (i+1) (q+1) (acc++[(stepM m p).2]) m (q03 h) (by simp_all) hm.up (by omega);simp only[if_neg h0];rw[q0n h0,cF,q05 (by simp[q04];omega),ih];simp
theorem qmh{N:Nat}(hN:N<=10){c:Config}(hc:ConfOk N c)(hd:∀m∈c.Members,m.Declared=true){ill:Nat}(hill:ill<2^c.Members.length):GoodMt c.Members.length 1 ⟨q5g c,0,(ill:Int)⟩:=⟨qus hN hc hd rfl fun _ _ h=>h.elim,⟨by simp,by grind⟩,⟨by simp,by grind⟩,Nat.and_zero _⟩
noncomputable def runM(c:Config)(ill:Nat)(l:List Play):Meeting×List Int:=playM l ⟨q5g c,0,(ill:Int)⟩
theorem y0p{N:Nat}(hN:N<=10){c:Config}(hc:ConfOk N c)(hd:∀m∈c.Members,m.Declared=true){ill:Nat}(hill:ill<2^c.Members.length){l:List Play}(hl:l.length<=400)(hp:∀p∈l,SmallP p):z4g c (ill:Int) l=some ((runM c ill l).1,(runM c ill l).2,0):=by have hle:=hc.le;apply yga;rw[y4t hN hc hd hill,bS];dsimp only;rw[q0m,cF,q00 (by omega),cF];exact qsy (N:=c.Members.length) (by omega) l hl hp _ _ _ _ l 0 1 [] ⟨q5g c,0,(ill:Int)⟩ rfl (Nat.le_refl _) (qmh hN hc hd hill) (by omega)
theorem qxf{K:Nat->Meeting->Prop}:∀(l:List Play),(∀q m p,p∈l->q<=99000->K q m->(stepM m p).2=0->K (q+1) (stepM m p).1)->(∀q m,K q m->K (q+1) m)->∀(q:Nat)(m:Meeting),q+l.length<=99000->K q m->K (q+l.length) (playM l m).1|[],_,_,q,m,_,h=>h|p::r,hs,hu,q,m,hq,h=>by rw[playM,List.length_cons,show q+(r.length+1)=q+1+r.length by omega];rw[List.length_cons]at hq;dsimp only;refine qxf r (fun q m x hx=>hs q m x (by simp[hx])) hu (q+1) _ (by omega) ?_;grind
def sendP(a b:Nat):Play:=⟨2,(a:Int),(b:Int),⟨0,0⟩,noT,noM⟩
theorem quc(a b:Nat):SmallP (sendP a b):=⟨q2b,qfp⟩
noncomputable def sendM(m:Meeting)(a b:Nat):Meeting:=if(stepM m (sendP a b)).2=0 then(stepM m (sendP a b)).1 else m
def tot(l:List Message):Nat:=(l.map fun m=>m.Seq.toNat).sum
def pot(m:Meeting):Nat:=(m.Voters.map fun v=>tot v.Heard).sum
theorem y50:∀(l:List Nat)(i:Nat)(x:Nat),i<l.length->(l.set i x).sum+l.getD i 0=l.sum+x|[],i,x,h=>by cases h|y::l,0,x,_=>by grind|y::l,i+1,x,h=>by have:=y50 l i x (by simpa using h);grind
theorem qxb{m:Message}(h1:1<=m.Seq):∀{l:List Message},oldB l m=false->tot l<tot (hearL m l)
 |[],_=>by simp[hearL,tot];omega|x::r,ho=>by
  rw[qzi,Bool.or_eq_false_iff]at ho;rw[hearL];split;·have:=qxb h1 (l:=r) ho.2;simp only[tot,List.map_cons,List.sum_cons]at this⊢;omega
  .split
   .rename_i hn;have:¬m.Seq<=x.Seq:=by simp_all
    simp only[tot,List.map_cons,List.sum_cons];omega
   .simp only[tot,List.map_cons,List.sum_cons];omega
theorem q87{m:Meeting}{a b:Nat}(h:(stepM m (sendP a b)).2=0):mAsk m (sendP a b)=0/\oldB (atV m.Voters b).Heard (say (atV m.Voters a))=false/\(stepM m (sendP a b)).1=⟨m.Voters.set b (turnV (atV m.Voters b) {atV m.Voters b with Heard:=hearL (say (atV m.Voters a)) (atV m.Voters b).Heard}),m.Stopped,m.Ill⟩/\a<m.Voters.length/\b<m.Voters.length/\a≠b/\m.Ill.toNat.testBit a=false/\(m.Ill.toNat|||m.Stopped.toNat).testBit b=false:=by
 obtain⟨ha,w,e,hw⟩:=qa8 h;obtain⟨hv,_,_,f1,f2,ht,hi,_⟩:=q5e ha;obtain⟨⟨_,l10,_⟩,_⟩:=q4a.1 hv;obtain⟨t1,t2,t3,t4⟩:=ht rfl;have f2:(a:Int)<(m.Voters.length:Int):=f2;have t2:(b:Int)<(m.Voters.length:Int):=t2;have t3:(b:Int)≠(a:Int):=t3;have hwb:whoP (sendP a b)=b:=tN b;have hi:has m.Ill.toNat (a:Int)=false:=hi;have t4:has (m.Ill.toNat|||m.Stopped.toNat) (b:Int)=false:=t4;rw[q34 (by omega)]at hi t4;rw[hwb]at e hw;rcases hw with⟨_,_,h2,_⟩|⟨u,hu,rfl⟩;·exact absurd rfl h2
 .rcases hu with⟨k,_⟩|⟨_,g1,g2⟩|⟨k,_⟩|⟨k,_⟩;·cases k
  .have e1:(sendP a b).From.toNat=a:=tN a;rw[e1]at g1 g2;refine⟨ha,g1,?_,by omega,by omega,by omega,hi,t4⟩;rw[e,g2];rfl
  .cases k
  .cases k
theorem qmj(b u:Voter):(turnV b u).Heard=u.Heard:=by obtain⟨s,_,h2,_⟩:=q65 b u;rw[h2];exact(q3k u).2.2.2.2
theorem qwg{N q:Nat}{m:Meeting}(hm:GoodMt N q m){a b:Nat}(h:(stepM m (sendP a b)).2=0):pot m<pot (stepM m (sendP a b)).1:=by
 obtain⟨_,ho,e,ha,hb,_⟩:=q87 h;rw[e];unfold pot;dsimp only;have hA:=hm.mt.all a (by rw[<-hm.len];exact ha);have h1:=(q0y.1 hA.valid).1.seq.1;have ht:=qxb (m:=say (atV m.Voters a)) h1 ho;rw[List.map_set];have hs:=y50 (m.Voters.map fun v=>tot v.Heard) b (tot (turnV (atV m.Voters b) {atV m.Voters b with Heard:=hearL (say (atV m.Voters a)) (atV m.Voters b).Heard}).Heard) (by simpa using hb);rw[qmj]at hs⊢;have hg:(m.Voters.map fun v=>tot v.Heard).getD b 0=tot (atV m.Voters b).Heard:=by rw[List.getD_eq_getElem?_getD,List.getElem?_map,q6l hb];rfl
 grind
theorem y1s{P:Lay}(hN:P.N<=10){q:Nat}(hq:q<=100000){m:Meeting}(hS:MtI P q m.Voters){a b:Nat}(h:(stepM m (sendP a b)).2=0):MtI P q (stepM m (sendP a b)).1.Voters:=by obtain⟨_,ho,e,ha,hb,hne,_⟩:=q87 h;have hl:=hS.len;have A:=hS.all a (by omega);have hU:=qnb hS (b:=b) (by omega) (q0y.1 A.valid).1.say (by show(atV m.Voters a).Node≠_;rw[A.node];omega) (qon hS (a:=a) (by omega));rw[e];exact(y2d hN hS (by omega) hq hU (.inr ⟨rfl,rfl,rfl⟩)).1
theorem GoodMt.send{N q:Nat}(hN:N<=10)(hq:q<=100000){m:Meeting}(hm:GoodMt N q m){a b:Nat}(h:(stepM m (sendP a b)).2=0):GoodMt N q (stepM m (sendP a b)).1:=⟨y1s (P:=lay0 N) hN hq hm.mt h,(qjy h hm.len hm.sets).1⟩
noncomputable def sends(m:Meeting)(l:List (Nat×Nat)):Meeting:=l.foldl (fun m p=>sendM m p.1 p.2) m
structure SendR(m m':Meeting)(l:List (Nat×Nat)):Prop where
 le:pot m<=pot m'
 stay:pot m'=pot m->m'=m/\∀p∈l,(stepM m (sendP p.1 p.2)).2≠0
theorem q4c{N q:Nat}(hN:N<=10)(hq:q<=100000):∀(l:List (Nat×Nat))(m:Meeting),GoodMt N q m->GoodMt N q (sends m l)/\SendR m (sends m l) l
 |[],m,h=>⟨h,Nat.le_refl _,fun _=>⟨rfl,fun _ h=>by cases h⟩⟩|p::r,m,h=>by
  show GoodMt N q (sends (sendM m p.1 p.2) r)/\SendR m (sends (sendM m p.1 p.2) r) (p::r);unfold sendM;by_cases h0:(stepM m (sendP p.1 p.2)).2=0;·rw[if_pos h0];obtain⟨g1,g2⟩:=q4c hN hq r _ (h.send hN hq h0);have:=qwg h h0;have:=g2.le;exact⟨g1,by omega,fun e=>by omega⟩
  .rw[if_neg h0];obtain⟨g1,g2⟩:=q4c hN hq r m h;refine⟨g1,g2.le,fun e=>⟨(g2.stay e).1,fun x hx=>?_⟩⟩;rcases List.mem_cons.1 hx with e'|hx;·simp_all
   .exact(g2.stay e).2 x hx
theorem qdq{K:Meeting->Prop}(hK:∀m a b,K m->(stepM m (sendP a b)).2=0->K (stepM m (sendP a b)).1):∀(l:List (Nat×Nat))(m:Meeting),K m->K (sends m l)|[],_,h=>h|p::r,m,h=>by show K (sends (sendM m p.1 p.2) r);refine qdq hK r _ ?_;unfold sendM;grind
theorem qrd(m:Meeting)(l k:List (Nat×Nat)):sends m (l++k)=sends (sends m l) k:=List.foldl_append
def q7k(w:List Nat):List (Nat×Nat):=w.flatMap fun a=>w.map fun b=>(a,b)
theorem qit{N q:Nat}(hN:N<=10)(hq:q<=100000)(w:List Nat)(hw:w.length<=10)(a:Nat){a8:List Int}{a10 a12:Int}{a26:List Voter}{a28 a30:Int}{R:Option (Meeting×Bool)}:∀(suf:List Nat)(i:Nat)(m:Meeting)(any:Bool),w.drop i=suf->GoodMt N q m->(∀m' any',m'=sends m (suf.map fun b=>(a,b))->any'=(any||decide (pot m<pot m'))->z33 (w.map Int.ofNat) any' a8 a10 (addI .i64 a12 1) m'.Voters m'.Stopped m'.Ill a26 a28 a30=R)->(∃r,R=some r)->z36 (w.map Int.ofNat) any (a:Int) a8 a10 a12 (w.map Int.ofNat) ((w.length:Nat):Int) (i:Int) m.Voters m.Stopped m.Ill a26 a28 a30=R
 |[],i,m,any,h,hm,hR,⟨r,hr⟩=>by rw[hr];apply y9f;rw[q0i h,cF,hR m any rfl (by simp),hr]|b::suf,i,m,any,h,hm,hR,⟨r,hr⟩=>by
  have hlt:=q0g h;have h':(w.map Int.ofNat).drop i=(b:Int)::suf.map Int.ofNat:=by rw[<-List.map_drop,h];rfl
  have hs:=qw4 (hm.small hN) (quc a b);have hs:z5l (Meeting.mk m.Voters m.Stopped m.Ill) (Play.mk 2 (a:Int) (b:Int) (Claim.mk 0 0) (Trust.mk 0 [] []) (Message.mk 0 0 (Trust.mk 0 [] []) [] []))=some (stepM m (sendP a b)):=hs;rw[hr];apply y9f;rw[q02 (by omega),cT,q07 h',hs,bS,q01 (by omega),<-hr];by_cases h0:(stepM m (sendP a b)).2=0
  .rw[show eqB (stepM m (sendP a b)).2 0=true by rw[h0];rfl,cT];refine qit hN hq w hw a suf (i+1) _ true (q03 h) (hm.send hN hq h0) (fun m' any' e1 e2=>?_) ⟨r,hr⟩;have hp:=qwg hm h0;have hp2:=(q4c hN hq (suf.map fun b=>(a,b)) _ (hm.send hN hq h0)).2.le;refine hR m' any' ?_ ?_;·rw[e1];show _=sends (sendM m a b) _;unfold sendM;rw[if_pos h0]
   grind
  .rw[q0n h0,cF];refine qit hN hq w hw a suf (i+1) m any (q03 h) hm (fun m' any' e1 e2=>hR m' any' ?_ e2) ⟨r,hr⟩;rw[e1];show _=sends (sendM m a b) _;unfold sendM;simp_all
theorem qqb{N q:Nat}(hN:N<=10)(hq:q<=100000)(w:List Nat)(hw:w.length<=10){a18:List Voter}{a20 a22:Int}:∀(suf:List Nat)(i:Nat)(m:Meeting)(any:Bool),w.drop i=suf->GoodMt N q m->z33 (w.map Int.ofNat) any (w.map Int.ofNat) ((w.length:Nat):Int) (i:Int) m.Voters m.Stopped m.Ill a18 a20 a22=some (sends m (suf.flatMap fun a=>w.map fun b=>(a,b)),any||decide (pot m<pot (sends m (suf.flatMap fun a=>w.map fun b=>(a,b)))))
 |[],i,m,any,h,hm=>by apply yam;rw[q0i h,cF];simp[sends]|a::suf,i,m,any,h,hm=>by
  have hlt:=q0g h;have h':(w.map Int.ofNat).drop i=(a:Int)::suf.map Int.ofNat:=by rw[<-List.map_drop,h];rfl
  apply yam;rw[q02 (by omega),cT,q07 h',List.length_map];refine qit hN hq w hw a w 0 m any rfl hm (fun m' any' e1 e2=>?_) ⟨_,rfl⟩;obtain⟨g1,g2⟩:=q4c hN hq (w.map fun b=>(a,b)) m hm;rw[<-e1]at g1 g2;rw[q01 (by omega),qqb hN hq w hw suf (i+1) m' any' (q03 h) g1,List.flatMap_cons,qrd,<-e1];have hp1:=g2.le;have hp2:=(q4c hN hq (suf.flatMap fun a=>w.map fun b=>(a,b)) m' g1).2.le;congr 2;grind
def q1o(N:Nat)(m:Meeting):List Nat:=nodes (2^N-1-m.Ill.toNat)
noncomputable def q6m(w:List Nat)(m:Meeting):Meeting:=sends m (q7k w)
theorem qzz{N q:Nat}(hN:N<=10)(hq:q<=100000){m:Meeting}(hm:GoodMt N q m):z64 m=some (q6m (q1o N m) m,decide (pot m<pot (q6m (q1o N m) m))):=by
 have hl:=hm.len;obtain⟨⟨s1,s2⟩,_⟩:=hm.sets;have hp:=qja hN;have hpos:=Nat.two_pow_pos N;have hw:z5n (subI .i64 (subI .i64 (shlI .i64 1 ((m.Voters.length:Nat):Int)) 1) m.Ill)=some ((q1o N m).map Int.ofNat):=by
  have e1:subI .i64 ((2^N:Nat):Int) 1=((2^N:Nat):Int)-1:=q2p (by omega) (by omega);rw[hl,shlN hN,e1,q2p (by omega) (by omega)];have:((2^N:Nat):Int)-1-m.Ill=((2^N-1-m.Ill.toNat:Nat):Int):=by omega
  rw[this];exact qqf (by omega)
 apply yhq;rw[q0j (by omega),hw,bS];have:=qqb hN hq (q1o N m) (q8a _) (a18:=[]) (a20:=0) (a22:=0) (q1o N m) 0 m false rfl hm;rw[List.length_map];rw[Bool.false_or]at this;exact this
noncomputable def iterM(w:List Nat):Nat->Meeting->Meeting|0,m=>m|n+1,m=>iterM w n (q6m w m)
theorem qp6{w:List Nat}{m:Meeting}(h:q6m w m=m):∀n,iterM w n m=m|0=>rfl|n+1=>by rw[iterM,h];exact qp6 h n
theorem qjn{K:Meeting->Prop}(hK:∀m a b,K m->(stepM m (sendP a b)).2=0->K (stepM m (sendP a b)).1)(w:List Nat):∀(n:Nat)(m:Meeting),K m->K (iterM w n m)|0,_,h=>h|n+1,m,h=>qjn hK w n _ (qdq hK _ m h)
def BdM(B:Nat)(m:Meeting):Prop:=∀v∈m.Voters,∀x∈v.Heard,x.Seq.toNat<=B
theorem y7n{l:List Nat}{B:Nat}(h:∀x∈l,x<=B):l.sum<=l.length*B:=by induction l with|nil=>simp|cons y l ih=>have h1:=h y (by simp);have h2:=ih fun x hx=>h x (by grind);rw[List.sum_cons,List.length_cons,Nat.add_mul];omega
theorem ye3{N q B:Nat}(hN:N<=10){m:Meeting}(hm:GoodMt N q m)(hB:BdM B m):pot m<=10*(10*B):=by
 have h1:pot m<=(m.Voters.map fun v=>tot v.Heard).length*(10*B):=y7n fun x hx=>by
  obtain⟨v,hv,rfl⟩:=List.mem_map.1 hx;have h2:tot v.Heard<=(v.Heard.map fun m=>m.Seq.toNat).length*B:=y7n fun y hy=>by obtain⟨k,hk,rfl⟩:=List.mem_map.1 hy;exact hB v hv k hk
  obtain⟨i,hi⟩:=List.getElem?_of_mem hv;have hlt:i<m.Voters.length:=(List.getElem?_eq_some_iff.1 hi).1;have hr:=(q0y.1 (hm.mt.all i (by rw[<-hm.len];exact hlt)).valid).1;rw[q6l hlt]at hi;cases hi;have:=hr.hlen;rw[List.length_map]at h2;exact Nat.le_trans h2 (Nat.mul_le_mul_right B this)
 have hl:=hm.len;rw[List.length_map]at h1;exact Nat.le_trans h1 (Nat.mul_le_mul_right _ (by omega))
theorem BdM.send{N q B:Nat}(hB0:1000000<=B){m:Meeting}(hm:GoodMt N q m)(hB:BdM B m){a b:Nat}(h:(stepM m (sendP a b)).2=0):BdM B (stepM m (sendP a b)).1:=by
 obtain⟨_,_,e,ha,hb,_⟩:=q87 h;rw[e];intro v hv x hx;dsimp only at hv;rcases List.mem_or_eq_of_mem_set hv with g|g;·exact hB v g x hx
 .rw[g,qmj]at hx;rcases qkq hx with g|g;·have hA:=hm.mt.all a (by rw[<-hm.len];exact ha);have h1:=(q0y.1 hA.valid).1.seq;rw[g];show(atV m.Voters a).Seq.toNat<=B;omega
  .exact hB _ (List.mem_of_getElem? (q6l hb)) x g
theorem ycj(m:Meeting):∃B,1000000<=B/\BdM B m:=by
 have key:∀{l:List Nat}{x:Nat},x∈l->x<=l.sum:=by intro l;induction l with|nil=>simp|cons y l ih=>grind
 refine⟨1000000+pot m,by omega,fun v hv x hx=>?_⟩;have h1:x.Seq.toNat<=tot v.Heard:=key (List.mem_map_of_mem (f:=fun m:Message=>m.Seq.toNat) hx);have h2:tot v.Heard<=pot m:=key (List.mem_map_of_mem (f:=fun v:Voter=>tot v.Heard) hv);omega
theorem qy8{N q B:Nat}(hN:N<=10)(hq:q<=100000)(hB0:1000000<=B){m:Meeting}(hm:GoodMt N q m)(hB:BdM B m)(w:List Nat):GoodMt N q (q6m w m)/\BdM B (q6m w m):=qdq (K:=fun m=>GoodMt N q m/\BdM B m) (fun _m _a _b h h0=>⟨h.1.send hN hq h0,h.2.send hB0 h.1 h0⟩) _ m ⟨hm,hB⟩
theorem qxm{N:Nat}(w:List Nat)(m:Meeting):q1o N (q6m w m)=q1o N m:=qdq (K:=fun x=>q1o N x=q1o N m) (fun x a b h h0=>by rw[<-h];unfold q1o;rw[(q87 h0).2.2.1]) _ m rfl
theorem qwy{N q B:Nat}(hN:N<=10)(hq:q<=100000)(hB0:1000000<=B){a10:List Voter}{a12 a14:Int}:∀(n:Nat)(m:Meeting),GoodMt N q m->BdM B m->10*(10*B)-pot m<n->z3e true m.Voters m.Stopped m.Ill a10 a12 a14=some (iterM (q1o N m) n m,0)/\q6m (q1o N m) (iterM (q1o N m) n m)=iterM (q1o N m) n m
 |0,m,hm,hB,hn=>by omega|n+1,m,hm,hB,hn=>by
  obtain⟨g1,g2⟩:=qy8 hN hq hB0 hm hB (q1o N m);have hR:=(q4c hN hq (q7k (q1o N m)) m hm).2;have hr:z64 (Meeting.mk m.Voters m.Stopped m.Ill)=_:=qzz hN hq hm;have hp:=hR.le;by_cases h:pot m<pot (q6m (q1o N m) m);·have hb:=ye3 hN g1 g2;obtain⟨i1,i2⟩:=qwy hN hq hB0 (a10:=a10) (a12:=a12) (a14:=a14) n (q6m (q1o N m) m) g1 g2 (by omega);rw[qxm]at i1 i2;refine⟨?_,i2⟩;apply y0c;rw[cT,hr,bS,decide_eq_true h];exact i1
  .have e:q6m (q1o N m) m=m:=(hR.stay (by show pot (q6m (q1o N m) m)=pot m;have:pot m<=pot (q6m (q1o N m) m):=hp;omega)).1;rw[qp6 e];refine⟨?_,e⟩;apply y0c;rw[cT,hr,bS,e,decide_eq_false (Nat.lt_irrefl (pot m))];apply y0c;rw[cF,show Meeting.mk m.Voters m.Stopped m.Ill=m from rfl,hm.fresh hN,bS]
def Still(N:Nat)(m:Meeting):Prop:=q6m (q1o N m) m=m
theorem y7i{N q:Nat}(hN:N<=10)(h1:1<=N)(hq:q<=100000){m:Meeting}(hm:GoodMt N q m):∃n,z72 m=some (iterM (q1o N m) n m,0)/\Still N (iterM (q1o N m) n m):=by
 obtain⟨B,hB0,hB⟩:=ycj m;obtain⟨g1,g2⟩:=qwy hN hq hB0 (a10:=[]) (a12:=0) (a14:=0) (10*(10*B)-pot m+1) m hm hB (by omega);refine⟨10*(10*B)-pot m+1,yfk _ _ ?_,?_⟩;·rw[qj4 (hm.small hN),hm.valid hN h1,bS];grind
 .unfold Still;have:q1o N (iterM (q1o N m) (10*(10*B)-pot m+1) m)=q1o N m:=qjn (K:=fun x=>q1o N x=q1o N m) (fun x a b h h0=>by rw[<-h];unfold q1o;rw[(q87 h0).2.2.1]) _ _ m rfl;simp_all
theorem qux{N:Nat}(hN:N<=10){m:Meeting}(hs:Sets2 N m){a:Nat}:a∈q1o N m↔a<N/\m.Ill.toNat.testBit a=false:=by
 obtain⟨⟨s1,s2⟩,_⟩:=hs;have hp:=qja hN;have hsub:m.Ill.toNat<2^N:=by omega
 unfold q1o;rw[q3l];grind
theorem y4w{N q:Nat}(hN:N<=10)(h1:1<=N)(hq:q<=100000){m:Meeting}(hm:GoodMt N q m)(hs:Still N m){a b:Nat}(ha:a<N)(hb:b<N)(hab:a≠b)(hia:m.Ill.toNat.testBit a=false)(hib:(m.Ill.toNat|||m.Stopped.toNat).testBit b=false):oldB (atV m.Voters b).Heard (say (atV m.Voters a))=true:=by
 have hib':=hib;rw[Nat.testBit_or,Bool.or_eq_false_iff]at hib';have wa:=(qux hN hm.sets).2 ⟨ha,hia⟩;have wb:=(qux hN hm.sets).2 ⟨hb,hib'.1⟩;have hR:=(q4c hN hq (q7k (q1o N m)) m hm).2;have hne:=(hR.stay (by show pot (q6m (q1o N m) m)=pot m;rw[hs])).2 (a,b) (List.mem_flatMap.2 ⟨a,wa,List.mem_map.2 ⟨b,wb,rfl⟩⟩);have hne:(stepM m (sendP a b)).2≠0:=hne;have hl:=hm.len;have hv:=hm.valid hN h1;have hask:mAsk m (sendP a b)=0:=by
  unfold mAsk;rw[if_neg,if_neg,if_neg,if_neg];·have:mGone m (sendP a b)=has (m.Ill.toNat|||m.Stopped.toNat) (b:Int):=rfl;rw[this,q34 (by omega),hib];simp
  .show¬(has _ (a:Int)≠false);rw[q34 (by omega),hia];simp
  .rintro⟨_,h⟩;have h:(b:Int)<0\/(m.Voters.length:Int)<=(b:Int)\/(b:Int)=(a:Int):=h;omega
  .rintro(h|h|h|h|h);·simp_all
   .have h:(2:Int)<1:=h;omega
   .have h:(5:Int)<2:=h;omega
   .have h:(a:Int)<0:=h;omega
   .have h:(m.Voters.length:Int)<=(a:Int):=h;omega
 cases ho:oldB (atV m.Voters b).Heard (say (atV m.Voters a))with|true=>rfl|false=>
  exfalso;apply hne;have A:=hm.mt.all a ha;have B:=hm.mt.all b hb;have hh:=qg2 B.valid (q0y.1 A.valid).1.say (by show(atV m.Voters a).Node≠(atV m.Voters b).Node;rw[A.node,B.node];show(a:Int)≠(b:Int);omega) ho;have hc:(mChg m (sendP a b)).2.2=0:=by show(hearV (atV m.Voters ((b:Int)).toNat) (say (atV m.Voters ((a:Int)).toNat))).2=0;rw[tN,tN,hh]
  unfold stepM;simp_all
def c3:Config:=⟨[⟨true,⟨2,[0,1,2],[]⟩⟩,⟨true,⟨2,[0,1,2],[]⟩⟩,⟨true,⟨2,[0,1,2],[]⟩⟩]⟩
def t3:Trust:=⟨2,[0,1,2],[]⟩
def x3:Claim:=⟨0,1⟩
def a0:Voter:=⟨0,1,t3,[],[],[],[]⟩
def b0:Voter:=⟨1,1,t3,[],[],[],[]⟩
def d0:Voter:=⟨2,1,t3,[],[],[],[]⟩
def a1:Voter:=⟨0,2,t3,[x3],[],[],[]⟩
def b1:Voter:=⟨1,2,t3,[x3],[],[],[]⟩
def b2:Voter:=⟨1,3,t3,[x3],[x3],[],[say a1]⟩
def a2:Voter:=⟨0,3,t3,[x3],[x3],[x3],[say b2]⟩
def b3:Voter:=⟨1,3,t3,[x3],[x3],[x3],[say a2]⟩
def p3:List Play:=[⟨1,0,0,x3,noT,noM⟩,⟨1,1,0,x3,noT,noM⟩,⟨2,0,1,⟨0,0⟩,noT,noM⟩,⟨2,1,0,⟨0,0⟩,noT,noM⟩,⟨2,0,1,⟨0,0⟩,noT,noM⟩,⟨2,1,0,⟨0,0⟩,noT,noM⟩]
theorem q7x{b u:Voter}{A C:List Claim}{s:Int}(h1:(q0l u).Accepts=A)(h2:(q0l u).Confirms=C)(hs:(b.Trust=u.Trust/\b.Votes=u.Votes/\b.Accepts=A/\s=u.Seq)\/(¬(b.Trust=u.Trust/\b.Votes=u.Votes/\b.Accepts=A)/\s=u.Seq+1)):turnV b u=⟨u.Node,s,u.Trust,u.Votes,A,C,u.Heard⟩:=by
 obtain⟨g1,g2,g3,g4,g5⟩:=q3k u;have e:q0l u=⟨u.Node,u.Seq,u.Trust,u.Votes,A,C,u.Heard⟩:=by rw[<-g1,<-g2,<-g3,<-g4,<-g5,<-h1,<-h2]
 rw[turnV,e];grind
theorem qki{m:Meeting}{p:Play}{k:Int}{w:Voter}(ha:mAsk m p=0)(hc:mChg m p=(k,w,0))(h4:p.Kind≠4):stepM m p=(⟨m.Voters.set k.toNat w,m.Stopped,m.Ill⟩,0):=by unfold stepM;simp_all
theorem y32{v w:Voter}{x:Claim}(h1:q4h v=true)(h2:vcl x=true)(h3:(v.Votes++v.Accepts)=[])(hw:turnV v {v with Votes:=q18 (v.Votes++[x])}=w):voteV v x=(w,0):=by have h5:v.Votes=[]:=(List.append_eq_nil_iff.1 h3).1;unfold voteV;simp_all
theorem ex1:stepM ⟨[a0,b0,d0],0,4⟩ ⟨1,0,0,x3,noT,noM⟩=(⟨[a1,b0,d0],0,4⟩,0):=by have hv:voteV a0 x3=(a1,0):=y32 (by rfl) (by rfl) rfl (q7x (A:=[]) (C:=[]) (s:=2) (by rfl) (by rfl) (.inr ⟨fun h=>by have:=h.2.1;revert this;decide+kernel,rfl⟩));exact qki (k:=0) (w:=a1) (by rfl) (by show((0:Int),(voteV a0 x3).1,(voteV a0 x3).2)=_;rw[hv]) (by decide)
theorem ex2:stepM ⟨[a1,b0,d0],0,4⟩ ⟨1,1,0,x3,noT,noM⟩=(⟨[a1,b1,d0],0,4⟩,0):=by have hv:voteV b0 x3=(b1,0):=y32 (by rfl) (by rfl) rfl (q7x (A:=[]) (C:=[]) (s:=2) (by rfl) (by rfl) (.inr ⟨fun h=>by have:=h.2.1;revert this;decide+kernel,rfl⟩));exact qki (k:=1) (w:=b1) (by rfl) (by show((1:Int),(voteV b0 x3).1,(voteV b0 x3).2)=_;rw[hv]) (by decide)
theorem ex3:stepM ⟨[a1,b1,d0],0,4⟩ ⟨2,0,1,⟨0,0⟩,noT,noM⟩=(⟨[a1,b2,d0],0,4⟩,0):=by
 have hv:hearV b1 (say a1)=(b2,0):=by rw[qg2 (by rfl) (by rfl) (by decide+kernel) (by rfl),q7x (A:=[x3]) (C:=[]) (s:=3) (by rfl) (by rfl) (.inr ⟨fun h=>by have:=h.2.2;revert this;decide+kernel,rfl⟩)];rfl
 exact qki (k:=1) (w:=b2) (by rfl) (by show((1:Int),(hearV b1 (say a1)).1,(hearV b1 (say a1)).2)=_;rw[hv]) (by decide)
theorem ex4:stepM ⟨[a1,b2,d0],0,4⟩ ⟨2,1,0,⟨0,0⟩,noT,noM⟩=(⟨[a2,b2,d0],0,4⟩,0):=by
 have hv:hearV a1 (say b2)=(a2,0):=by rw[qg2 (by rfl) (by rfl) (by decide+kernel) (by rfl),q7x (A:=[x3]) (C:=[x3]) (s:=3) (by rfl) (by rfl) (.inr ⟨fun h=>by have:=h.2.2;revert this;decide+kernel,rfl⟩)];rfl
 exact qki (k:=0) (w:=a2) (by rfl) (by show((0:Int),(hearV a1 (say b2)).1,(hearV a1 (say b2)).2)=_;rw[hv]) (by decide)
theorem ex5:stepM ⟨[a2,b2,d0],0,4⟩ ⟨2,0,1,⟨0,0⟩,noT,noM⟩=(⟨[a2,b3,d0],0,4⟩,0):=by
 have hv:hearV b2 (say a2)=(b3,0):=by rw[qg2 (by rfl) (by rfl) (by decide+kernel) (by rfl),q7x (b:=b2) (u:={b2 with Heard:=hearL (say a2) b2.Heard}) (A:=[x3]) (C:=[x3]) (s:=3) (by rfl) (by rfl) (.inl ⟨rfl,rfl,rfl,rfl⟩)];rfl
 exact qki (k:=1) (w:=b3) (by rfl) (by show((1:Int),(hearV b2 (say a2)).1,(hearV b2 (say a2)).2)=_;rw[hv]) (by decide)
theorem ex6:stepM ⟨[a2,b3,d0],0,4⟩ ⟨2,1,0,⟨0,0⟩,noT,noM⟩=(qsx,9):=by rfl
theorem yay:playM p3 ⟨[a0,b0,d0],0,4⟩=(⟨[a2,b3,d0],0,4⟩,[0,0,0,0,0,9]):=by simp only[p3,playM,ex1,ex2,ex3,ex4,ex5,ex6,if_true];rfl
theorem yc3:law20_awake=some true:=by
 have hc:ConfOk 3 c3:=(q3a.1 (by decide+kernel)).conf (by decide) (by decide);have hd:∀m∈c3.Members,m.Declared=true:=fun m hm=>by simp[c3]at hm;rw[hm]
 have hr:=y0p (N:=3) (by decide) hc hd (ill:=4) (by decide) (l:=p3) (by decide) (fun p hp=>by simp only[p3,List.mem_cons,List.not_mem_nil,or_false]at hp;rcases hp with rfl|rfl|rfl|rfl|rfl|rfl<;>exact⟨q2b,qfp⟩);have hs:q5g c3=[a0,b0,d0]:=rfl;have he:runM c3 4 p3=(⟨[a2,b3,d0],0,4⟩,[0,0,0,0,0,9]):=by unfold runM;rw[hs];exact yay
 rw[he]at hr;apply law20_awake_le;have h3:law20_three=some c3:=law20_three_le _ rfl;have hr':z4g c3 4 p3=some (⟨[a2,b3,d0],0,4⟩,[0,0,0,0,0,9],0):=hr;rw[h3,bS];show(z4g c3 4 p3).bind _=_;rw[hr',bS];have q1:z4w [x3] x3=some true:=by rw[qo9 _ (by decide)];rfl
 show((z4w [x3] x3).bind fun r=>bif r then(z4w [x3] x3).bind fun z=>some z else some false)=some true;simp_all
structure Kept(v w:Voter):Prop where
 votes:w.Votes=v.Votes
 tr:w.Trust=v.Trust
 accs:SubC v.Accepts w.Accepts
 confs:SubC v.Confirms w.Confirms
theorem Kept.refl(v:Voter):Kept v v:=⟨rfl,rfl,fun _ h=>h,fun _ h=>h⟩
theorem qhm:∀(l k:List Play)(m:Meeting),(playM (l++k) m).1=(playM k (playM l m).1).1|[],k,m=>rfl|p::r,k,m=>by rw[List.cons_append,playM,playM];exact qhm r k _
def layW(c:Config)(G:Nat->Prop)(Cl:Claim->Prop):Lay:=⟨c.Members.length,G,fun k t=>t=tr c k,Cl⟩
theorem y5d(k:Int):has (0:Int).toNat k=false:=by unfold has;simp
structure Idle(c:Config)(gone:Nat)(q:Nat)(m:Meeting):Prop where
 mt:MtI (layW c (fun a=>a<c.Members.length) fun _=>True) q m.Voters
 good:GoodMt c.Members.length q m
 ill:m.Ill=0
 stop:∀k,gone.testBit k=true->m.Stopped.toNat.testBit k=true
 same:∀k,gone.testBit k=true->k<c.Members.length->atV m.Voters k=qd7 c k
theorem Idle.up{c:Config}{gone q:Nat}{m:Meeting}(h:Idle c gone q m):Idle c gone (q+1) m:=⟨mt_up h.mt,h.good.up,h.ill,h.stop,h.same⟩
theorem qr8{c:Config}{n:Nat}(hn:n<=10)(h1:1<=n)(hm:c.Members.length=n){l:List Int}:∀(k s:Nat)(i:Int),k<=100->s<2^n->q0t l i->∃(v:Nat)(j:Int),z6x (n:Int) (s:Int) (k:Int) l i c.Members=some ((v:Int),l,j)/\v<2^n/\q0t l j
 |0,s,i,hk,hs,h=>by
  have hp:=pow10 hn;have hp1:=Nat.two_pow_pos n;obtain⟨v,j,g1,g2,g3,g4⟩:=N_ok (n:=2) (by decide) (by decide) h;have hd:=q7o c;have hr:=q4b c (by omega);have hlt:ndiff (2^n-1) (decl c)<2^n:=q6w.2 fun i hi=>by rw[q0a]at hi;simp_all
  have hv:v=0\/v=1:=by omega
  have key:∀w:Nat,mulI .i64 ((ndiff (2^n-1) (decl c):Nat):Int) v=((w:Nat):Int)->w<2^n->∃(v:Nat)(j:Int),z6x (n:Int) (s:Int) ((0:Nat):Int) l i c.Members=some ((v:Int),l,j)/\v<2^n/\q0t l j:=by intro w hw hwl;refine⟨s|||w,j,?_,Nat.or_lt_two_pow hs hwl,g4⟩;apply y84;rw[q00 (by omega),q0j (by omega),show Config.mk c.Members=c from rfl,hr];simp only[cF,bS];rw[g1];simp only[bS];rw[q70 hn,qd3 (by omega) (by omega),hw,q42 (by omega) (by omega)]
  rcases hv with rfl|rfl;·refine key 0 ?_ hp1;rfl
  .refine key (ndiff (2^n-1) (decl c)) ?_ hlt;show mulI .i64 _ 1=_;unfold mulI;rw[Int.mul_one];exact wrap64 (by omega) (by omega)|k+1,s,i,hk,hs,h=>by have hp:=pow10 hn;obtain⟨v,j,g1,g2,g3,g4⟩:=N_ok (n:=(n:Int)) (by omega) (by omega) h;obtain⟨w,rfl⟩:=Int.eq_ofNat_of_zero_le g2;have hw:2^w<2^n:=Nat.pow_lt_pow_right (by decide) (by omega);obtain⟨v',j',k1,k2,k3⟩:=qr8 hn h1 hm k (s|||2^w) j (by omega) (Nat.or_lt_two_pow hs hw) g4;refine⟨v',j',?_,k2,k3⟩;apply y84;rw[q02 (by omega),g1];simp only[cT,bS];rw[q0j (by omega),shl1 (by omega) (by omega),tN,q42 (by omega) (by omega),q2p (by omega) (by omega)];simp_all
theorem y7j{m:Nat}{c:Config}(hc:ConfOk m c)(hm:m<=10){l:List Int}{i:Int}(h:q0t l i):∃(v:Nat)(j:Int),z87 c l i=some ((v:Int),l,j)/\v<2^c.Members.length/\q0t l j:=by
 have hle:=hc.le;have hpos:=hc.pos;obtain⟨p,j,g1,g2,g3⟩:=qg3 (ps:=[0,1,1,2,3]) (by decide) (by decide) h;have hpn:∃k:Nat,k<=100/\p=(k:Int):=by
  simp at g2;rcases g2 with rfl|rfl|rfl|rfl;·exact⟨0,by decide,rfl⟩
  .exact⟨1,by decide,rfl⟩
  .exact⟨2,by decide,rfl⟩
  .exact⟨3,by decide,rfl⟩
 obtain⟨k,hk,rfl⟩:=hpn;have hp1:=Nat.two_pow_pos c.Members.length;obtain⟨v,j',k1,k2,k3⟩:=qr8 (c:=c) (n:=c.Members.length) (by omega) (by omega) rfl (l:=l) k 0 j hk hp1 g3;refine⟨v,j',?_,k2,k3⟩;apply yfj;simp_all
theorem y7l{N:Nat}{c:Config}(hc:ConfOk N c)(hN:N<=10){ill:Nat}(hill:ill<2^c.Members.length):∀k,(inta c c ill).testBit k=true->k<c.Members.length/\ill.testBit k=false/\q2g c (inta c c ill):=fun k hk=>by have hsub:Sub ill (full c):=qcu.1 hill;have h1:=qvz c c ill k hk;rw[qv7,dT']at h1;refine⟨h1,?_,(qly (PairOk.self hc) hN hsub (nz.2 ⟨k,hk⟩)).2⟩;cases hi:ill.testBit k with|false=>rfl|true=>have:=yca (lo:=c) (hi:=c) hsub k hi;unfold inta at hk;rw[q0a,this]at hk;grind
def x5:Claim:=⟨5,3⟩
def Cl5(y:Claim):Prop:=y.Topic≠5\/y=x5
theorem qn5{y:Claim}(h:Cl5 y):¬Contra x5 y:=by
 rintro⟨h1,h2⟩;rcases h with h|h;·exact h h1.symm
 simp_all
def layG(c:Config)(ill:Nat):Lay:=layW c (fun a=>a<c.Members.length/\ill.testBit a=false) Cl5
structure Vot(c:Config)(ill q:Nat)(V:Nat->Prop)(m:Meeting):Prop where
 mt:MtI (layG c ill) q m.Voters
 good:GoodMt c.Members.length q m
 ill:m.Ill=(ill:Int)stop:m.Stopped=0
 voted:∀k,V k->k<c.Members.length->x5∈(atV m.Voters k).Votes
theorem Vot.up{c:Config}{ill q:Nat}{V:Nat->Prop}{m:Meeting}(h:Vot c ill q V m):Vot c ill (q+1) V m:=⟨mt_up h.mt,h.good.up,h.ill,h.stop,h.voted⟩
structure Pl5(p:Play):Prop where
 k3:p.Kind≠3
 k4:p.Kind≠4
 vote:p.Kind=1->Cl5 p.Claim
 lie:p.Kind=5->∀y,y∈p.Message.Votes\/y∈p.Message.Accepts->Cl5 y
theorem qwh{c:Config}(hN:c.Members.length<=10){ill q:Nat}(hq:q<=99000){V:Nat->Prop}{m:Meeting}(h:Vot c ill q V m){p:Play}(hp:Pl5 p)(h0:(stepM m p).2=0):Vot c ill (q+1) V (stepM m p).1:=by
 have hG:∀a:Nat,(layG c ill).G a->has m.Ill.toNat (a:Int)=false:=fun a ha=>by have ha:a<c.Members.length/\ill.testBit a=false:=ha;rw[h.ill,tN,q34 (by omega)];grind
 have hP:PlayOk (layG c ill) p:=⟨hp.vote,fun e=>absurd e hp.k3,hp.lie⟩;obtain⟨s1,s2,s3⟩:=qjy h0 h.good.len h.good.sets;obtain⟨g1,g2,_⟩:=y4h hN (by omega) h.mt hP hG h0;refine⟨g1,h.good.step hN (by omega) h0,by rw[s2];exact h.ill,?_,fun k hk hkN=>(g2 k hkN).votes _ (h.voted k hk hkN)⟩;obtain⟨_,w,e,_⟩:=qa8 h0;rw[e];unfold stopP;rw[if_neg hp.k4];exact h.stop
theorem y7c{c:Config}(hN:c.Members.length<=10){ill q:Nat}(hq:q<=99000){V:Nat->Prop}(m:Meeting)(a b:Nat)(h:Vot c ill q V m)(h0:(stepM m (sendP a b)).2=0):Vot c ill q V (stepM m (sendP a b)).1:=by have hmt:=y1s (P:=layG c ill) hN (by omega) h.mt h0;have hgd:=h.good.send hN (by omega) h0;obtain⟨_,ho,e,ha,hb,hne,hia,hib⟩:=q87 h0;have A:=h.mt.all a (by rw[<-h.mt.len];omega);have B:=h.mt.all b (by rw[<-h.mt.len];omega);have ht:=(qnb h.mt (b:=b) (by rw[<-h.mt.len];omega) (q0y.1 A.valid).1.say (by show(atV m.Voters a).Node≠_;rw[A.node];omega) (qon h.mt (a:=a) (by rw[<-h.mt.len];omega))).turn B.node;refine⟨hmt,hgd,by rw[e];exact h.ill,by rw[e];exact h.stop,fun k hk hkN=>?_⟩;rw[e];exact qmb hb ht k (h.voted k hk hkN)
def q2w(k:Nat):Play:=⟨1,(k:Int),0,x5,noT,noM⟩
theorem ycb{c:Config}(hN:c.Members.length<=10)(h1:1<=c.Members.length){ill q:Nat}(hq:q<=99000){V:Nat->Prop}{m:Meeting}(h:Vot c ill q V m){k:Nat}(hk:k<c.Members.length)(hki:ill.testBit k=false):Vot c ill (q+1) (fun j=>V j\/j=k) (if(stepM m (q2w k)).2=0 then(stepM m (q2w k)).1 else m):=by
 have hl:=h.good.len;have hv:=h.good.valid hN h1;have K:=h.mt.all k hk;have hvx:vcl x5=true:=by rfl
 have hask:mAsk m (q2w k)=0:=by
  unfold mAsk;rw[if_neg,if_neg,if_neg,if_neg];·have:mGone m (q2w k)=has m.Stopped.toNat (k:Int):=rfl;rw[this,h.stop,y5d];simp
  .show¬(has m.Ill.toNat (k:Int)≠false);rw[h.ill,tN,q34 (by omega),hki];simp
  .rintro⟨g,_⟩;cases g
  .rintro(g|g|g|g|g);·simp_all
   .have g:(1:Int)<1:=g;omega
   .have g:(5:Int)<1:=g;omega
   .have g:(k:Int)<0:=g;omega
   .have g:(m.Voters.length:Int)<=(k:Int):=g;omega
 have hvote:(voteV (atV m.Voters k) x5).2=0:=by
  unfold voteV;rw[if_neg (by rw[K.valid,hvx];simp),if_neg];·split<;>rfl
  .rintro⟨y,hy,hc⟩;exact qn5 (K.cl y (List.mem_append.1 hy)) hc
 have hc:(mChg m (q2w k)).2.2=0:=by show(voteV (atV m.Voters ((k:Int)).toNat) x5).2=0;simp_all
 have h0:(stepM m (q2w k)).2=0:=by unfold stepM;simp_all
 rw[if_pos h0];have hpl:Pl5 (q2w k):=⟨by show(1:Int)≠3;decide,by show(1:Int)≠4;decide,fun _=>.inr rfl,(fun e=>by cases e)⟩;obtain⟨g1,g2,g3,g4,g5⟩:=qwh hN hq h hpl h0;refine⟨g1,g2,g3,g4,fun j hj hjN=>?_⟩;rcases hj with hj|rfl;·simp_all
 .obtain⟨_,w,e,hw⟩:=qa8 h0;have hwk:whoP (q2w j)=j:=tN j;rw[hwk]at e hw;rw[e];dsimp only;rw[q9h (by omega),if_pos rfl];rcases hw with⟨_,g,_⟩|⟨u,hu,rfl⟩;·exact g rfl
  .rcases hu with⟨_,z1,_,rfl⟩|⟨e,_⟩|⟨e,_⟩|⟨e,_⟩;·obtain⟨s,_,e2,_⟩:=q65 (atV m.Voters j) {atV m.Voters j with Votes:=q18 ((atV m.Voters j).Votes++[(q2w j).Claim])};rw[e2];show x5∈(q0l _).Votes;rw[(q3k _).2.2.2.1];exact q1i.2 ⟨hvx,by show x5∈(atV m.Voters j).Votes++[x5];simp⟩
   .cases e
   .cases e
   .cases e
theorem qvn{c:Config}(hN:c.Members.length<=10)(h1:1<=c.Members.length){ill:Nat}:∀(l:List Nat)(q:Nat)(V:Nat->Prop)(m:Meeting),q+l.length<=99000->(∀k∈l,k<c.Members.length/\ill.testBit k=false)->Vot c ill q V m->Vot c ill (q+l.length) (fun j=>V j\/j∈l) (playM (l.map q2w) m).1|[],q,V,m,_,_,h=>⟨h.mt,h.good,h.ill,h.stop,fun k hk=>h.voted k (by simp_all)⟩|k::r,q,V,m,hq,hl,h=>by rw[List.length_cons]at hq⊢;have hk:=hl k (by simp);have g:=ycb hN h1 (by omega) h hk.1 hk.2;obtain⟨i1,i2,i3,i4,i5⟩:=qvn hN h1 r (q+1) _ _ (by omega) (fun x hx=>hl x (by simp[hx])) g;rw[List.map_cons,playM,show q+(r.length+1)=q+1+r.length by omega];refine⟨i1,i2,i3,i4,fun j hj=>i5 j ?_⟩;grind
def q2y(p:Play):Play:=if p.Kind=4 then⟨2,p.From,p.To,p.Claim,p.Trust,p.Message⟩else p
theorem qvf{a1 a3:Int}{l:List Int}{i:Int}{ms:List Member}{a18 a20:Int}{R:Bool}{w:List Play}(hw:w.length<=1000)(hR:z1v a1 a3 (w.map q2y) ((w.length:Nat):Int) ((w.length:Nat):Int) l i ms a18 a20=some R):∀(suf pre:List Play),w=pre++suf->z1v a1 a3 (pre.map q2y++suf) ((w.length:Nat):Int) ((pre.length:Nat):Int) l i ms a18 a20=some R
 |[],pre,h=>by simp_all|p::suf,pre,h=>by
  have hlen:w.length=pre.length+(suf.length+1):=by simp_all
  have again:=qvf hw hR suf (pre++[p]) (by simp_all);have hg:(pre.map q2y++p::suf)[pre.length]?=some p:=by simp
  have hset:(pre.map q2y++p::suf).set pre.length (q2y p)=(pre++[p]).map q2y++suf:=by simp
  rw[List.length_append]at again;apply yar;rw[q02 (by omega),cT,q0u (y:=p) (by omega) (by simp)];simp only[nthN,tN,hg];rw[q0u (y:=p) (by omega) (by simp),q01 (by omega),Trust.etaM,qjf];by_cases e:p.Kind=4
  .rw[e,q0k,cT];have:q2y p=⟨2,p.From,p.To,p.Claim,p.Trust,p.Message⟩:=by unfold q2y;rw[if_pos e]
   simp_all
  .rw[q0n e,cF];have hn:q2y p=p:=by unfold q2y;rw[if_neg e]
   simp_all
theorem qw5{a2 a4:Int}{l:List Int}{i:Int}{ms:List Member}(w:List Nat)(hw:w.length<=10){R:Bool}(hR:z23 a2 a4 (w.map q2w) (w.map Int.ofNat) ((w.length:Nat):Int) ((w.length:Nat):Int) l i ms 5 3=some R):∀(suf pre:List Nat),w=pre++suf->z23 a2 a4 (pre.map q2w) (w.map Int.ofNat) ((w.length:Nat):Int) ((pre.length:Nat):Int) l i ms 5 3=some R
 |[],pre,h=>by simp_all|k::suf,pre,h=>by
  have hlen:w.length=pre.length+(suf.length+1):=by simp_all
  have again:=qw5 w hw hR suf (pre++[k]) (by simp_all);have hg:(w.map Int.ofNat)[pre.length]?=some (k:Int):=by simp_all
  apply yag;rw[q02 (by omega),cT,q0u (y:=(k:Int)) (by omega) (by simp_all),q05 (by simp[q04];omega),q01 (by omega)];rw[List.map_append,List.length_append]at again;exact again
theorem qvu{S:List Voter}(w:List Nat)(hw:w.length<=10)(hS:∀k∈w,k<S.length/\x5∈(atV S k).Confirms/\(atV S k).Confirms.length<=1000)(a8:List Int)(a10:Int)(a12:List Member)(a18:List Voter)(a20 a22 a26 a28:Int):∀(suf:List Nat)(i:Nat),w.drop i=suf->z28 (w.map Int.ofNat) ((w.length:Nat):Int) (i:Int) a8 a10 a12 5 3 a18 a20 a22 S a26 a28=some true
 |[],i,h=>by apply y9b;rw[q0i h,cF,yc3];rfl|k::suf,i,h=>by
  have hlt:=q0g h;have h':(w.map Int.ofNat).drop i=(k:Int)::suf.map Int.ofNat:=by rw[<-List.map_drop,h];rfl
  obtain⟨g1,g2,g3⟩:=hS k (List.mem_of_mem_drop (i:=i) (by simp_all));have g4:z4w (atV S k).Confirms ⟨5,3⟩=some true:=by rw[qo9 _ (by omega),decide_eq_true (show(⟨5,3⟩:Claim)∈_ from g2)]
  apply y9b;rw[q02 (by omega),cT,q07 h',q0u (y:=atV S k) (by omega) (by rw[tN];exact q6l g1),g4,bS,nT,cF,q01 (by omega)];exact qvu w hw hS a8 a10 a12 a18 a20 a22 a26 a28 suf (i+1) (q03 h)
theorem qpe:∀t,law20_AssemblyAgrees t=some true:=by
 intro t;obtain⟨l,h0,h1⟩:=yhg t;obtain⟨c,j0,g0,c1,c2,t0⟩:=yb0 (n:=5) (by decide) (by decide) h1;have g0:z82 5 l 0=_:=g0;have hle:=c1.le;have hpos:=c1.pos;have hN:c.Members.length<=10:=by omega
 have hp:=qja hN;obtain⟨ill,j1,g1,b1,t1⟩:=y7j c1 (by decide) t0;have hp0:=ybu (PairOk.self c1) (by decide);have hin:=y7l c1 (by decide) b1;have hlt:inta c c ill<2^c.Members.length:=qcu.2 (qvz c c ill);have hof:z7v c c (ill:Int)=some (((inta c c ill:Nat):Int),0):=by rw[yd9 (c1.smallC (by decide)) (c1.smallC (by decide)),y62 hp0 b1]
 obtain⟨ps,j2,g2,q1,q2,t2⟩:=y53 (N:=c.Members.length) hpos hN (d:=false) (c:=c) rfl (ill:=(ill:Int)) (n:=12) (by decide) t1;have hw:=q8a (inta c c ill);have hnb:∀k,k∈nodes (inta c c ill)↔(inta c c ill).testBit k=true:=fun k=>by rw[q3l];grind
 have hvs:((nodes (inta c c ill)).map q2w).map q2y=(nodes (inta c c ill)).map q2w:=by rw[List.map_map];rfl
 have hlen:((nodes (inta c c ill)).map q2w++ps).length<=400:=by grind
 have hmap:((nodes (inta c c ill)).map q2w++ps).map q2y=(nodes (inta c c ill)).map q2w++ps.map q2y:=by simp_all
 have hns:∀p,SmallP p->SmallP (q2y p):=fun p h=>by
  unfold q2y;split;·exact⟨h.tr,h.msg⟩
  omega
 have hsm:∀p∈(nodes (inta c c ill)).map q2w++ps.map q2y,SmallP p:=fun p hp=>by
  rcases List.mem_append.1 hp with hp|hp;·obtain⟨k,_,rfl⟩:=List.mem_map.1 hp;exact⟨q2b,qfp⟩
  .obtain⟨p',hp',rfl⟩:=List.mem_map.1 hp;exact hns _ (q1 p' hp').small
 have hr:=y0p (N:=5) (by decide) c1 c2 b1 (l:=(nodes (inta c c ill)).map q2w++ps.map q2y) (by simp_all) hsm;have hrun:(runM c ill ((nodes (inta c c ill)).map q2w++ps.map q2y)).1=(playM (ps.map q2y) (playM ((nodes (inta c c ill)).map q2w) ⟨q5g c,0,(ill:Int)⟩).1).1:=qhm _ _ _;have hV0:Vot c ill 1 (fun _=>False) ⟨q5g c,0,(ill:Int)⟩:=⟨qus (N:=5) (by decide) c1 c2 rfl fun _ _ _=>rfl,qmh (N:=5) (by decide) c1 c2 b1,rfl,rfl,fun _ h=>h.elim⟩;have hV1:=qvn hN hpos (nodes (inta c c ill)) 1 _ _ (by omega) (fun k hk=>⟨(hin k ((hnb k).1 hk)).1,(hin k ((hnb k).1 hk)).2.1⟩) hV0;have hpl:∀p∈ps.map q2y,Pl5 p:=fun p hp=>by
  obtain⟨p',hp',rfl⟩:=List.mem_map.1 hp;have D:=q1 p' hp';unfold q2y;split;·exact⟨by simp,by simp,(fun e=>by cases e),(fun e=>by cases e)⟩
  .rename_i h4;exact⟨(fun e=>by have:=(D.decl e).1;grind),h4,fun e=>.inl (D.vote e),fun _ y hy=>.inl (D.lie y hy)⟩
 have hV2:=qxf (K:=fun q m=>Vot c ill q (fun j=>False\/j∈nodes (inta c c ill)) m) (ps.map q2y) (fun q m p hp hq h h0=>qwh hN hq h (hpl p hp) h0) (fun q m h=>h.up) _ _ (by grind) hV1;rw[<-hrun]at hV2;obtain⟨n,k1,k2⟩:=y7i hN hpos (by grind) hV2.good;have hV3:=qjn (K:=fun m=>Vot c ill _ (fun j=>False\/j∈nodes (inta c c ill)) m) (y7c hN (by grind)) (q1o c.Members.length (runM c ill ((nodes (inta c c ill)).map q2w++ps.map q2y)).1) n _ hV2;generalize hm2:iterM (q1o c.Members.length (runM c ill ((nodes (inta c c ill)).map q2w++ps.map q2y)).1) n (runM c ill ((nodes (inta c c ill)).map q2w++ps.map q2y)).1=m2 at*;have hl2:=hV3.good.len;have hO:Own (layG c ill) (inta c c ill):=⟨fun k hk=>⟨⟨(hin k hk).1,(hin k hk).2.1⟩,(hin k hk).1⟩,fun k t hk ht=>by have ht:t=tr c k:=ht;rw[ht];exact(hin k hk).2.2.2.2 k hk⟩;have hC:∀a b,(layG c ill).G a->a<(layG c ill).N->(inta c c ill).testBit b=true->a≠b->oldB (atV m2.Voters b).Heard (say (atV m2.Voters a))=true:=fun a b ha haN hb hab=>by
  refine y4w hN hpos (by grind) hV3.good k2 haN (hin b hb).1 hab ?_ ?_;·rw[hV3.ill,tN];exact ha.2
  .rw[hV3.ill,hV3.stop,tN,Nat.testBit_or,(hin b hb).2.1];simp
 have hconf:∀k,(inta c c ill).testBit k=true->x5∈(atV m2.Voters k).Confirms:=fun k hk=>qzp hV3.mt hO hC (fun j hj=>hV3.voted j (.inr ((hnb j).2 hj)) (hin j hj).1) (fun y hy=>qn5 hy) hk;apply law20_AssemblyAgrees_le;rw[h0,bS];dsimp only;rw[g0,bS];dsimp only;rw[g1,bS];dsimp only;rw[hof,bS];dsimp only;rw[qia (by omega),bS,List.length_map];refine qw5 (nodes (inta c c ill)) hw ?_ (nodes (inta c c ill)) [] rfl;apply yag;rw[q00 (by omega),cF];have g2':z7w ⟨c.Members⟩ (ill:Int) 12 false l j1=some (ps,l,j2):=g2;rw[g2',bS];dsimp only;rw[q05 (by simp[q04];omega)];refine qvf (w:=(nodes (inta c c ill)).map q2w++ps) (by omega) ?_ ((nodes (inta c c ill)).map q2w++ps) [] rfl;have hr':z4g ⟨c.Members⟩ (ill:Int) ((nodes (inta c c ill)).map q2w++ps.map q2y)=_:=hr;apply yar;rw[q00 (by omega),cF,hmap,hr',bS];dsimp only;rw[k1,bS];dsimp only;rw[q0m,cF,hl2,q0m,cF,qia (by omega),bS,List.length_map];exact qvu (S:=m2.Voters) (nodes (inta c c ill)) hw (fun k hk=>by have hk':=(hnb k).1 hk;have:=(q0y.1 (hV3.mt.all k (hin k hk').1).valid).1.clen;grind) _ _ _ _ _ _ _ _ (nodes (inta c c ill)) 0 rfl
end Go.Proofs.YtdmfjabikomgiaaGreat
namespace Go.Proofs.YtdmfjabikomgiaaGreat
open Go Go.Ab Go.ChangeShapes Go.WideShapes Go.ChangeAt Go.WideMaps Go.WideElems Go.RowKit
theorem Tryz.own:ownKnob Tryz.prog.godebug=none:=by rfl
theorem Tryz.laidOut:laidOutB Tryz.prog=true:=by kernel_rfl
theorem qzn{f:Nat}(hlaw:∀zs:List Int,(∀z∈zs,(Lit.int .i64 z).wf=true)->∃n h',call env n f [.d (ints .i64 zs)] []=some (.d (.v (.bool true)),h')){W:World}{v:Value}{zs:List Int}(hz:∀z∈zs,(Lit.int .i64 z).wf=true)(hv:Rep W qe1 (ints .i64 zs) v):Calls Tryz.prog f #[v] W fun e w'=>e=.returned (.bool true)/\Below W.heap.size W w':=by obtain⟨n,h',hc⟩:=hlaw zs hz;exact top (E:=env) (yfq n) (fun g cs hg=>by cases hg) (ds:=[ints .i64 zs]) hc rfl (fun i d hd=>by cases i with|zero=>simp_all|succ i=>grind)
end Go.Proofs.YtdmfjabikomgiaaGreat
