/- Laws of the printed functions. -/
import Derived.Test.YtdmfjabikomgiaaGreatP20SegA
import Derived.Test.YtdmfjabikomgiaaGreatP20Fchk
import Derived.Test.YtdmfjabikomgiaaGreatMachC
namespace Go.Proofs.YtdmfjabikomgiaaGreat
open Go Go.Ab Go.Sort
instance:DecidableEq Claim:=fun a b=>decidable_of_iff (a.Topic=b.Topic/\a.Value=b.Value) (by cases a;cases b;simp)
def vcl(x:Claim):Bool:=decide (0<=x.Topic)&&(decide (x.Topic<8)&&(decide (0<=x.Value)&&decide (x.Value<=15)))
theorem y29{x:Claim}:vcl x=true↔0<=x.Topic/\x.Topic<8/\0<=x.Value/\x.Value<=15:=by simp[vcl]
def ltc(a b:Claim):Prop:=a.Topic<b.Topic\/a.Topic=b.Topic/\a.Value<b.Value
instance(a b:Claim):Decidable (ltc a b):=inferInstanceAs(Decidable (_\/_/\_))
theorem ql9{a b c:Claim}(h:ltc a b)(h':ltc b c):ltc a c:=by unfold ltc at*;omega
theorem q6q(a:Claim):¬ltc a a:=by unfold ltc;omega
theorem y4b{a b:Claim}(h:a≠b)(h':¬ltc b a):ltc a b:=by have:¬(a.Topic=b.Topic/\a.Value=b.Value):=fun e=>h (by cases a;simp_all);unfold ltc at*;omega
def cmpc(a b:Claim):Int:=if ltc a b then-1 else if a=b then 0 else 1
theorem eqc{a b:Claim}:((eqB a.Topic b.Topic)&&((eqB a.Value b.Value)&&true))=decide (a=b):=by cases a;cases b;simp[eqB]
theorem qf8(x:Claim):z6t x=some (vcl x):=by apply yjh;unfold vcl leB ltB;by_cases h1:0<=x.Topic<;>by_cases h2:x.Topic<8<;>by_cases h3:0<=x.Value<;>simp[h1,h2,h3]
theorem qgk(x:Claim):z8c x=some (vcl x):=by apply yf1;unfold vcl leB ltB;by_cases h1:0<=x.Topic<;>by_cases h2:x.Topic<8<;>by_cases h3:0<=x.Value<;>simp[h1,h2,h3]
theorem qju(x y:Int):z3u x y=some (if x<y then-1 else if y<x then 1 else 0):=by
 have hn:∀z,z6n z=some false:=fun z=>yjq _ _ (by simp[neB]);apply ygy;rw[hn,hn];by_cases h:x<y;·simp[ltB,h]
 .by_cases h':y<x<;>simp[ltB,h,h']
theorem y7y(x y:Int):z8w [x,y]=some (if x≠0 then x else y):=by
 apply yey;apply y55;rw[q03 (by simp),q0j (y:=x) (by omega) rfl];simp only[cT];by_cases h:x=0
 .subst h;simp only[q0h,cF];rw[show addI .i64 0 1=1 from rfl];apply y55;rw[q03 (by simp),q0j (y:=y) (by omega) rfl];simp only[cT];by_cases h':y=0;·subst h';simp only[q0h,cF];rw[show addI .i64 1 1=2 from rfl];apply y55;rfl
  .rw[q0w h'];simp
 .rw[q0w h];grind
theorem yeq(a b:Claim):z7q a b=some (cmpc a b):=by apply yi9;rw[qju,qju];simp only[bS,y7y];cases a with|mk a1 a2=>cases b with|mk b1 b2=>simp only[cmpc,ltc,Claim.mk.injEq];grind
theorem y7j(a b:Claim):z84 a b=some (cmpc a b):=by
 apply ykf;rw[eqc];by_cases h:a=b;·subst h;simp[cmpc,q6q]
 .have:¬(a.Topic=b.Topic/\a.Value=b.Value):=fun e=>h (by cases a;cases b;simp_all);simp only[h,decide_false,cF,cmpc,ltc,ltB,eqB];grind
def plainC:List Claim->Bool|[]=>true|[x]=>vcl x|x::y::r=>vcl x&&(decide (ltc x y)&&plainC (y::r))
theorem qjm{x y:Claim}{r:List Claim}:plainC (x::y::r)=(vcl x&&(decide (ltc x y)&&plainC (y::r))):=rfl
theorem q0y:∀{l:List Claim},plainC l=true↔(∀x∈l,vcl x=true)/\l.Pairwise ltc
 |[]=>by simp[plainC]|[x]=>by simp[plainC]|x::y::r=>by
  rw[qjm,aT,aT,dT',q0y (l:=y::r),List.pairwise_cons (a:=x)];constructor
  .rintro⟨h1,h2,h3,h4⟩;refine⟨fun z hz=>by rcases List.mem_cons.1 hz with rfl|hz;exact h1;exact h3 z hz,fun z hz=>?_,h4⟩;rcases List.mem_cons.1 hz with rfl|hz;·exact h2
   .exact ql9 h2 ((List.pairwise_cons.1 h4).1 z hz)
  simp_all
theorem y9v{a b:Claim}:leB 0 (cmpc a b)=!decide (ltc a b):=by unfold cmpc leB;grind
theorem yce{a b:Claim}:ltB (cmpc a b) 0=decide (ltc a b):=by unfold cmpc ltB;grind
def plP:Option Claim->List Claim->Bool|_,[]=>true|none,y::r=>vcl y&&plP (some y) r|some z,y::r=>vcl y&&(decide (ltc z y)&&plP (some y) r)
theorem qxk:∀{z:Claim}{l:List Claim},vcl z=true->plP (some z) l=plainC (z::l)
 |z,[],h=>by simp[plP,plainC,h]|z,y::r,h=>by
  rw[qjm,h,tA',plP];by_cases hy:vcl y=true;·rw[qxk hy,hy,tA']
  .have:plainC (y::r)=false:=by cases hp:plainC (y::r)with|false=>rfl|true=>exact absurd ((q0y.1 hp).1 y (by simp)) hy
   simp_all
theorem qxh(l:List Claim):plP none l=plainC l:=by cases l with|nil=>rfl|cons y r=>
  rw[plP];by_cases hy:vcl y=true;·rw[hy,tA',qxk hy]
  .have:plainC (y::r)=false:=by cases hp:plainC (y::r)with|false=>rfl|true=>exact absurd ((q0y.1 hp).1 y (by simp)) hy
   simp_all
theorem qqz(l:List Claim)(hl:l.length<1152921504606846976):∀(suf:List Claim)(i:Nat)(z:Claim),l[i]?=some z->l.drop (i+1)=suf->z1x l l ((l.length:Nat):Int) ((i+1:Nat):Int)=some (plP (some z) suf)|[],i,z,hz,h=>by apply qwy;rw[q0d h];rfl|y::suf,i,z,hz,h=>by have hlt:=q09 h;apply qwy;rw[q07 h,cT,q04 h,qf8,bS,q03 (by omega),cT,q61 (by omega) (by omega),q0j (y:=z) (by omega) (by simp_all),yeq,bS,y9v,q02 (by omega),qqz l hl suf (i+1) y (by have:=congrArg (·[0]?) h;grind) (q01 h)];rw[plP];cases vcl y<;>by_cases hc:ltc z y<;>simp[hc]
theorem qb6(l:List Claim)(hl:l.length<1152921504606846976):z4f l=some (plainC l):=by apply yis;rw[<-qxh];cases l with|nil=>apply qwy;rfl|cons y r=>apply qwy;have h:(y::r).drop 0=y::r:=rfl;have h0:ltB 0 (((y::r).length:Nat):Int)=true:=q03 (by simp);rw[h0,cT,q0j (y:=y) (by omega) rfl,qf8,bS,q00 (by omega),cF,show addI .i64 0 1=((0+1:Nat):Int)from rfl,qqz (y::r) hl r 0 y rfl rfl,plP];cases vcl y<;>simp
theorem qsp(l:List Claim)(hl:l.length<1152921504606846976):∀(suf:List Claim)(i:Nat)(z:Claim),l[i]?=some z->l.drop (i+1)=suf->z2g l l ((l.length:Nat):Int) ((i+1:Nat):Int)=some (plP (some z) suf)|[],i,z,hz,h=>by apply qx4;rw[q0d h];rfl|y::suf,i,z,hz,h=>by have hlt:=q09 h;apply qx4;rw[q07 h,cT,q04 h,qgk,bS,q03 (by omega),cT,q61 (by omega) (by omega),q0j (y:=z) (by omega) (by simp_all),y7j,bS,y9v,q02 (by omega),qsp l hl suf (i+1) y (by have:=congrArg (·[0]?) h;grind) (q01 h)];rw[plP];cases vcl y<;>by_cases hc:ltc z y<;>simp[hc]
theorem qb9(l:List Claim)(hl:l.length<1152921504606846976):z5j l=some (plainC l):=by apply yk5;rw[<-qxh];cases l with|nil=>apply qx4;rfl|cons y r=>apply qx4;have h0:ltB 0 (((y::r).length:Nat):Int)=true:=q03 (by simp);rw[h0,cT,q0j (y:=y) (by omega) rfl,qgk,bS,q00 (by omega),cF,show addI .i64 0 1=((0+1:Nat):Int)from rfl,qsp (y::r) hl r 0 y rfl rfl,plP];cases vcl y<;>simp
theorem y71(l:List Claim)(hl:l.length<1152921504606846976)(x:Claim):∀(suf:List Claim)(i:Nat),l.drop i=suf->z6u l ((l.length:Nat):Int) (i:Int) x.Topic x.Value=some (decide (x∈suf))|[],i,h=>by apply yci;rw[q0d h];simp|y::suf,i,h=>by have hlt:=q09 h;apply yci;rw[q07 h,cT,q04 h,eqc,q02 (by omega),y71 l hl x suf (i+1) (q01 h)];by_cases hx:x=y<;>simp[hx]
theorem qb4(l:List Claim)(hl:l.length<1152921504606846976)(x:Claim):z2u l x=some (decide (x∈l)):=by apply yio;exact y71 l hl x l 0 rfl
theorem y6u(l:List Claim)(hl:l.length<1152921504606846976)(x:Claim):∀(suf:List Claim)(i:Nat),l.drop i=suf->∃r:Int,z0o l ((l.length:Nat):Int) (i:Int) x.Topic x.Value=some r/\leB 0 r=decide (x∈suf)
 |[],i,h=>by refine⟨-1,y1v _ _ _ _ _ _ ?_,by rfl⟩;rw[q0d h];simp|y::suf,i,h=>by
  have hlt:=q09 h;obtain⟨r,h1,h2⟩:=y6u l hl x suf (i+1) (q01 h);by_cases hx:x=y;·refine⟨i,y1v _ _ _ _ _ _ ?_,by simp[leB,hx]⟩;rw[q07 h,cT,q04 h,eqc];grind
  .refine⟨r,y1v _ _ _ _ _ _ ?_,by simp_all⟩;rw[q07 h,cT,q04 h,eqc,q02 (by omega),decide_eq_false hx,cF,h1]
theorem ql6(l:List Claim)(hl:l.length<1152921504606846976)(x:Claim):z6e l x=some (decide (x∈l)):=by
 obtain⟨r,h1,h2⟩:=y6u l hl x l 0 rfl;apply yha;have h3:z2w l x=some r:=yho _ _ _ h1;have:z21 l x=some (decide (x∈l)):=by apply ygp;rw[h3,bS,h2]
 simp_all
theorem qse(l k:List Claim)(hl:l.length<1152921504606846976)(hk:l.length=k.length):∀(suf suk:List Claim)(i:Nat),l.drop i=suf->k.drop i=suk->z67 l k ((l.length:Nat):Int) (i:Int)=some (decide (suf=suk))
 |[],suk,i,h,h'=>by
  have:suk=[]:=by rw[<-h',List.drop_eq_nil_iff,<-hk];simp_all
  subst this;apply ycm;rw[q0d h];simp|y::suf,[],i,h,h'=>by have:=q09 h;have:=List.drop_eq_nil_iff.1 h';omega|y::suf,z::suk,i,h,h'=>by have hlt:=q09 h;apply ycm;rw[q07 h,cT,q04 h,q04 h',eqc,q02 (by omega),qse l k hl hk suf suk (i+1) (q01 h) (q01 h')];by_cases hx:y=z<;>simp[hx]
theorem qkp(l k:List Claim)(hl:l.length<1152921504606846976):z78 l k=some (decide (l=k)):=by
 apply yfm;by_cases hk:l.length=k.length;·rw[hk,q0h,cF,<-hk];exact qse l k hl hk l k 0 rfl rfl
 .rw[q0w (by omega),cT];have:l≠k:=fun e=>hk (by rw[e]);simp_all
theorem qqq(l k:List Claim)(hl:l.length<1152921504606846976)(hk:l.length=k.length):∀(suf suk:List Claim)(i:Nat),l.drop i=suf->k.drop i=suk->z0x l k ((l.length:Nat):Int) (i:Int)=some (decide (suf=suk))
 |[],suk,i,h,h'=>by
  have:suk=[]:=by rw[<-h',List.drop_eq_nil_iff,<-hk];simp_all
  subst this;apply yab;rw[q0d h];simp|y::suf,[],i,h,h'=>by have:=q09 h;have:=List.drop_eq_nil_iff.1 h';omega|y::suf,z::suk,i,h,h'=>by have hlt:=q09 h;apply yab;rw[q07 h,cT,q04 h,q04 h',eqc,q02 (by omega),qqq l k hl hk suf suk (i+1) (q01 h) (q01 h')];by_cases hx:y=z<;>simp[hx]
theorem qqd(l k:List Claim)(hl:l.length<1152921504606846976):z1t l k=some (decide (l=k)):=by
 apply yid;by_cases hk:l.length=k.length;·rw[hk,q0h,cF,<-hk];exact qqq l k hl hk l k 0 rfl rfl
 .rw[q0w (by omega),cT];have:l≠k:=fun e=>hk (by rw[e]);simp_all
def allC:List Claim:=(List.range 8).flatMap fun(i:Nat)=>(List.range 16).map fun(k:Nat)=>⟨(i:Int),(k:Int)⟩
def q0o(l:List Claim):List Claim:=allC.filter fun x=>decide (x∈l)
theorem y8e{x:Claim}:x∈allC↔vcl x=true:=by
 rw[y29,allC];simp only[List.mem_flatMap,List.mem_map,List.mem_range];constructor;·grind
 .rintro⟨h1,h2,h3,h4⟩;exact⟨x.Topic.toNat,by omega,x.Value.toNat,by omega,by cases x;grind⟩
theorem y7u:allC.Pairwise ltc:=by decide+kernel
theorem q1b{x:Claim}{l:List Claim}:x∈q0o l↔vcl x=true/\x∈l:=by simp[q0o,y8e]
theorem qdw(l:List Claim):(q0o l).Pairwise ltc:=List.Pairwise.filter _ y7u
theorem q3v(l:List Claim):(q0o l).length<=128:=by
 have:allC.length=128:=by rfl
 rw[<-this];exact List.length_filter_le _ _
theorem q2c(l:List Claim):plainC (q0o l)=true:=q0y.2 ⟨fun _x hx=>(q1b.1 hx).1,qdw l⟩
theorem qup:∀{l k:List Claim},l.Pairwise ltc->k.Pairwise ltc->(∀x,x∈l↔x∈k)->l=k
 |[],[],_,_,_=>rfl|[],y::k,_,_,h=>by have:=(h y).2 (by simp);grind|x::l,[],_,_,h=>by have:=(h x).1 (by simp);grind|x::l,y::k,h1,h2,h=>by
  rw[List.pairwise_cons]at h1 h2;have hxy:x=y:=by
   by_cases e:x=y;·exact e
   .have hx:x∈k:=by grind
    have hy:y∈l:=by grind
    exact absurd (ql9 (h1.1 y hy) (h2.1 x hx)) (q6q x)
  subst hxy;rw[qup h1.2 h2.2 fun z=>?_];constructor
  .intro hz;rcases List.mem_cons.1 ((h z).1 (by simp[hz]))with e|h';·subst e;exact absurd (h1.1 z hz) (q6q z)
   omega
  .intro hz;rcases List.mem_cons.1 ((h z).2 (by simp[hz]))with e|h';·subst e;exact absurd (h2.1 z hz) (q6q z)
   omega
theorem q8l{l k:List Claim}(h1:plainC l=true)(h2:plainC k=true)(h:∀x,x∈l↔x∈k):l=k:=qup (q0y.1 h1).2 (q0y.1 h2).2 h
theorem qgr{l:List Claim}(h:plainC l=true):q0o l=l:=q8l (q2c l) h fun x=>by rw[q1b];exact⟨fun h=>h.2,fun hx=>⟨(q0y.1 h).1 x hx,hx⟩⟩
theorem q7q{x:Claim}:∀{l:List Claim},x∈q0k l↔x∈l
 |[]=>Iff.rfl|[y]=>Iff.rfl|y::z::r=>by
  rw[q1y];split;·rename_i e;subst e;rw[q7q (l:=y::r)];simp
  .simp only[List.mem_cons,q7q (l:=z::r)]
theorem qao:∀{l:List Claim},l.Pairwise (fun x y=>¬ltc y x)->(q0k l).Pairwise ltc
 |[],_=>List.Pairwise.nil|[y],_=>by simp[q0k]|y::z::r,h=>by
  rw[List.pairwise_cons]at h;rw[q1y];split;·exact qao h.2
  .rename_i e;refine List.pairwise_cons.2 ⟨fun u hu=>?_,qao h.2⟩;have hyz:=y4b e (h.1 z (by simp));rcases List.mem_cons.1 (q7q.1 hu)with rfl|hu;·omega
   .by_cases e2:z=u;·simp_all
    .exact ql9 hyz (y4b e2 ((List.pairwise_cons.1 h.2).1 u hu))
theorem qyo(l:List Claim)(hl:l.length<1152921504606846976)(i:Nat)(hi:i<8)(Q:List Claim->Prop)(hQ:∀acc:List Claim,acc.length<=16*(i+1)->∃r,z2s l acc ((i+1:Nat):Int)=some (acc++r)/\Q r):∀(n k:Nat)(acc:List Claim),k+n=16->acc.length<=16*i+k->∃r,z1z l acc (i:Int) (k:Int)=some (acc++(((List.range' k n).map fun(k:Nat)=>(⟨(i:Int),(k:Int)⟩:Claim)).filter fun x=>decide (x∈l))++r)/\Q r
 |0,k,acc,hk,ha=>by obtain⟨r,h1,h2⟩:=hQ acc (by omega);refine⟨r,y2p _ _ _ _ _ ?_,h2⟩;rw[q12 (by omega),cF,q02 (by omega),h1];simp|n+1,k,acc,hk,ha=>by
  have step:=fun acc' h=>qyo l hl i hi Q hQ n (k+1) acc' (by omega) h;by_cases hx:(⟨(i:Int),(k:Int)⟩:Claim)∈l;·obtain⟨r,h1,h2⟩:=step (acc++[⟨(i:Int),(k:Int)⟩]) (by grind);refine⟨r,y2p _ _ _ _ _ ?_,h2⟩;rw[q10 (by omega),cT,qb4 l hl,bS,decide_eq_true hx,cT,q05 (by simp[q06];omega),q02 (by omega),h1];simp[List.range'_succ,hx]
  .obtain⟨r,h1,h2⟩:=step acc (by omega);refine⟨r,y2p _ _ _ _ _ ?_,h2⟩;rw[q10 (by omega),cT,qb4 l hl,bS,decide_eq_false hx,cF,q02 (by omega),h1];simp[List.range'_succ,hx]
theorem qwe(l:List Claim)(hl:l.length<1152921504606846976):∀(n i:Nat)(acc:List Claim),i+n=8->acc.length<=16*i->∃r,z2s l acc (i:Int)=some (acc++r)/\r=(((List.range' i n).flatMap fun(i:Nat)=>(List.range 16).map fun(k:Nat)=>(⟨(i:Int),(k:Int)⟩:Claim)).filter fun x=>decide (x∈l))|0,i,acc,hi,ha=>by refine⟨[],yc0 _ _ _ _ ?_,rfl⟩;rw[q00 (by omega)];simp|n+1,i,acc,hi,ha=>by obtain⟨r,h1,h2⟩:=qyo l hl i (by omega) (fun r=>r=(((List.range' (i+1) n).flatMap fun(i:Nat)=>(List.range 16).map fun(k:Nat)=>(⟨(i:Int),(k:Int)⟩:Claim)).filter fun x=>decide (x∈l))) (fun acc' h=>qwe l hl n (i+1) acc' (by omega) (by omega)) 16 0 acc (by omega) (by omega);refine⟨_,yc0 _ _ _ _ ?_,rfl⟩;rw[q03 (by omega),cT];have h1':z1z l acc (i:Int) 0=_:=h1;rw[h1',h2,List.append_assoc];simp only[List.range'_succ,List.flatMap_cons,List.filter_append,List.range_eq_range']
theorem qc5(l:List Claim)(hl:l.length<1152921504606846976):z4e l=some (q0o l):=by apply yf7;obtain⟨r,h1,h2⟩:=qwe l hl 8 0 [] rfl (by simp);have h1':z2s l [] 0=_:=h1;rw[h1',h2,List.nil_append,q0o,allC,List.range_eq_range' (n:=8)]
theorem qvo(l:List Claim)(x:Claim)(hl:l.length<1000000):z8k l x=some (q0o (l++[x])):=by apply yfl;rw[q05 (by simp[q06];omega),q05 (by simp[q06];omega),List.nil_append,qc5 _ (by grind)];rfl
theorem q6x(a b:List Claim)(ha:a.length<1000000)(hb:b.length<1000000):z3p a b=some (q0o (a++b)):=by apply yhv;rw[q05 (by simp[q06];omega),q05 (by simp[q06];omega),List.nil_append,qc5 _ (by grind)];rfl
theorem y2i(l:List Claim)(hl:l.length<1152921504606846976)(hv:∀x∈l,vcl x=true):∀(suf:List Claim)(i:Nat),l.drop i=suf->z09 ((l.length:Nat):Int) (i:Int) l=some (-1,l)
 |[],i,h=>by apply ya3;rw[q0d h];simp|y::suf,i,h=>by
  have hlt:=q09 h;apply ya3;have hy:vcl y=true:=hv y (List.mem_of_mem_drop (i:=i) (by simp_all));have h1:z7a y=some false:=yfw _ _ (by rw[qf8,hy];rfl);have hg:l[i]?=some y:=by have:=congrArg (·[0]?) h;grind
  rw[q07 h,cT,q04 h,tN,q3p hg,h1,bS,cF,q02 (by omega),y2i l hl hv suf (i+1) (q01 h)]
theorem qqc(l:List Claim):(l.map q0r).all flatD=true:=by rw[List.all_eq_true];intro x hx;obtain⟨y,_,rfl⟩:=List.mem_map.1 hx;rfl
theorem qhh(l:List Claim):(l.map q0r).all (q5s 2)=true:=by rw[List.all_eq_true];intro x hx;obtain⟨y,_,rfl⟩:=List.mem_map.1 hx;rfl
theorem qtp(l:List Claim)(hl:l.length<1000000):z81 l=some (q0k l,()):=by
 refine qau (T:=tn) (m:=q6l 2) sigOk (by rfl) rfl ?_;show libA (q6l 2) [.ref 0] [[.own (l.map q0r) false]]=some (.d (.list ((q0k l).map q0r)),[[.undef]]);unfold libA q6l;have h1:(l.map q0r).length<=q06:=by simp[q06];omega
 simp only[qqc,qhh,h1,and_self,if_true];rw[qaq (fun a b h=>q4i a b h) l];rfl
theorem qb7:∀(l:List Claim),(∀x∈l,vcl x=true)->q7a (l.map q0r)=some (l.map fun x=>(x.Topic,x.Value))|[],_=>rfl|x::r,h=>by have hx:=y29.1 (h x (by simp));show(if _ then _ else _)=_;rw[if_pos (by omega)];rw[qb7 r fun y hy=>h y (by grind)];rfl
theorem y7x(l:List Claim)(hl:l.length<65536)(hv:∀x∈l,vcl x=true):∃ys,z1g l=some ys/\ys.Perm l/\ys.Pairwise fun x y=>ltB (cmpc y x) 0=false:=by
 refine⟨l.mergeSort fun x y=>!q5b (y.Topic,y.Value) (x.Topic,x.Value),?_,List.mergeSort_perm _ _,?_⟩;·refine qau (T:=tn) (m:=qcl _) sigOk (by rfl) rfl ?_;show libA (qcl _) [.ref 0,.fn _ []] [[.own (l.map q0r) false]]=some (.tup [],[[.own ((l.mergeSort fun x y=>!q5b (y.Topic,y.Value) (x.Topic,x.Value)).map q0r) false]]);unfold libA qcl;simp only[qb7 l hv];rw[if_pos ⟨trivial,by simp[q06];omega⟩];have h:=List.map_mergeSort (r:=fun x y=>!q5b (y.Topic,y.Value) (x.Topic,x.Value)) (s:=fun x y=>!q5b y x) (f:=fun x:Claim=>(x.Topic,x.Value)) (l:=l) fun a _ b _=>rfl;rw[<-h,List.map_map];rfl
 .refine(List.pairwise_mergeSort (fun a b c h h'=>?_) (fun a b=>?_) l).imp fun{a b}h=>?_;·simp only[q5b,Bool.not_eq_true',Bool.or_eq_false_iff,Bool.and_eq_false_iff,decide_eq_false_iff_not]at*;omega
  .cases h1:q5b (b.Topic,b.Value) (a.Topic,a.Value)with|false=>rfl|true=>simp only[q5b,Bool.or_eq_true,aT,dT']at h1;simp[q5b];omega
  .rw[yce];simp only[q5b,Bool.not_eq_true',Bool.or_eq_false_iff,Bool.and_eq_false_iff,decide_eq_false_iff_not]at*;unfold ltc;omega
theorem qn8(l:List Claim)(hl:l.length<65536)(hv:∀x∈l,vcl x=true):z6z l=some (q0o l):=by
 apply yg4;have h1:z03 l=some ((),l):=yc3 _ _ (by rw[q05 (by simp[q06];omega)];rfl);have h2:z0h l=some ((),l):=by apply yfv;rw[yjf _ _ (y2i l (by omega) hv l 0 rfl)];rfl
 obtain⟨ys,h3,h4,h5⟩:=y7x l hl hv;have h6:z1g l=some ys:=h3;rw[h1,bS,h2,bS,h6,bS,qtp ys (by rw[h4.length_eq];omega)];show some (q0k ys)=_;congr 1;refine qup (qao (h5.imp fun h=>by simpa[yce]using h)) (qdw l) fun x=>?_;rw[q7q,q1b,h4.mem_iff];simp_all
theorem y0b(a b:List Claim)(ha:a.length<1000000)(hb:b.length<1000000):z8e [a,b]=some ((),a++b):=by
 refine qau (T:=tn) (m:=q8i 2) sigOk (by rfl) rfl ?_;show libA (q8i 2) [.d (.list [.list (a.map q0r),.list (b.map q0r)])] []=some (.ref 0,[[.own ((a++b).map q0r) false]]);unfold libA q8i;have h0:qh4 [.list (a.map q0r),.list (b.map q0r)]=some [a.map q0r,b.map q0r]:=rfl;have h1:([a.map q0r,b.map q0r]:List (List D)).flatten.length<=q06:=by simp[q06];omega
 have h2:([.list (a.map q0r),.list (b.map q0r)]:List D).length<=q06:=by simp[q06]
 have h3:([a.map q0r,b.map q0r]:List (List D)).flatten=(a++b).map q0r:=by simp
 simp only[h0,h2,h3,qhh,and_self];rw[h3]at h1;rw[if_pos ⟨h1,trivial⟩];rfl
theorem y5g(a b:List Claim)(ha:a.length<30000)(hb:b.length<30000)(hva:∀x∈a,vcl x=true)(hvb:∀x∈b,vcl x=true):z8h a b=some (q0o (a++b)):=by apply yi2;rw[y0b a b (by omega) (by omega),bS,qn8 (a++b) (by grind) (fun x hx=>(List.mem_append.1 hx).elim (hva x) (hvb x))];rfl
theorem qvq(a:List Claim)(x:Claim)(ha:a.length<30000)(hva:∀x∈a,vcl x=true)(hx:vcl x=true):z7v a x=some (q0o (a++[x])):=by apply yjd;rw[y5g a [x] ha (by simp) hva (fun y hy=>by simp_all)];rfl
def Contra(a b:Claim):Prop:=a.Topic=b.Topic/\a.Value≠b.Value
instance(a b:Claim):Decidable (Contra a b):=inferInstanceAs(Decidable (_/\_))
theorem Contra.symm{a b:Claim}(h:Contra a b):Contra b a:=⟨h.1.symm,fun e=>h.2 e.symm⟩
def consC(l:List Claim):Bool:=decide (∀x∈l,∀y∈l,¬Contra x y)
theorem q4g{l:List Claim}:consC l=true↔∀x∈l,∀y∈l,¬Contra x y:=by simp[consC]
theorem y16(a b:Claim):z69 a b=some (decide (Contra a b)):=by apply yj8;by_cases h:a.Topic=b.Topic<;>by_cases h':a.Value=b.Value<;>simp[eqB,neB,Contra,h,h']
theorem qgo(a b:Claim):z3x a b=some (decide (Contra a b)):=by apply ygo;by_cases h:a.Topic=b.Topic<;>by_cases h':a.Value=b.Value<;>simp[eqB,neB,Contra,h,h']
theorem qyk(l:List Claim)(i:Nat)(x:Claim)(p:List Claim)(hp:p.length<1152921504606846976)(hi:i<1152921504606846976)(r:Bool)(hr:z1c l l ((l.length:Nat):Int) ((i+1:Nat):Int)=some r):∀(suf:List Claim)(k:Nat),p.drop k=suf->z1n l l ((l.length:Nat):Int) (i:Int) p ((p.length:Nat):Int) (k:Int) x.Topic x.Value=some (decide (∀y∈suf,¬Contra x y)&&r)|[],k,h=>by apply ycp;rw[q0d h,cF,q02 (by omega),hr];simp|y::suf,k,h=>by have hlt:=q09 h;apply ycp;rw[q07 h,cT,q04 h,qgo,bS,q02 (by omega),qyk l i x p hp hi r hr suf (k+1) (q01 h)];by_cases hx:Contra x y<;>simp[hx]
def consF:List Claim->List Claim->Bool|_,[]=>true|p,y::r=>decide (∀z∈p,¬Contra y z)&&consF (p++[y]) r
theorem qw5(l:List Claim)(hl:l.length<1152921504606846976):∀(suf:List Claim)(i:Nat),l.drop i=suf->z1c l l ((l.length:Nat):Int) (i:Int)=some (consF (l.take i) suf)
 |[],i,h=>by apply yaq;simp[q0d h,consF]|y::suf,i,h=>by
  have hlt:=q09 h;have hg:l[i]?=some y:=by have:=congrArg (·[0]?) h;grind
  apply yaq;have htk:l.take (i+1)=l.take i++[y]:=by grind
  rw[q07 h,cT,q04 h,q97 (by omega) (by omega),tN,List.drop_zero];have:=qyk l i y (l.take i) (by grind) (by omega) _ (qw5 l hl suf (i+1) (q01 h)) (l.take i) 0 rfl;have h':z1n l l ((l.length:Nat):Int) (i:Int) (l.take i) (((l.take i).length:Nat):Int) 0 y.Topic y.Value=_:=this;rw[h',htk,consF]
theorem qrk:∀(r p:List Claim),consF p r=true↔(∀y∈r,∀z∈p,¬Contra y z)/\consC r=true
 |[],p=>by simp[consF,consC]|y::r,p=>by
  rw[consF,aT,dT',qrk r (p++[y]),q4g,q4g];constructor
  .rintro⟨h1,h2,h3⟩;refine⟨fun u hu z hz=>?_,fun u hu z hz=>?_⟩
   .rcases List.mem_cons.1 hu with rfl|hu;·exact h1 z hz
    .exact h2 u hu z (by simp[hz])
   .rcases List.mem_cons.1 hu with e|hu'<;>rcases List.mem_cons.1 hz with e'|hz';·subst e;subst e';intro h;exact h.2 rfl
    .subst e;intro h;exact h2 z hz' u (by simp) h.symm
    .subst e';exact h2 u hu' z (by simp)
    .exact h3 u hu' z hz'
  grind
theorem qz1(l:List Claim)(hl:l.length<1152921504606846976):z5a l=some (consC l):=by apply yez;have h:z1c l l ((l.length:Nat):Int) 0=_:=qw5 l hl l 0 rfl;rw[h,List.take_zero];congr 1;rw[Bool.eq_iff_iff,qrk];simp
theorem qhe:∀(l:List Claim),q3n (l.map fun x=>(x.Topic,x.Value))=consC l
 |[]=>rfl|x::r=>by
  rw[List.map_cons,q3n,qhe r,Bool.eq_iff_iff,aT,q4g,q4g,List.all_eq_true];simp only[List.mem_map,forall_exists_index,and_imp,forall_apply_eq_imp_iff₂];constructor
  .rintro⟨h1,h2⟩u hu z hz;have h1':∀a∈r,¬Contra x a:=fun a ha hc=>by have:=h1 a ha;simp[hc.1,hc.2]at this
   rcases List.mem_cons.1 hu with e|hu'<;>rcases List.mem_cons.1 hz with e'|hz';·subst e;subst e';intro h;exact h.2 rfl
   .subst e;exact h1' z hz'
   .subst e';intro h;exact h1' u hu' h.symm
   simp_all
  .intro h;refine⟨fun a ha=>?_,fun u hu z hz=>h u (by simp[hu]) z (by simp[hz])⟩;have:=h x (by simp) a (by simp[ha]);simp only[Contra,not_and,ne_eq,Classical.not_not]at this;grind
theorem qpj(l:List Claim)(hl:l.length<1000000)(hv:∀x∈l,vcl x=true):z7h l=some (consC l):=by refine qau (T:=tn) (m:=q43) sigOk (by rfl) rfl ?_;show libA q43 [.d (.list (l.map q0r))] []=some (.d (.v (.bool (consC l))),[]);unfold libA q43;simp only[qb7 l hv,qhe];rw[if_pos (by simp[q06];omega)];rfl
def q7r(c:Config)(s:Nat):Bool:=twoB (delC s c)
theorem ValidC.cerr{c:Config}(h:ValidC c):cerr c=0:=q29.2 h
theorem qf3{n s:Nat}(hn:n<=10)(hs:s<2^n):s<1024:=by have:=pow10 hn;omega
def askE(c:Config)(z:Int):Int:=if cerr c≠0 then cerr c else if z<0 then 1 else if((2^c.Members.length-1:Nat):Int)<z then 1 else 0
theorem qku{c:Config}{z:Int}(h:askE c z=0):ValidC c/\∃s:Nat,z=(s:Int)/\s<2^c.Members.length:=by
 unfold askE at h;have hp1:=Nat.two_pow_pos c.Members.length;split at h;·omega
 .rename_i h1;refine⟨q29.1 (Classical.not_not.1 h1),z.toNat,?_,?_⟩
  .split at h;·omega
   .omega
  omega
theorem qpc{c:Config}(hv:ValidC c){s:Nat}(hs:s<2^c.Members.length):askE c (s:Int)=0:=by unfold askE;rw[hv.cerr,if_neg (by simp),if_neg (by omega),if_neg (by omega)]
def lexI:List Int->List Int->Int|[],[]=>0|[],_::_=>-1|_::_,[]=>1|x::xs,y::ys=>if cmpI x y≠0 then cmpI x y else lexI xs ys
mutual
def tcmp : Trust -> Trust -> Int
 | ⟨a, xs, ts⟩, ⟨b, ys, us⟩ => if cmpI a b ≠ 0 then cmpI a b else if lexI xs ys ≠ 0 then lexI xs ys else tcmps ts us
def tcmps : List Trust -> List Trust -> Int
 | [], [] => 0
 | [], _ :: _ => -1
 | _ :: _, [] => 1
 | t :: ts, u :: us => if tcmp t u ≠ 0 then tcmp t u else tcmps ts us
end
theorem y4a(t u:Trust):tcmp t u=if cmpI t.Threshold u.Threshold≠0 then cmpI t.Threshold u.Threshold else if lexI t.Nodes u.Nodes≠0 then lexI t.Nodes u.Nodes else tcmps t.Inner u.Inner:=by cases t;cases u;rfl
theorem qbl{a b:Int}:cmpI a b=0↔a=b:=by unfold cmpI;omega
theorem qla:∀{a b:List Int},lexI a b=0↔a=b
 |[],[]=>by simp[lexI]|[],_::_=>by simp[lexI]|_::_,[]=>by simp[lexI]|x::xs,y::ys=>by
  unfold lexI;by_cases h:cmpI x y=0;·rw[if_neg (by omega),qla,qbl.1 h];simp
  .rw[if_pos h];have:x≠y:=fun e=>h (qbl.2 e);simp_all
theorem y5w:∀a b:Trust,tcmp a b=0↔a=b:=by
 apply Trust.ind;intro a ih b;have l:∀ts:List Trust,(∀x∈ts,∀b,tcmp x b=0↔x=b)->∀us:List Trust,tcmps ts us=0↔ts=us:=by intro ts;induction ts with|nil=>intro _ us;cases us<;>simp[tcmps]|cons t ts iht=>intro h us;cases us with|nil=>simp[tcmps]|cons u us=>unfold tcmps;grind
 rw[y4a];obtain⟨ta,na,ia⟩:=a;obtain⟨tb,nb,ib⟩:=b;simp only[Trust.mk.injEq];by_cases h1:cmpI ta tb=0
 .rw[if_neg (by omega)];by_cases h2:lexI na nb=0;·rw[if_neg (by omega),l ia ih ib,qbl.1 h1,qla.1 h2];simp
  .rw[if_pos h2];have:na≠nb:=fun e=>h2 (qla.2 e);simp_all
 .rw[if_pos h1];have:ta≠tb:=fun e=>h1 (qbl.2 e);omega
theorem q7h(a b:Int):z5p a b=some (cmpI a b):=by
 apply ykj;unfold cmpI;by_cases h:a<b;·rw[q03 h,if_pos h];rfl
 .rw[q00 (by omega),if_neg h];by_cases h2:b<a;·rw[q03 h2,if_pos h2];rfl
  .rw[q00 (by omega),if_neg h2];rfl
theorem qy4{α:Type}{xs ys:List α}{i:Nat}(h1:xs.drop i=[])(h2:ys.drop i=[])(l1:i<=xs.length)(l2:i<=ys.length):cmpI ((xs.length:Nat):Int) ((ys.length:Nat):Int)=0:=by have:=List.drop_eq_nil_iff.1 h1;have:=List.drop_eq_nil_iff.1 h2;exact qbl.2 (by omega)
theorem qx6{a b:Int}(h:a<b):cmpI a b=-1:=by unfold cmpI;omega
theorem qyz{a b:Int}(h:b<a):cmpI a b=1:=by unfold cmpI;omega
theorem qyi{xs ys:List Int}(hx:xs.length<1152921504606846976){t u:Int}{ts us:List Trust}(K:z1b 0 t xs ts u ys us=some (tcmps ts us)):∀(sx sy:List Int)(i:Nat),xs.drop i=sx->ys.drop i=sy->i<=xs.length->i<=ys.length->z28 (i:Int) t xs ts u ys us=some (if lexI sx sy≠0 then lexI sx sy else tcmps ts us)
 |[],[],i,h1,h2,l1,l2=>by apply qww;rw[q0d h1,q7h,qy4 h1 h2 l1 l2];simp only[cF,bS,q0h];rw[K];rfl|[],y::sy,i,h1,h2,l1,l2=>by have h3:=q09 h2;have:=List.drop_eq_nil_iff.1 h1;apply qww;rw[q0d h1,q7h,qx6 (by omega)];rfl|x::sx,[],i,h1,h2,l1,l2=>by have h3:=q09 h1;have:=List.drop_eq_nil_iff.1 h2;apply qww;rw[q07 h1,q0d h2,q7h,qyz (by omega)];rfl|x::sx,y::sy,i,h1,h2,l1,l2=>by
  have h3:=q09 h1;have h4:=q09 h2;have ih:=qyi hx K sx sy (i+1) (q01 h1) (q01 h2) (by omega) (by omega);apply qww;rw[q07 h1,q07 h2];simp only[cT,q04 h1,q04 h2];rw[q7h];simp only[bS];by_cases h:cmpI x y=0;·rw[h,q0h,q02 (by omega),ih];simp only[cF,lexI,h,ne_eq,not_true,if_false]
  .rw[q0w h];simp only[cT,lexI,if_pos h]
theorem qyv:∀a:Trust,Small a->∀b:Trust,Small b->z72 a b=some (tcmp a b):=by
 apply Trust.ind;intro a ih ha b hb;have hna:=ha.nodes;have hia:=ha.inner;have l2:∀(st su:List Trust)(i:Nat),a.Inner.drop i=st->b.Inner.drop i=su->i<=a.Inner.length->i<=b.Inner.length->z1b (i:Int) a.Threshold a.Nodes a.Inner b.Threshold b.Nodes b.Inner=some (tcmps st su):=by intro st;induction st with
  |nil=>intro su i h1 h2 l1 l2;cases su with|nil=>apply qxw;rw[q0d h1,q7h,qy4 h1 h2 l1 l2];rfl|cons u su=>have h3:=q09 h2;have:=List.drop_eq_nil_iff.1 h1;apply qxw;rw[q0d h1,q7h,qx6 (by omega)];rfl
  |cons t st iht=>intro su i h1 h2 l1 l2;have h3:=q09 h1;cases su with|nil=>have:=List.drop_eq_nil_iff.1 h2;apply qxw;rw[q07 h1,q0d h2,q7h,qyz (by omega)];rfl|cons u su=>
    have h4:=q09 h2;have ht:t∈a.Inner:=List.mem_of_mem_drop (by rw[h1];simp);have hu:u∈b.Inner:=List.mem_of_mem_drop (by rw[h2];simp);have ih':=iht su (i+1) (q01 h1) (q01 h2) (by omega) (by omega);apply qxw;rw[q07 h1,q07 h2];simp only[cT,q04 h1,q04 h2];rw[ih t ht (ha.mem ht) u (hb.mem hu)];simp only[bS];by_cases h:tcmp t u=0;·rw[h,q0h,q02 (by omega),ih'];simp only[cF,tcmps,h,ne_eq,not_true,if_false]
    .rw[q0w h];simp only[cT,tcmps,if_pos h]
 have l1:=qyi (ys:=b.Nodes) hna (l2 a.Inner b.Inner 0 rfl rfl (by omega) (by omega)) a.Nodes b.Nodes 0 rfl rfl (by omega) (by omega);rw[y4a];apply ygr;rw[q7h];simp only[bS];by_cases h:cmpI a.Threshold b.Threshold=0;·rw[h,q0h];simp_all
 .rw[q0w h,if_pos h];rfl
theorem ye5{α:Type}(u v:List α)(z x:α):List.set (List.take (u.length+1) (u++v++[z])++List.take ((u++v++[z]).length-(u.length+1)) (List.drop u.length (List.take (u++v++[z]).length (u++v++[z])))++List.drop (u.length+1+min ((u++v++[z]).length-(u.length+1)) (List.drop u.length (List.take (u++v++[z]).length (u++v++[z]))).length) (u++v++[z])) u.length x=u++[x]++v:=by
 rw[List.take_length];have e1:List.drop u.length (u++v++[z])=v++[z]:=by rw[List.append_assoc,List.drop_left]
 rw[e1];have e2:(u++v++[z]).length-(u.length+1)=v.length:=by simp;omega
 rw[e2,List.take_left];have e3:min v.length (v++[z]).length=v.length:=by simp
 rw[e3];have e4:List.drop (u.length+1+v.length) (u++v++[z])=[]:=by rw[List.drop_eq_nil_iff];simp;omega
 rw[e4,List.append_nil];have e5:∃h,List.take (u.length+1) (u++v++[z])=u++[h]:=by cases v with|nil=>exact⟨z,by simp[List.take_append,List.take_of_length_le (Nat.le_succ u.length)]⟩|cons h t=>exact⟨h,by simp[List.take_append,List.take_of_length_le (Nat.le_succ u.length)]⟩
 grind
theorem y2n{l out:List Trust}{t:Trust}(ht:Small t)(ho:∀x∈out,Small x)(hol:out.length<1000000){len:Int}{i0:Nat}(hi0:i0<4611686018427387904){P:List Trust->Prop}(H:∀o,(o=out/\t∈out\/∃u v,out=u++v/\o=u++[t]++v)->∃r,z1j o l len ((i0+1:Nat):Int)=some r/\P r):∀(suf:List Trust)(i k:Nat)(met:Bool),out.drop i=suf->k<=out.length->i<=out.length->(met=true->t∈out)->∃r,z0j out (k:Int) met l len (i0:Int) ((out.length:Nat):Int) (i:Int) t.Threshold t.Nodes t.Inner=some r/\P r
 |[],i,k,met,h,hk,hi,hm=>by cases met with|true=>obtain⟨r,r1,r2⟩:=H out (.inl ⟨rfl,hm rfl⟩);refine⟨r,?_,r2⟩;apply qxu;rw[q0d h];simp only[cF,cT];rw[q02 hi0];omega|false=>
   have hsp:out=out.take k++out.drop k:=(List.take_append_drop ..).symm;obtain⟨r,r1,r2⟩:=H _ (.inr ⟨out.take k,out.drop k,hsp,rfl⟩);refine⟨r,?_,r2⟩;apply qxu;rw[q0d h];simp only[cF];have hku:(out.take k).length=k:=by simp;omega
   have hsz:(out++[Trust.mk 0 [] []]).length=out.length+1:=by simp
   rw[q05 (by simp[q06];omega),q02 (show k<4611686018427387904 by omega)];rw[q97 (by omega) (by rw[hsz];omega),q97 (by omega) (by rw[hsz];omega)];simp only[tN];rw[q0g (Nat.le_refl _),q0g (Nat.le_refl _),q02 hi0];have key:=ye5 (out.take k) (out.drop k) (Trust.mk 0 [] []) (Trust.mk t.Threshold t.Nodes t.Inner);rw[<-hsp,hku]at key;have hlen:(List.take (k+1) (out++[Trust.mk 0 [] []])++List.take ((out++[Trust.mk 0 [] []]).length-(k+1)) (List.drop k (List.take (out++[Trust.mk 0 [] []]).length (out++[Trust.mk 0 [] []])))++List.drop (k+1+min ((out++[Trust.mk 0 [] []]).length-(k+1)) (List.drop k (List.take (out++[Trust.mk 0 [] []]).length (out++[Trust.mk 0 [] []]))).length) (out++[Trust.mk 0 [] []])).length=out.length+1:=by have:=congrArg List.length key;rw[List.length_set]at this;rw[this];simp;omega
   rw[key];have hg:=List.getElem?_eq_getElem (show k<_ from by rw[hlen];omega);rw[q0j (by omega) (by rw[tN];exact hg),q3p hg,Trust.eta];omega
 |y::suf,i,k,met,h,hk,hi,hm=>by
  have hlt:=q09 h;have hy:y∈out:=List.mem_of_mem_drop (by rw[h];simp);have hg:out[i]?=some y:=by have:=congrArg (fun l=>l[0]?) h;grind
  have ih:∀(k':Nat)(met':Bool),k'<=out.length->(met'=true->t∈out)->∃r,z0j out (k':Int) met' l len (i0:Int) ((out.length:Nat):Int) ((i+1:Nat):Int) t.Threshold t.Nodes t.Inner=some r/\P r:=fun k' met' h1 h2=>y2n ht ho hol hi0 H suf (i+1) k' met' (q01 h) h1 (by omega) h2;have step:∀b:Bool,(b=true->t∈out)->∃r,(bif ltB (tcmp y t) 0 then z0j out ((i+1:Nat):Int) b l len (i0:Int) ((out.length:Nat):Int) ((i+1:Nat):Int) t.Threshold t.Nodes t.Inner else z0j out (k:Int) b l len (i0:Int) ((out.length:Nat):Int) ((i+1:Nat):Int) t.Threshold t.Nodes t.Inner)=some r/\P r:=by intro b hb;cases ltB (tcmp y t) 0 with|true=>exact ih (i+1) b (by omega) hb|false=>exact ih k b hk hb
  cases met with|true=>obtain⟨r,r1,r2⟩:=step true hm;refine⟨r,?_,r2⟩;apply qxu;rw[q07 h];simp only[cT];rw[q04 h,tN,q3p hg,Trust.eta,qyv y (ho y hy) t ht];simp only[bS];rw[q02 (by omega)];omega|false=>obtain⟨r,r1,r2⟩:=step (eqB (tcmp y t) 0) (fun hb=>by rw[yd4]at hb;rw[<-(y5w y t).1 hb];exact hy);refine⟨r,?_,r2⟩;apply qxu;rw[q07 h];simp only[cT,cF];rw[q04 h,tN,q3p hg,Trust.eta,qyv y (ho y hy) t ht];simp only[bS];rw[q02 (by omega)];omega
theorem y6b{l:List Trust}(hl:l.length<1000000)(hs:∀x∈l,Small x):∀(suf pre out:List Trust),l=pre++suf->out.length<=pre.length->(∀y,y∈out↔y∈pre)->∃r,z1j out l ((l.length:Nat):Int) ((pre.length:Nat):Int)=some r/\(r.length<=l.length/\∀y,y∈r↔y∈l)
 |[],pre,out,e,ho,hm=>by rw[List.append_nil]at e;subst e;refine⟨out,?_,ho,hm⟩;apply ybm;rw[q00 (Int.le_refl _)];rfl|t::suf,pre,out,e,ho,hm=>by
  have hd:l.drop pre.length=t::suf:=by rw[e];simp
  have hlt:=q09 hd;have ht:t∈l:=by rw[e];simp
  have hsub:∀y∈pre,y∈l:=fun y hy=>by rw[e];simp[hy]
  have key:=y2n (l:=l) (out:=out) (t:=t) (hs t ht) (fun x hx=>hs x (hsub x ((hm x).1 hx))) (by omega) (len:=((l.length:Nat):Int)) (i0:=pre.length) (by omega) (P:=fun r=>r.length<=l.length/\∀y,y∈r↔y∈l)
   (fun o hoo=>by have:=y6b hl hs suf (pre++[t]) o (by rw[e];simp) (by
     rcases hoo with⟨rfl,_⟩|⟨u,v,e1,rfl⟩;·simp;omega
     .rw[e1]at ho;simp at ho⊢;omega) (fun y=>by
     rcases hoo with⟨rfl,h1⟩|⟨u,v,e1,rfl⟩;·have h2:=(hm t).1 h1;rw[hm y];simp;intro e2;rw[e2];exact h2
     .have:=hm y;rw[e1]at this;simp only[List.mem_append,List.mem_singleton]at this⊢;rw[<-this];constructor
      .rintro((h|h)|h);·exact .inl (.inl h)
       .exact .inr h
       .exact .inl (.inr h)
      .rintro((h|h)|h);·exact .inl (.inl h)
       .exact .inr h
       .exact .inl (.inr h));simpa using this) out 0 0 false rfl (by omega) (by omega) (fun h=>by cases h);obtain⟨r,r1,r2⟩:=key;refine⟨r,?_,r2⟩;apply ybm;rw[q07 hd];simp only[cT,q04 hd];omega
noncomputable def diffs(l:List Trust):List Trust:=(z4o l).getD []
theorem qp5{l:List Trust}(hl:l.length<1000000)(hs:∀x∈l,Small x):z4o l=some (diffs l)/\(diffs l).length<=l.length/\∀y,y∈diffs l↔y∈l:=by
 obtain⟨r,r1,r2⟩:=y6b hl hs l [] [] rfl (by simp) (by simp);have:z4o l=some r:=by apply yif;exact r1
 have hd:diffs l=r:=by unfold diffs;rw[this];rfl
 simp_all
def memJ(all:Bool):List Trust->Member|[]=>⟨false,blank⟩|[x]=>⟨true,x⟩|d=>⟨true,⟨if all then((d.length:Nat):Int)else 1,[],d⟩⟩
def verrs:List Trust->Int|[]=>0|t::r=>if verr t=0 then verrs r else verr t
theorem qn5:∀{l:List Trust},verrs l=0↔∀x∈l,valid x=true
 |[]=>by simp[verrs]|t::r=>by
  unfold verrs;by_cases h:verr t=0;·rw[if_pos h,qn5];simp[(q3k t).1 h]
  .rw[if_neg h];have:valid t≠true:=fun e=>h ((q3k t).2 e);simp_all
noncomputable def listE(x:List Trust):Int:=if verrs x=0 then(if 4<(diffs x).length then 3 else 0)else verrs x
noncomputable def qd4:List (List Trust)->Int|[]=>0|x::r=>if listE x=0 then qd4 r else listE x
noncomputable def joinC(all:Bool)(l:List (List Trust)):Config:=⟨l.map fun x=>memJ all (diffs x)⟩
noncomputable def joinE(all:Bool)(l:List (List Trust)):Int:=if 10<l.length then 3 else if qd4 l=0 then cerr (joinC all l)else qd4 l
noncomputable def joinR(all:Bool)(l:List (List Trust)):Config×Int:=if joinE all l=0 then(joinC all l,0)else(⟨[]⟩,joinE all l)
theorem qyq{b:Nat}:∀{l:List Trust},(∀x∈l,size x<=b)->sizes l<=l.length*b|[],_=>by simp[sizes]|x::r,h=>by have h1:=h x (by simp);have h2:=qyq (l:=r) (fun y hy=>h y (by grind));simp only[sizes,List.length_cons,Nat.succ_mul];omega
theorem y0u{all:Bool}{d:List Trust}(hd:d.length<=4)(hv:∀x∈d,valid x=true):Small (memJ all d).Trust:=by match d,hd,hv with|[],_,_=>unfold Small;simp[memJ,blank,size,sizes]|[x],_,hv=>exact q1l (hv x (by simp))|x::y::r,hd,hv=>have:=qyq (b:=200) (l:=x::y::r) (fun z hz=>y1d (hv z hz));unfold Small memJ;rw[q3m];grind
def qrl(l:List (List Trust)):Prop:=∀x∈l,x.length<1000000/\∀y∈x,Small y
theorem y6c{all:Bool}{l:List (List Trust)}{x:List Trust}(hx:x.length<1000000/\∀y∈x,Small y){acc dummy:List Member}(ha:acc.length<1000){i0:Nat}(hi0:i0<1000000){r:Config×Int}{len:Int}(K:listE x=0->z1h all l len ((i0+1:Nat):Int) dummy (acc++[memJ all (diffs x)])=some r)(Ke:listE x≠0->r=(⟨[]⟩,listE x)):∀(suf:List Trust)(i:Nat),x.drop i=suf->(verrs suf=verrs x)->z4n all x l len (i0:Int) x ((x.length:Nat):Int) (i:Int) dummy acc=some r
 |[],i,h,hv=>by
  have hz:verrs x=0:=by rw[<-hv];rfl
  obtain⟨d1,d2,d3⟩:=qp5 hx.1 hx.2;apply ycg;rw[q0d h];simp only[cF];rw[d1];simp only[bS];by_cases h4:4<(diffs x).length
  .have he:listE x=3:=by unfold listE;omega
   rw[q03 (by omega),Ke (by omega),he];rfl
  .have he:listE x=0:=by unfold listE;omega
   have K':=K he;rw[q00 (by omega),q02 (by omega)];simp only[cF];match hd:diffs x with|[]=>rw[hd]at K';rw[q0i (by simp),q00 (by simp)];simp only[cF];rw[q05 (by simp[q06];omega)];exact K'|[y]=>rw[hd]at K';rw[show eqB (([y].length:Nat):Int) 1=true from by rfl];simp only[cT];rw[q0j (xs:=[y]) (n:=0) (y:=y) (by decide) rfl,q05 (by simp[q06];omega)];simp only[Trust.eta];exact K'|y::z::d=>rw[hd]at K';have hn:(y::z::d).length=d.length+2:=rfl;rw[q0i (by omega),q03 (by omega)];simp only[cF,cT];cases all with|true=>simp only[cT];rw[q05 (by simp[q06];omega)];exact K'|false=>simp only[cF];rw[q05 (by simp[q06];omega)];exact K'
 |t::suf,i,h,hv=>by
  have hlt:=q09 h;have ht:t∈x:=List.mem_of_mem_drop (by rw[h];simp);apply ycg;rw[q07 h];simp only[cT,q04 h];rw[q7j t (hx.2 t ht)];simp only[bS];by_cases h0:verr t=0
  .have hv':verrs suf=verrs x:=by rw[<-hv];simp[verrs,h0]
   rw[h0,q0h,q02 (by omega)];exact y6c hx ha hi0 K Ke suf (i+1) (q01 h) hv'
  .have hv':verrs x=verr t:=by rw[<-hv];simp[verrs,h0]
   have he:listE x=verr t:=by unfold listE;omega
   rw[q0w h0,Ke (by omega),he];rfl
theorem y52{all:Bool}{l:List (List Trust)}(hl:l.length<=10)(hs:qrl l){dummy:List Member}:∀(suf pre:List (List Trust)),l=pre++suf->qd4 suf=qd4 l->(∀x∈pre,listE x=0)->z1h all l ((l.length:Nat):Int) ((pre.length:Nat):Int) dummy (pre.map fun x=>memJ all (diffs x))=some (joinR all l)
 |[],pre,e,he,hp=>by
  rw[List.append_nil]at e;subst e;have h0:qd4 l=0:=by rw[<-he];rfl
  have hsm:q1a (joinC all l):=⟨by unfold joinC;grind,fun m hm=>by
   unfold joinC at hm;obtain⟨x,hx,rfl⟩:=List.mem_map.1 hm;have h1:=hp x hx;unfold listE at h1;by_cases hv:verrs x=0
   .rw[if_pos hv]at h1;obtain⟨d1,d2,d3⟩:=qp5 (hs x hx).1 (hs x hx).2;have h4:(diffs x).length<=4:=by
     by_cases h4:4<(diffs x).length;·rw[if_pos h4]at h1;cases h1
     .omega
    exact y0u h4 (fun y hy=>qn5.1 hv y ((d3 y).1 hy))
   omega⟩;have hE:joinE all l=cerr (joinC all l):=by unfold joinE;omega
  apply yad;rw[q00 (Int.le_refl _)];simp only[cF];rw[show Config.mk (l.map fun x=>memJ all (diffs x))=joinC all l from rfl,q6d hsm];simp only[bS];unfold joinR;rw[hE];by_cases hc:cerr (joinC all l)=0;·rw[hc,q0h];rfl
  .rw[q0w hc,if_neg hc];rfl|x::suf,pre,e,he,hp=>by
  have hd:l.drop pre.length=x::suf:=by simp_all
  have hlt:=q09 hd;have hx:x∈l:=by simp_all
  apply yad;rw[q07 hd];simp only[cT,q04 hd];refine y6c (hs x hx) (by grind) (by omega) (fun h0=>?_) (fun h0=>?_) x 0 rfl rfl
  .have:=y52 (all:=all) hl hs (dummy:=dummy) suf (pre++[x]) (by rw[e];simp) (by rw[<-he];simp[qd4,h0]) (fun y hy=>by
    rcases List.mem_append.1 hy with hy|hy;·exact hp y hy
    .rw[List.mem_singleton.1 hy];exact h0);simp_all
  .have h1:qd4 l=listE x:=by rw[<-he];simp[qd4,h0]
   have hE:joinE all l=listE x:=by unfold joinE;rw[if_neg (by omega:¬10<l.length),if_neg (by rw[h1];exact h0),h1]
   unfold joinR;simp_all
theorem qra{all:Bool}{l:List (List Trust)}(hs:qrl l)(hl:l.length<1000000):z7k l all=some (joinR all l):=by
 apply yib;by_cases h:10<l.length;·rw[q03 (by omega)];unfold joinR joinE;simp_all
 .rw[q00 (by omega)];exact y52 (by omega) hs l [] rfl rfl (by simp)
theorem ydx{l:List (List Trust)}(hs:qrl l)(hl:l.length<1000000):z95 l=some (joinR false l):=by apply yg1;rw[qra hs hl];rfl
theorem y8g{l:List (List Trust)}(hs:qrl l)(hl:l.length<1000000):z8z l=some (joinR true l):=by apply ykr;rw[qra hs hl];rfl
theorem nz{a:Nat}:a≠0↔∃i,a.testBit i=true:=⟨y8v,fun⟨i,hi⟩e=>by simp_all⟩
theorem qxp{a b:Nat}:a&&&b≠0↔∃i,a.testBit i=true/\b.testBit i=true:=by rw[nz];simp
theorem qo0{a b:Nat}:ndiff a b≠0↔∃i,a.testBit i=true/\b.testBit i=false:=by rw[nz];simp only[q08,aT,Bool.not_eq_true']
def full(c:Config):Nat:=2^c.Members.length-1
theorem qf6{c:Config}{i:Nat}:(full c).testBit i=decide (i<c.Members.length):=by rw[full,Nat.testBit_two_pow_sub_one]
theorem qgl{c:Config}(hn:c.Members.length<=10):full c<1024:=by have:=pow10 hn;unfold full;omega
theorem qdf{c:Config}{s:Nat}:s<2^c.Members.length↔Sub s (full c):=q81
theorem y2o{c:Config}(hn:c.Members.length<=10):Sub (decl c) (full c):=qdf.1 (qbm hn)
structure PairOk(n:Nat)(lo hi:Config):Prop where
 lok:ConfOk n lo
 hik:ConfOk n hi
 len:lo.Members.length=hi.Members.length
 dec:decl lo=decl hi
 imp:∀k s,(decl lo).testBit k=true->s<1024->sat s (tr hi k)=true->sat s (tr lo k)=true
variable {n : Nat} {lo hi : Config}
theorem PairOk.fullEq(h:PairOk n lo hi):full lo=full hi:=by unfold full;rw[h.len]
theorem qoa(h:PairOk n lo hi){q:Nat}(hq:q2s hi q):q2s lo q:=⟨hq.1,by rw[h.dec];exact hq.2.1,fun k hk=>h.imp k q (by rw[h.dec];exact hq.2.1 k hk) (yae hq) (hq.2.2 k hk)⟩
theorem qdh{s z:Nat}(h:Sub s z){t:Trust}(hs:sat s t=true):sat z t=true:=qz6 (qv4 h) t hs
theorem ygi{c:Config}{a b:Nat}(ha:q2s c a)(hb:q2s c b):q2s c (a|||b):=by
 refine⟨fun e=>ha.1 (Nat.le_zero.1 (e▸(Nat.left_le_or:a<=a|||b))),ha.2.1.or hb.2.1,fun k hk=>?_⟩;rw[Nat.testBit_or,Bool.or_eq_true]at hk;rcases hk with hk|hk;·exact qdh Sub.left (ha.2.2 k hk)
 .exact qdh Sub.right (hb.2.2 k hk)
def QL(c:Config)(b y:Nat):Prop:=y≠0/\Sub y (decl c)/\(∀i,y.testBit i=true->b.testBit i=false)/\∀k,y.testBit k=true->sat (y|||b) (tr c k)=true
theorem yk8{c:Config}{b y:Nat}:q2s (delC b c) y↔QL c b y:=by
 constructor;·intro h;have hd:∀i,y.testBit i=true->b.testBit i=false:=fun i hi=>(q4m.1 (h.2.1 i hi)).2;have h':=(qmy (yae h) hd).1 h;exact⟨h'.1,h'.2.1,hd,h'.2.2⟩
 .rintro⟨h1,h2,h3,h4⟩;exact(qmy (h2.lt (q7b c)) h3).2 ⟨h1,h2,h4⟩
theorem qas{c:Config}{b d y:Nat}(hbd:Sub b d)(h:QL c b y)(h0:ndiff y d≠0):QL c d (ndiff y d):=by
 refine⟨h0,fun i hi=>h.2.1 i ?_,fun i hi=>?_,fun k hk=>?_⟩;·rw[q08,aT]at hi;grind
 .rw[q08,aT,Bool.not_eq_true']at hi;grind
 .rw[q08,aT]at hk;rw[qvi];refine qdh (fun i hi=>?_) (h.2.2.2 k hk.1);rw[Nat.testBit_or,Bool.or_eq_true]at hi⊢;exact hi.imp id (hbd i)
theorem yct{c:Config}{q:Nat}(h:q2s c q):QL c 0 q:=⟨h.1,h.2.1,fun i _=>Nat.zero_testBit i,fun k hk=>by rw[Nat.or_zero];exact h.2.2 k hk⟩
theorem qxa(b:Nat):Sub 0 b:=fun i hi=>by simp_all
theorem qq1{c:Config}{b q:Nat}(h:q2s c q)(hd:∀i,q.testBit i=true->b.testBit i=false):QL c b q:=⟨h.1,h.2.1,hd,fun k hk=>qdh Sub.left (h.2.2 k hk)⟩
theorem qkj{c:Config}(hn:c.Members.length<=10){b:Nat}:q7r c b=true↔∃x y,QL c b x/\QL c b y/\x&&&y=0:=by unfold q7r;rw[y9o (by rw[qyy];omega)];simp only[yk8]
theorem qm0{c:Config}(hn:c.Members.length<=10){b x y:Nat}(h:q7r c b=false)(hx:QL c b x)(hy:QL c b y):∃i,x.testBit i=true/\y.testBit i=true:=by apply qxp.1;intro e;rw[(qkj hn).2 ⟨x,y,hx,hy,e⟩]at h;cases h
def qk7(c:Config)(b:Nat):Bool:=ndiff (full c) b==0||quoB c (ndiff (full c) b)
def isB(lo hi:Config)(b:Nat):Bool:=qk7 hi b&&!q7r lo b
theorem y2x{c:Config}(hn:c.Members.length<=10)(b:Nat):ndiff (full c) b<1024:=q5z (qgl hn)
theorem y1r{c:Config}(hn:c.Members.length<=10){b:Nat}:qk7 c b=true↔ndiff (full c) b=0\/q2s c (ndiff (full c) b):=by unfold qk7;rw[Bool.or_eq_true,beq_iff_eq,qio (y2x hn b)]
theorem ConfOk.le10{c:Config}(h:ConfOk n c)(hn:n<=10):c.Members.length<=10:=Nat.le_trans h.le hn
theorem qdy(h:PairOk n lo hi)(hn:n<=10){b:Nat}:isB lo hi b=true↔(ndiff (full lo) b=0\/q2s hi (ndiff (full lo) b))/\q7r lo b=false:=by unfold isB;rw[aT,y1r (h.hik.le10 hn),<-h.fullEq,Bool.not_eq_true']
theorem q4w{a b:Nat}:ndiff a b=0↔Sub a b:=by rw[<-qfe,subB,beq_iff_eq]
theorem y9b(h:PairOk n lo hi)(hn:n<=10):isB lo hi (full lo)=true:=by rw[qdy h hn];refine⟨.inl (q4w.2 (Sub.refl _)),?_⟩;rw[<-Bool.not_eq_true,qkj (h.lok.le10 hn)];rintro⟨x,_,⟨h1,h2,h3,_⟩,_⟩;obtain⟨i,hi⟩:=nz.1 h1;have:=y2o (h.lok.le10 hn) i (h2 i hi);simp_all
theorem meets(h:PairOk n lo hi)(hn:n<=10){ill x y:Nat}(hx:isB lo hi x=true)(hy:isB lo hi y=true)(hill:q7r lo ill=false)(ix:Sub ill x)(iy:Sub ill y)(lx:Sub x (full lo))(ly:Sub y (full lo)):isB lo hi (x&&&y)=true:=by
 have hle:=h.lok.le10 hn;obtain⟨ax,sx⟩:=(qdy h hn).1 hx;obtain⟨ay,sy⟩:=(qdy h hn).1 hy;rcases ax with ax|ax;·rw[show x&&&y=y from(Sub.and_right x y).antisymm (fun i hi=>by rw[Nat.testBit_and,q4w.1 ax i (ly i hi),hi];rfl)];omega
 rcases ay with ay|ay;·rw[show x&&&y=x from(Sub.and_left x y).antisymm (fun i hi=>by rw[Nat.testBit_and,q4w.1 ay i (lx i hi),hi];rfl)];omega
 have hU:ndiff (full lo) (x&&&y)=ndiff (full lo) x|||ndiff (full lo) y:=by apply Nat.eq_of_testBit_eq;intro i;simp only[Nat.testBit_or,q08,Nat.testBit_and];cases(full lo).testBit i<;>cases x.testBit i<;>cases y.testBit i<;>rfl
 rw[qdy h hn,hU];refine⟨.inr (ygi ax ay),?_⟩;have bx:∀i,(ndiff (full lo) x).testBit i=true->x.testBit i=false:=fun i hi=>by rw[q08,aT,Bool.not_eq_true']at hi;grind
 have by':∀i,(ndiff (full lo) y).testBit i=true->y.testBit i=false:=fun i hi=>by rw[q08,aT,Bool.not_eq_true']at hi;grind
 have off:∀{a b:Nat},Sub a b->∀i,b.testBit i=false->a.testBit i=false:=fun{a b}hs i hi=>by cases ha:a.testBit i with|false=>rfl|true=>rw[hs i ha]at hi;omega
 obtain⟨m,m1,m2⟩:=qm0 hle hill (qq1 (qoa h ax) fun i hi=>off ix i (bx i hi)) (qq1 (qoa h ay) fun i hi=>off iy i (by' i hi));have claim:∀A,QL lo (x&&&y) A->ndiff A x≠0:=by intro A hA h0;have hsub:=q4w.1 h0;obtain⟨i,hi⟩:=nz.1 hA.1;have hxy:=hA.2.2.1 i hi;rw[Nat.testBit_and,hsub i hi,tA']at hxy;have hAy:=qas (Sub.and_right x y) hA (qo0.2 ⟨i,hi,hxy⟩);have hUy:=qas (qxa y) (yct (qoa h ax)) (qo0.2 ⟨m,m1,by' m m2⟩);obtain⟨j,j1,j2⟩:=qm0 hle sy hAy hUy;rw[q08,aT]at j1 j2;grind
 rw[<-Bool.not_eq_true,qkj hle];rintro⟨A,B,hA,hB,hAB⟩;obtain⟨j,j1,j2⟩:=qm0 hle sx (qas (Sub.and_left x y) hA (claim A hA)) (qas (Sub.and_left x y) hB (claim B hB));rw[q08,aT]at j1 j2;exact qxp.2 ⟨j,j1.1,j2.1⟩ hAB
def alls(lo hi:Config)(ill:Nat):List Nat:=(qag (full lo)).filter fun b=>ndiff ill b==0&&isB lo hi b
theorem q6g{ill b:Nat}:b∈alls lo hi ill↔Sub b (full lo)/\Sub ill b/\isB lo hi b=true:=by unfold alls;rw[List.mem_filter,q4v,aT,beq_iff_eq,q4w]
theorem y2f(h:PairOk n lo hi)(hn:n<=10){ill:Nat}(hill:Sub ill (full lo)):full lo∈alls lo hi ill:=q6g.2 ⟨Sub.refl _,hill,y9b h hn⟩
def ands:List Nat->Nat->Nat:=fun l a=>l.foldl (fun a b=>a&&&b) a
theorem qz3:∀(l:List Nat)(a:Nat),Sub (ands l a) a/\∀b∈l,Sub (ands l a) b
 |[],a=>⟨Sub.refl _,fun b hb=>by grind⟩|x::l,a=>by
  obtain⟨h1,h2⟩:=qz3 l (a&&&x);refine⟨h1.trans (Sub.and_left _ _),fun b hb=>?_⟩;rcases List.mem_cons.1 hb with rfl|hb;·exact h1.trans (Sub.and_right _ _)
  .exact h2 b hb
theorem qlv{p:Nat->Prop}(hp:∀a b,p a->p b->p (a&&&b)):∀(l:List Nat)(a:Nat),p a->(∀b∈l,p b)->p (ands l a)|[],_,ha,_=>ha|x::l,a,ha,h=>qlv hp l (a&&&x) (hp a x ha (h x (by simp))) (fun b hb=>h b (by grind))
theorem yei{z:Nat}:∀(l:List Nat)(a:Nat),Sub z a->(∀b∈l,Sub z b)->Sub z (ands l a):=fun l a ha h=>qlv (p:=fun b=>Sub z b) (fun a b ha hb i hi=>by rw[Nat.testBit_and,ha i hi,hb i hi];rfl) l a ha h
def bef(lo hi:Config)(ill:Nat):Nat:=if q7r lo ill then full lo else ands (alls lo hi ill) (full lo)
theorem yeh{ill:Nat}(hill:Sub ill (full lo)):Sub ill (bef lo hi ill):=by
 unfold bef;split;·omega
 .exact yei _ _ hill fun b hb=>(q6g.1 hb).2.1
theorem y26(h:PairOk n lo hi)(hn:n<=10){ill:Nat}(hill:Sub ill (full lo))(hs:q7r lo ill=false):bef lo hi ill∈alls lo hi ill:=by unfold bef;rw[hs];exact qlv (p:=fun b=>b∈alls lo hi ill) (fun a b ha hb=>by obtain⟨a1,a2,a3⟩:=q6g.1 ha;obtain⟨b1,b2,b3⟩:=q6g.1 hb;exact q6g.2 ⟨(Sub.and_left _ _).trans a1,fun i hi=>by rw[Nat.testBit_and,a2 i hi,b2 i hi];rfl,meets h hn a3 b3 hs a2 b2 a1 b1⟩) _ _ (y2f h hn hill) fun b hb=>hb
theorem qmf(h:PairOk n lo hi)(hn:n<=10){ill:Nat}(hill:Sub ill (full lo))(h0:ndiff (full lo) (bef lo hi ill)≠0):q7r lo ill=false/\q2s hi (ndiff (full lo) (bef lo hi ill)):=by cases hs:q7r lo ill with|true=>exfalso;apply h0;rw[q4w];unfold bef;rw[hs];exact Sub.refl _|false=>obtain⟨_,_,hb⟩:=q6g.1 (y26 h hn hill hs);exact⟨rfl,((qdy h hn).1 hb).1.resolve_left h0⟩
theorem yev{c:Config}(h:ConfOk n c)(_hn:n<=10){k:Nat}(hk:(decl c).testBit k=true):Sub (uses (tr c k)) (full c):=by obtain⟨m,m1,m2,m3⟩:=q56 hk;have:=(h.good m (List.mem_of_getElem? m1) m3).2;rw[m2];exact qdf.1 (qgb _ this)
theorem qxg{c:Config}(h:ConfOk n c)(hn:n<=10){k s z:Nat}(hk:(decl c).testBit k=true)(hs:∀i,(full c).testBit i=true->s.testBit i=z.testBit i):sat s (tr c k)=sat z (tr c k):=by apply qx1;intro j hj;obtain⟨i,rfl,hi,hb⟩:=qr1 hj;rw[q36 hi,q36 hi];exact hs i (yev h hn hk i hb)
theorem follows(h:PairOk n lo hi)(hn:n<=10){ill x g:Nat}(hill:Sub ill (full lo))(hg:q2s lo g)(h0:g&&&ndiff (full lo) (bef lo hi ill)≠0)(hx:Sub (g&&&ndiff (full lo) (bef lo hi ill)) x)(hne:¬Sub (ndiff (full lo) (bef lo hi ill)) x):∃v,(ndiff (full lo) (bef lo hi ill)).testBit v=true/\x.testBit v=false/\blk lo v (ndiff (full lo) (bef lo hi ill)&&&x)=true:=by
 have hle:=h.lok.le10 hn;have ha0:ndiff (full lo) (bef lo hi ill)≠0:=by obtain⟨i,_,h2⟩:=qxp.1 h0;exact nz.2 ⟨i,h2⟩
 obtain⟨hs,hq⟩:=qmf h hn hill ha0;have hb:=y26 h hn hill hs;obtain⟨_,_,hbi⟩:=q6g.1 hb;have hsb:=((qdy h hn).1 hbi).2;generalize hB:bef lo hi ill=b at*;apply Classical.byContradiction;intro hno;have hno':∀v,(ndiff (full lo) b).testBit v=true->x.testBit v=false->blk lo v (ndiff (full lo) b&&&x)=false:=fun v h1 h2=>by cases hk:blk lo v (ndiff (full lo) b&&&x)with|false=>rfl|true=>exact absurd ⟨v,h1,h2,hk⟩ hno
 have hdec:Sub (ndiff (full lo) b) (decl lo):=by rw[h.dec];exact hq.2.1
 have hW0:ndiff (ndiff (full lo) b) x≠0:=fun e=>hne (q4w.1 e);have hW:QL lo b (ndiff (ndiff (full lo) b) x):=by
  refine⟨hW0,fun i hi=>hdec i ?_,fun i hi=>?_,fun k hk=>?_⟩;·rw[q08,aT]at hi;exact hi.1
  .rw[q08,q08]at hi;simp only[aT,Bool.not_eq_true']at hi;exact hi.1.2
  .rw[q08 (ndiff (full lo) b) x,aT,Bool.not_eq_true']at hk;have hkd:=hdec k hk.1;have:=hno' k hk.1 hk.2;unfold blk at this;rw[hkd,tA',Bool.not_eq_false']at this;rw[<-this];apply qxg h.lok hn hkd;intro i hi;have h10:(1023:Nat).testBit i=true:=by rw[qf6,dT']at hi;rw[qj3,dT'];omega
   rw[Nat.testBit_or,Nat.testBit_or,q08,q08,q08,Nat.testBit_and,q08,q95,hi,h10];by_cases hki:k=i;·subst hki;rw[hk.2];have:=hk.1;rw[q08,hi,tA']at this;simp[this]
   .rw[decide_eq_false hki];cases b.testBit i<;>cases x.testBit i<;>rfl
 have hgl:=qas (qxa b) (yct hg) (by obtain⟨i,h1,h2⟩:=qxp.1 h0;rw[q08,aT,Bool.not_eq_true']at h2;exact qo0.2 ⟨i,h1,h2.2⟩);obtain⟨i,i1,i2⟩:=qm0 hle hsb hW hgl;rw[q08,aT,Bool.not_eq_true']at i1;rw[q08,aT]at i2;have:=hx i (by rw[Nat.testBit_and,i2.1,i1.1];rfl);simp_all
theorem y7e{m:Nat}:∀t:Trust,good t=true->uses t<2^m->below (m:Int) t=true:=by
 apply Trust.ind;intro t ih hg hu;rw[qbn]at hg;simp only[aT,dT']at hg;obtain⟨_,_,hN,_,hI⟩:=hg;rw[q85]at hu;have hu':=q81.1 hu;rw[qyb,aT];refine⟨?_,?_⟩;·rw[List.all_eq_true];intro k hk;have hkr:=List.all_eq_true.1 hN k hk;have h1:=qlh hk hkr;obtain⟨j,rfl,hj,hb⟩:=qr1 h1;have h2:=hu' j (by rw[Nat.testBit_or,hb];rfl);simp_all
 .have hgs:∀l:List Trust,goods l=true->∀x∈l,good x=true:=by intro l;induction l with|nil=>simp|cons y r ihr=>intro h x hx;simp only[goods,aT]at h;grind
  have key:∀l:List Trust,(∀x∈l,below (m:Int) x=true)->q62 (m:Int) l=true:=by intro l;induction l with|nil=>intro _;rfl|cons y r ihr=>intro h;simp only[q62,h y (by simp),ihr (fun x hx=>h x (by grind)),Bool.and_self]
  refine key _ fun x hx=>ih x hx (hgs _ hI x hx) ?_;exact q81.2 fun i hi=>hu' i (by rw[Nat.testBit_or,qkf hx i hi,Bool.or_true])
theorem ValidC.conf{c:Config}{n:Nat}(h:ValidC c)(h1:1<=c.Members.length)(h2:c.Members.length<=n):ConfOk n c:=⟨h1,h2,fun m hm=>by
  have:=h.2 m hm;unfold MemV at this;unfold MemOk;split;·rename_i hd;rw[if_pos hd]at this;exact⟨this.1,y7e _ (y1f this.1) this.2⟩
  simp_all⟩
theorem y54(a b:Bool)(d:List Trust):(memJ a d).Declared=(memJ b d).Declared:=by match d with|[]=>rfl|[_]=>rfl|_::_::_=>rfl
theorem qw6{s:Nat}:∀{l:List Trust},1<=sats s l↔∃x∈l,sat s x=true|[]=>by simp[sats]|x::r=>by have ih:=qw6 (s:=s) (l:=r);simp only[sats,List.mem_cons,exists_eq_or_imp,<-ih];cases sat s x<;>simp<;>omega
theorem y2z(s:Nat):∀l:List Trust,sats s l<=l.length|[]=>by simp[sats]|x::r=>by have:=y2z s r;simp only[sats,List.length_cons];split<;>omega
theorem qza{s:Nat}:∀{l:List Trust},l.length<=sats s l↔∀x∈l,sat s x=true|[]=>by simp|x::r=>by have ih:=qza (s:=s) (l:=r);have h2:=y2z s r;simp only[sats,List.length_cons,List.mem_cons,forall_eq_or_imp,<-ih];grind
theorem qqg{s:Nat}{d:List Trust}(h0:d≠[]):sat s (memJ true d).Trust=true↔∀x∈d,sat s x=true:=by match d,h0 with|[x],_=>simp[memJ]|x::y::r,_=>rw[<-qza];unfold memJ;rw[qad];simp only[if_true,cnt,List.countP_nil,Nat.zero_add,dT'];omega
theorem qwa{s:Nat}{d:List Trust}(h0:d≠[]):sat s (memJ false d).Trust=true↔∃x∈d,sat s x=true:=by match d,h0 with|[x],_=>simp[memJ]|x::y::r,_=>rw[<-qw6];unfold memJ;rw[qad];simp only[fT,if_false,cnt,List.countP_nil,Nat.zero_add,dT'];omega
theorem q51(a:Bool)(l:List (List Trust)):(joinC a l).Members.length=l.length:=by unfold joinC;simp
theorem qb0(a:Bool)(l:List (List Trust))(k:Nat):(joinC a l).Members[k]?=(l[k]?).map fun x=>memJ a (diffs x):=by unfold joinC;simp
theorem qmi(a b:Bool)(l:List (List Trust)):decl (joinC a l)=decl (joinC b l):=by apply Nat.eq_of_testBit_eq;intro i;rw[Bool.eq_iff_iff,q2r,q2r,qb0,qb0];cases h:l[i]? with|none=>simp|some x=>simp[y54 a b]
theorem qgz{a:Bool}{l:List (List Trust)}(h:joinE a l=0):l.length<=10/\qd4 l=0/\cerr (joinC a l)=0:=by unfold joinE at h;omega
theorem y73{n:Nat}{l:List (List Trust)}(h1:1<=l.length)(h2:l.length<=n)(e0:joinE false l=0)(e1:joinE true l=0):PairOk n (joinC false l) (joinC true l):=by obtain⟨_,_,c0⟩:=qgz e0;obtain⟨_,_,c1⟩:=qgz e1;refine⟨(q29.1 c0).conf (by rw[q51];omega) (by rw[q51];omega),(q29.1 c1).conf (by rw[q51];omega) (by rw[q51];omega),by rw[q51,q51],qmi _ _ _,fun k s hk hs h=>?_⟩;obtain⟨m,m1,m2,m3⟩:=q56 hk;rw[qmi false true]at hk;obtain⟨m',m1',m2',m3'⟩:=q56 hk;rw[qb0]at m1 m1';cases hx:l[k]? with|none=>simp_all|some x=>
  rw[hx]at m1 m1';simp only[mS,sI]at m1 m1';have h0:diffs x≠[]:=fun e=>by rw[<-m1,e]at m3;cases m3
  rw[m2,<-m1,qwa h0];rw[m2',<-m1',qqg h0]at h;obtain⟨y,r,hy⟩:=List.exists_cons_of_ne_nil h0;simp_all
theorem yb3{a b:Int}(h:a=b):neB a b=false:=by rw[h,q0h]
theorem q60{c:Config}(hn:c.Members.length<=10):z4u c=some ((full c:Nat):Int):=by apply yij;rw[q0g (by omega),q9d hn];rfl
theorem qpa{c:Config}{i:Nat}{m:Member}(h:c.Members[i]?=some m)(hi:i<10):(decl c).testBit i=m.Declared:=by rw[Bool.eq_iff_iff,q2r];simp_all
theorem ybe{c:Config}{i:Nat}{m:Member}(h:c.Members[i]?=some m):tr c i=m.Trust:=by unfold tr;simp_all
theorem ValidC.mem{c:Config}(h:ValidC c){i:Nat}{m:Member}(hm:c.Members[i]?=some m)(hd:m.Declared=true):valid m.Trust=true/\uses m.Trust<2^c.Members.length:=by have:=h.2 m (List.mem_of_getElem? hm);unfold MemV at this;simp_all
def impK(lo hi:Config)(k:Nat):Bool:=!(decl lo).testBit k||impB (tr hi k) (tr lo k)
def impsB(lo hi:Config):Bool:=(List.range' 0 lo.Members.length).all (impK lo hi)
def pairE(lo hi:Config):Int:=if cerr lo≠0 then cerr lo else if cerr hi≠0 then cerr hi else if lo.Members.length≠hi.Members.length then 1 else if decl lo≠decl hi then 1 else if 7<lo.Members.length then 3 else if impsB lo hi=true then 0 else 14
theorem q5v{lo hi:Config}(h:pairE lo hi=0):ValidC lo/\ValidC hi/\lo.Members.length=hi.Members.length/\decl lo=decl hi/\lo.Members.length<=7:=by
 unfold pairE at h;split at h;·omega
 .rename_i h1;split at h;·omega
  .rename_i h2;split at h;·cases h
   .rename_i h3;split at h;·cases h
    .rename_i h4;split at h;·cases h
     .rename_i h5;exact⟨q29.1 (Classical.not_not.1 h1),q29.1 (Classical.not_not.1 h2),Classical.not_not.1 h3,Classical.not_not.1 h4,by omega⟩
theorem y64{n:Nat}{lo hi:Config}(h:PairOk n lo hi)(hn:n<=7):pairE lo hi=0:=by have h1:=(h.lok.valid (by omega)).cerr;have h2:=(h.hik.valid (by omega)).cerr;have hle:=h.lok.le;unfold pairE;rw[h1,h2,if_neg (by simp),if_neg (by simp),if_neg (by rw[h.len];simp),if_neg (by rw[h.dec];simp),if_neg (by omega),if_pos];unfold impsB;rw[List.all_eq_true];intro k _;unfold impK;cases hd:(decl lo).testBit k with|false=>rfl|true=>simp only[nT,Bool.false_or];exact qy9.2 fun s hs=>h.imp k s hd hs
def impN(n:Nat)(a b:Trust):Bool:=(List.range' 0 (2^n)).all fun s=>!sat s a||sat s b
theorem yeg{n:Nat}(hn:n<=10){a b:Trust}(ha:uses a<2^n)(hb:uses b<2^n):impN n a b=impB a b:=by
 rw[Bool.eq_iff_iff,qy9];unfold impN;rw[List.all_eq_true];have cut:∀(t:Trust)(s:Nat),uses t<2^n->sat (s&&&(2^n-1)) t=sat s t:=fun t s ht=>qx1 t fun k hk=>by obtain⟨i,rfl,hi,hb⟩:=qr1 hk;have:=q81.1 ht i hb;rw[q36 hi,q36 hi,Nat.testBit_and,this,Bool.and_true]
 constructor
 .intro h s _ hsa;have hlt:s&&&(2^n-1)<2^n:=by have:=Nat.two_pow_pos n;have:=Nat.and_le_right (n:=s) (m:=2^n-1);omega
  grind
 .intro h s hs;rw[List.mem_range'_1]at hs;have hp:=pow10 hn;grind
theorem qq7{lo hi:Config}(hv:ValidC lo){k:Nat}{m m':Member}(g1:lo.Members[k]?=some m)(g2:hi.Members[k]?=some m')(s1:Small m.Trust)(s2:Small m'.Trust){len r:Int}(K:z3d len ((k+1:Nat):Int) lo.Members hi.Members=some r)(hk:k<100):∀(j s:Nat),s+j=2^lo.Members.length->z48 (k:Int) (s:Int) len (k:Int) lo.Members hi.Members=some (if((List.range' s j).all fun s=>!sat s m'.Trust||sat s m.Trust)=true then r else 14)
 |0,s,h=>by
  apply ycs;rw[show Config.mk lo.Members=lo from rfl,q60 hv.1];simp only[bS];have:full lo<s:=by have:=Nat.two_pow_pos lo.Members.length;unfold full;omega
  rw[q12 (by omega)];simp only[cF];rw[q02 (by omega)];exact K|j+1,s,h=>by
  have hp:=pow10 hv.1;have ih:=qq7 hv g1 g2 s1 s2 K hk j (s+1) (by omega);apply ycs;rw[show Config.mk lo.Members=lo from rfl,q60 hv.1];simp only[bS];have:s<=full lo:=by unfold full;omega
  rw[q10 (by omega)];simp only[cT];rw[q0j (by omega) (by rw[tN];omega),q5w (by omega) m'.Trust s2];simp only[bS];rw[q02 (by omega),ih,List.range'_succ,List.all_cons];cases hb:sat s m'.Trust with|false=>rfl|true=>simp only[cT];rw[q0j (by omega) (by rw[tN];exact g1),q5w (by omega) m.Trust s1];grind
theorem qsk{lo hi:Config}(hv:ValidC lo)(hw:ValidC hi)(hl:lo.Members.length=hi.Members.length)(hd:decl lo=decl hi):∀(n i:Nat),i+n=lo.Members.length->z3d ((lo.Members.length:Nat):Int) (i:Int) lo.Members hi.Members=some (if(List.range' i n).all (impK lo hi)=true then 0 else 14)|0,i,h=>by apply yao;rw[q00 (by omega)];rfl|n+1,i,h=>by have hle:=hv.1;have ih:=qsk hv hw hl hd n (i+1) (by omega);have g1:lo.Members[i]?=some lo.Members[i]:=List.getElem?_eq_getElem (by omega);have g2:hi.Members[i]?=some (hi.Members[i]'(by omega)):=List.getElem?_eq_getElem (by omega);apply yao;rw[q03 (by omega)];simp only[cT];rw[q0j (by omega) (by rw[tN];omega)];have e1:=qpa g1 (by omega);have e2:=qpa g2 (by omega);have e3:=e1;rw[hd,e2]at e1;rw[List.range'_succ,List.all_cons,q02 (by omega)];cases hdec:lo.Members[i].Declared with
  |false=>
   have:impK lo hi i=true:=by unfold impK;rw[e3,hdec];rfl
   grind|true=>
   rw[hdec]at e1;have m1:=hv.mem g1 hdec;have m2:=hw.mem g2 e1;have:impK lo hi i=impN lo.Members.length (hi.Members[i]'(by omega)).Trust lo.Members[i].Trust:=by rw[yeg hv.1 (by rw[hl];exact m2.2) m1.2];unfold impK;rw[e3,hdec,ybe g1,ybe g2];simp only[nT,Bool.false_or]
   simp only[nT,cF];have key:=qq7 hv g1 g2 (q1l m1.1) (q1l m2.1) ih (by omega) (2^lo.Members.length) 0 (by omega);rw[this];refine Eq.trans key ?_;rw[show((List.range' 0 (2^lo.Members.length)).all fun s=>!sat s (hi.Members[i]'(by omega)).Trust||sat s lo.Members[i].Trust)=impN lo.Members.length (hi.Members[i]'(by omega)).Trust lo.Members[i].Trust from rfl];grind
theorem qki{lo hi:Config}(hs:q1a lo)(hs':q1a hi):z7e lo hi=some (pairE lo hi):=by
 have h1:=hs.1;have h2:=hs'.1;apply yhy;rw[q6d hs];simp only[bS];unfold pairE;by_cases e1:cerr lo=0
 .rw[e1,q0h,if_neg (by simp),q6d hs'];simp only[cF,bS];by_cases e2:cerr hi=0
  .rw[e2,q0h,if_neg (by simp)];simp only[cF];by_cases e3:lo.Members.length=hi.Members.length
   .rw[yb3 (by rw[e3]),if_neg (by omega),q4p lo h1,q4p hi h2];simp only[cF,bS];by_cases e4:decl lo=decl hi
    .rw[yb3 (by rw[e4]),if_neg (by omega)];simp only[cF];by_cases e5:7<lo.Members.length;·rw[q03 (by omega),if_pos e5];rfl
     .rw[q00 (by omega),if_neg e5];simp only[cF];exact qsk (q29.1 e1) (q29.1 e2) e3 e4 lo.Members.length 0 (by omega)
    .rw[q0w (by omega),if_pos e4];rfl
   .rw[q0w (by omega),if_pos e3];rfl
  .rw[q0w e2,if_pos e2];rfl
 .rw[q0w e1,if_pos e1];rfl
theorem qvw{c:Config}(hv:ValidC c)(z:Int):z8f c z=some (askE c z):=by
 apply yhs;unfold askE;rw[hv.cerr,if_neg (by simp)];by_cases h0:z<0;·rw[q03 h0,if_pos h0];rfl
 .rw[q00 (by omega),if_neg h0,q60 hv.1];simp only[cF,bS,full];by_cases h1:((2^c.Members.length-1:Nat):Int)<z;·rw[q03 h1,if_pos h1];rfl
  .rw[q00 (by omega),if_neg h1];rfl
def qyp(c:Config)(z:Int):Bool×Int:=if askE c z=0 then(!q7r c z.toNat,0)else(false,askE c z)
def avaR(c:Config)(z:Int):Bool×Int:=if askE c z=0 then(qk7 c z.toNat,0)else(false,askE c z)
theorem qqv{c:Config}(hc:q1a c)(z:Int):z59 c z=some (qyp c z):=by
 apply ygw;rw[q6d hc];simp only[bS,qyp];by_cases he:cerr c=0
 .rw[he,q0h,qvw (q29.1 he)];simp only[cF,bS];by_cases h:askE c z=0;·obtain⟨hv,s,rfl,hs⟩:=qku h;rw[h,q0h,qp1 (qf3 hv.1 hs) c hv.bears];simp only[bS,cF,if_true];rw[y3c (qmo s hv).small (qmo s hv).cerr];rfl
  .rw[q0w h,if_neg h];rfl
 .have h:askE c z=cerr c:=by unfold askE;omega
  rw[q0w he,h,if_neg he];rfl
theorem qnc{c:Config}(hn:c.Members.length<=10){s:Nat}(hs:s<2^c.Members.length):subI .i64 ((full c:Nat):Int) ((s:Nat):Int)=((ndiff (full c) s:Nat):Int):=by have:=qgl hn;rw[qek (by unfold full;omega) (by omega)];unfold full;rw[qne hs]
theorem y67{c:Config}(hc:q1a c)(z:Int):z75 c z=some (avaR c z):=by
 apply yih;rw[q6d hc];simp only[bS,avaR];by_cases he:cerr c=0
 .rw[he,q0h,qvw (q29.1 he)];simp only[cF,bS];by_cases h:askE c z=0;·obtain⟨hv,s,rfl,hs⟩:=qku h;rw[h,q0h,q60 hv.1];simp only[bS,cF,if_true];rw[qnc hv.1 hs,y56,tN];unfold qk7;cases h0:(ndiff (full c) s==0)with|true=>simp|false=>simp only[cF,Bool.false_or];rw[qmv (y2x hv.1 s) hv.small];rfl
  .rw[q0w h,if_neg h];rfl
 .have h:askE c z=cerr c:=by unfold askE;omega
  rw[q0w he,h,if_neg he];rfl
def dE(lo hi:Config)(z:Int):Int:=if pairE lo hi=0 then askE lo z else pairE lo hi
theorem y3h{lo hi:Config}(hs:q1a lo)(hs':q1a hi)(z:Int):z8t lo hi z=some (dE lo hi z):=by
 apply ykv;rw[qki hs hs'];simp only[bS,dE];by_cases h:pairE lo hi=0;·rw[h,q0h,qvw (q5v h).1];rfl
 .rw[q0w h,if_neg h];rfl
theorem qu4{lo hi:Config}{z:Int}(h:dE lo hi z=0):pairE lo hi=0/\∃s:Nat,z=(s:Int)/\s<2^lo.Members.length:=by
 unfold dE at h;split at h;·rename_i h1;exact⟨h1,(qku h).2⟩
 omega
theorem yal{lo hi:Config}(h:pairE lo hi=0){s:Nat}(hs:s<2^lo.Members.length):dE lo hi (s:Int)=0:=by unfold dE;rw[if_pos h,qpc (q5v h).1 hs]
theorem qnj{c:Config}(hv:ValidC c){s:Nat}(hs:s<2^c.Members.length):qyp c (s:Int)=(!q7r c s,0):=by unfold qyp;rw[if_pos (qpc hv hs)];rfl
theorem y8p{c:Config}(hv:ValidC c){s:Nat}(hs:s<2^c.Members.length):avaR c (s:Int)=(qk7 c s,0):=by unfold avaR;rw[if_pos (qpc hv hs)];rfl
theorem yh6{lo hi:Config}(h:pairE lo hi=0){s:Nat}(hs:s<2^lo.Members.length):z9d lo hi (s:Int)=some (isB lo hi s):=by obtain⟨hv,hw,hl,_,_⟩:=q5v h;apply yfa;rw[y67 hw.small,y8p hw (by simp_all)];simp only[bS,isB];cases qk7 hi s with|false=>rfl|true=>simp only[nT,cF,tA'];rw[qqv hv.small,qnj hv hs];rfl
theorem y07{a b:Nat}:(a&&&b==b)=(ndiff b a==0):=by
 rw[Bool.eq_iff_iff,beq_iff_eq,beq_iff_eq,q4w];constructor;·intro h i hi;grind
 .intro h;exact(Sub.and_right a b).antisymm fun i hi=>by rw[Nat.testBit_and,h i hi,hi];rfl
theorem y8s(a b:Nat):eqB (a:Int) (b:Int)=(a==b):=by
 by_cases h:a=b;·rw[h,q0f];simp
 .rw[q0i (by omega)];grind
theorem y5t{lo hi:Config}(h:pairE lo hi=0){ill:Nat}(hill:ill<2^lo.Members.length){l:List Nat}(hl:l.length<=1024)(hm:∀s∈l,s<2^lo.Members.length):∀(suf pre:List Nat),l=pre++suf->z4i (ill:Int) ((pre.filter fun b=>ndiff ill b==0&&isB lo hi b).map Int.ofNat) (l.map Int.ofNat) ((l.length:Nat):Int) ((pre.length:Nat):Int) lo.Members hi.Members=some ((l.filter fun b=>ndiff ill b==0&&isB lo hi b).map Int.ofNat,0)
 |[],pre,e=>by rw[List.append_nil]at e;subst e;apply ybf;rw[q00 (Int.le_refl _)];rfl|b::suf,pre,e=>by
  have hn:=(q5v h).1.1;have hd:(l.map Int.ofNat).drop pre.length=(b:Int)::suf.map Int.ofNat:=q6f (by simp_all);have hlt:pre.length<l.length:=by simp_all
  have hb:=hm b (by simp_all);have hb':=qf3 hn hb;have hi':=qf3 hn hill;have hfl:=List.length_filter_le (fun b=>ndiff ill b==0&&isB lo hi b) pre;have ih:=y5t h hill hl hm suf (pre++[b]) (by simp_all);rw[List.filter_append,List.map_append,List.length_append]at ih;apply ybf;rw[q03 (by omega)];simp only[cT,q04 hd];rw[q3r (by omega) (by omega),y8s,y07,q02 (by omega)];cases h1:(ndiff ill b==0)with|false=>simp_all|true=>simp only[cT];rw[show Config.mk lo.Members=lo from rfl,show Config.mk hi.Members=hi from rfl,yh6 h hb];simp only[bS];cases h2:isB lo hi b with|false=>simp_all|true=>rw[List.filter_cons,h1,h2]at ih;simp only[tA',if_true,List.filter_nil]at ih;rw[q05 (by simp[q06];omega)];grind
def allR(lo hi:Config)(z:Int):List Int×Int:=if dE lo hi z=0 then((alls lo hi z.toNat).map Int.ofNat,0)else([],dE lo hi z)
theorem qtr{c:Config}{s:Nat}(h:s∈qag (full c)):s<2^c.Members.length:=qdf.2 (q4v.1 h)
theorem ydc{lo hi:Config}(hs:q1a lo)(hs':q1a hi)(z:Int):z98 lo hi z=some (allR lo hi z):=by
 apply yje;rw[y3h hs hs'];simp only[bS,allR];by_cases h:dE lo hi z=0;·obtain⟨h0,s,rfl,hlt⟩:=qu4 h;have hn:=(q5v h0).1.1;rw[h,q0h,q60 hn];simp only[cF,bS];rw[qli (qgl hn)];simp only[bS,List.length_map];exact y5t h0 hlt (qh0 (qgl hn)) (fun s hs=>qtr hs) _ [] rfl
 .rw[q0w h,if_neg h];rfl
theorem y9n{lo hi:Config}(h:pairE lo hi=0){s:Nat}(hs:s<2^lo.Members.length):allR lo hi (s:Int)=((alls lo hi s).map Int.ofNat,0):=by unfold allR;rw[if_pos (yal h hs)];rfl
theorem y8b{lo hi:Config}(hn:lo.Members.length<=10)(ill:Nat):(alls lo hi ill).length<=1024:=Nat.le_trans (List.length_filter_le _ _) (qh0 (qgl hn))
theorem yed{lo hi:Config}{ill s:Nat}(h:s∈alls lo hi ill):s<2^lo.Members.length:=qdf.2 (q6g.1 h).1
end Go.Proofs.YtdmfjabikomgiaaGreat
namespace Go.Proofs.YtdmfjabikomgiaaGreat
open Go Go.Ab
noncomputable instance:DecidableEq Trust:=fun a b=>Classical.propDecidable (a=b)
theorem Trust.etaM(t:Trust):Trust.mk t.Threshold t.Nodes t.Inner=t:=by simp
theorem qc0(t:Trust):eqB (verr t) 0=valid t:=by have:=q3k t;cases h:valid t with|true=>rw[h]at this;simp[eqB,this.2 rfl]|false=>rw[h]at this;simp only[fT,iff_false]at this;simp[eqB,this]
theorem qrz(t:Trust):neB (verr t) 0=!valid t:=by rw[<-qc0];rfl
theorem qrp(l k:List Int)(hl:l.length<1152921504606846976)(hk:l.length=k.length):∀(suf suk:List Int)(i:Nat),l.drop i=suf->k.drop i=suk->z12 l k ((l.length:Nat):Int) (i:Int)=some (decide (suf=suk))
 |[],suk,i,h,h'=>by
  have:suk=[]:=by rw[<-h',List.drop_eq_nil_iff,<-hk];simp_all
  subst this;apply ybc;rw[q0d h];simp|y::suf,[],i,h,h'=>by have:=q09 h;have:=List.drop_eq_nil_iff.1 h';omega|y::suf,z::suk,i,h,h'=>by
  have hlt:=q09 h;apply ybc;rw[q07 h,cT,q04 h,q04 h',q02 (by omega),qrp l k hl hk suf suk (i+1) (q01 h) (q01 h')];by_cases hx:y=z;·subst hx;rw[q0h];simp
  .rw[q0w hx];simp[hx]
theorem y2t(l k:List Int)(hl:l.length<1152921504606846976):z3h l k=some (decide (l=k)):=by
 apply yhx;by_cases hk:l.length=k.length;·rw[hk,q0h,cF,<-hk];exact qrp l k hl hk l k 0 rfl rfl
 .rw[q0w (by omega),cT];have:l≠k:=fun e=>hk (by rw[e]);simp_all
theorem y1y(l k:List Trust)(hl:l.length<1152921504606846976)(hk:l.length=k.length)(hf:∀x∈l,∀y,z40 x y=some (decide (x=y))):∀(suf suk:List Trust)(i:Nat),l.drop i=suf->k.drop i=suk->z01 k l ((l.length:Nat):Int) (i:Int)=some (decide (suf=suk))
 |[],suk,i,h,h'=>by
  have:suk=[]:=by rw[<-h',List.drop_eq_nil_iff,<-hk];simp_all
  subst this;apply yba;rw[q0d h];simp|y::suf,[],i,h,h'=>by have:=q09 h;have:=List.drop_eq_nil_iff.1 h';omega|y::suf,z::suk,i,h,h'=>by have hlt:=q09 h;apply yba;rw[q07 h,cT,q04 h,q04 h',hf y (List.mem_of_mem_drop (i:=i) (by simp_all)),bS,q02 (by omega),y1y l k hl hk hf suf suk (i+1) (q01 h) (q01 h')];by_cases hx:y=z<;>simp[hx]
theorem qxx:∀a:Trust,Small a->∀b:Trust,z40 a b=some (decide (a=b)):=by
 apply Trust.ind;intro a ih ha b;have hn:=ha.nodes;have hi:=ha.inner;apply yhl;have h1:z0c a.Inner b.Inner=some (decide (a.Inner=b.Inner)):=by
  apply yie;by_cases hk:a.Inner.length=b.Inner.length;·rw[hk,q0h,cF,<-hk];exact y1y a.Inner b.Inner hi hk (fun x hx y=>ih x hx (ha.mem hx) y) a.Inner b.Inner 0 rfl rfl
  .rw[q0w (by omega),cT];have:a.Inner≠b.Inner:=fun e=>hk (by rw[e]);simp_all
 rw[y2t _ _ hn,h1];cases a;cases b;simp only[Trust.mk.injEq,bS];rename_i t n i t' n' i';by_cases h1:t=t'<;>by_cases h2:n=n'<;>by_cases h3:i=i'<;>simp[eqB,h1,h2,h3]
theorem qxt(a:Trust)(ha:Small a)(b:Trust):z3q a b=some (decide (a=b)):=by obtain⟨r,h1,h2⟩:=y4u a ha b;grind
def msgB(m:Message):Bool:=inR m.Node&&(decide (1<=m.Seq)&&(valid m.Trust&&(plainC m.Votes&&plainC m.Accepts)))
structure SmallM(m:Message):Prop where
 tr:Small m.Trust
 votes:m.Votes.length<1000000
 accs:m.Accepts.length<1000000
theorem q2o{l:List Claim}(h:plainC l=true):l.length<=128:=by rw[<-qgr h];exact q3v l
theorem q2a{m:Message}:msgB m=true↔inR m.Node=true/\1<=m.Seq/\valid m.Trust=true/\plainC m.Votes=true/\plainC m.Accepts=true:=by simp[msgB]
theorem q13{m:Message}(h:msgB m=true):SmallM m:=by obtain⟨_,_,h1,h2,h3⟩:=q2a.1 h;have:=q2o h2;have:=q2o h3;exact⟨q1l h1,by omega,by omega⟩
theorem qxy(k:Int):z6k k=some (inR k):=by
 apply yji;by_cases h:0<=k;·simp[leB,ltB,inR,h]
 .simp[leB,ltB,inR,h]
theorem qdc{m:Message}(h:SmallM m):z1v m=some (msgB m):=by apply yjg;rw[qxy,q9b _ h.tr,qb6 _ (by have:=h.votes;omega),qb6 _ (by have:=h.accs;omega)];simp only[bS,qc0,msgB,leB];cases inR m.Node<;>cases decide (1<=m.Seq)<;>cases valid m.Trust<;>cases plainC m.Votes<;>rfl
theorem qa3{m:Message}(h:SmallM m):z3a m=some (msgB m):=by apply ygf;rw[q7j _ h.tr,qb9 _ (by have:=h.votes;omega),qb9 _ (by have:=h.accs;omega)];simp only[bS,qc0,msgB,leB,ltB,inR];cases decide (0<=m.Node)<;>cases decide (m.Node<10)<;>cases decide (1<=m.Seq)<;>cases valid m.Trust<;>cases plainC m.Votes<;>rfl
theorem qnf:∀t:Trust,Fits t->z3v t=some t:=by
 apply Trust.ind;intro t ih ht;have hsz:size t<1073741824:=ht;rw[q3m]at hsz;have l1:∀(suf:List Trust)(i:Nat)(acc:List Trust)(a8:Int)(a10:List Int)(a12:List Trust)(a14:Int)(a16:List Int)(a18:List Trust)(a20:Int)(a22:List Int),t.Inner.drop i=suf->acc.length<=i->z2q t.Inner ((t.Inner.length:Nat):Int) (i:Int) a8 a10 a12 a14 a16 a18 a20 a22 acc=some ⟨a20,a22,acc++suf⟩:=by intro suf;induction suf with|nil=>intro i acc a8 a10 a12 a14 a16 a18 a20 a22 h ha;apply yaj;simp only[q0d h,cF,List.append_nil]|cons y suf ihs=>intro i acc a8 a10 a12 a14 a16 a18 a20 a22 h ha;have hlt:=q09 h;have hy:y∈t.Inner:=List.mem_of_mem_drop (by rw[h];exact List.mem_cons_self);apply yaj;simp only[q07 h,cT,q04 h,ih y hy (ht.mem hy),bS,q02 (show i<4611686018427387904 by omega),Trust.etaM];rw[q05 (by simp[q06];omega),ihs (i+1) (acc++[y]) _ _ _ _ _ _ _ _ (q01 h) (by simp;omega)];simp
 apply yi1;rw[q05 (by simp[q06];omega),show(0:Int)=((0:Nat):Int)from rfl,l1 t.Inner 0 [] _ _ _ _ _ _ _ _ rfl (Nat.le_refl _)];simp
def seeM(ms:List Member)(m:Message):List Member:=ms.set m.Node.toNat ⟨true,m.Trust⟩
def viewC(v:Int)(t:Trust)(l:List Message):Config:=⟨(l.foldl seeM (List.replicate 10 ⟨false,⟨0,[],[]⟩⟩)).set v.toNat ⟨true,t⟩⟩
theorem q4e{k:Int}(h:inR k=true):0<=k/\k.toNat<10:=by simp[inR]at h;omega
theorem qx8{v:Int}{t:Trust}(hv:inR v=true)(ht:valid t=true)(l:List Message)(hl:l.length<1152921504606846976)(hm:∀m∈l,msgB m=true/\m.Node≠v):∀(suf:List Message)(i:Nat)(ms:List Member)(a17:List Member),l.drop i=suf->ms.length=10->z1p v l ((l.length:Nat):Int) (i:Int) t.Threshold t.Nodes t.Inner a17 ms=some ⟨(suf.foldl seeM ms).set v.toNat ⟨true,t⟩⟩|[],i,ms,a17,h,hms=>by obtain⟨h0,h10⟩:=q4e hv;apply ycx;rw[q0d h,cF,qxy,bS,hv,cT,Trust.etaM,q9b _ (q1l ht),bS,qc0,ht,cT,qnf _ (q3l ht).1,bS,Trust.etaM,q0j (y:=ms[v.toNat]'(by omega)) h0 (by simp),q3p (y:=ms[v.toNat]'(by omega)) (by simp)];rfl|m::suf,i,ms,a17,h,hms=>by have hlt:=q09 h;obtain⟨g1,g2⟩:=hm m (List.mem_of_mem_drop (i:=i) (by simp_all));obtain⟨k1,_,k3,_⟩:=q2a.1 g1;obtain⟨h0,h10⟩:=q4e k1;apply ycx;rw[q07 h,cT,q04 h,q0w g2,cT,qdc (q13 g1),bS,g1,cT,qnf _ (q3l k3).1,bS,Trust.etaM,q0j (y:=ms[m.Node.toNat]'(by omega)) h0 (by simp),q3p (y:=ms[m.Node.toNat]'(by omega)) (by simp),q02 (by omega),qx8 hv ht l hl hm suf (i+1) _ a17 (q01 h) (by grind)];rfl
theorem y9a{v:Int}{t:Trust}(hv:inR v=true)(ht:valid t=true)(l:List Message)(hl:l.length<1152921504606846976)(hm:∀m∈l,msgB m=true/\m.Node≠v):z6l v t l=some (viewC v t l):=by apply yic;exact qx8 hv ht l hl hm l 0 _ _ rfl rfl
theorem qyl{v:Int}{t:Trust}(hv:inR v=true)(ht:valid t=true)(l:List Message)(hl:l.length<1152921504606846976)(hm:∀m∈l,msgB m=true/\m.Node≠v):∀(suf:List Message)(i:Nat)(ms:List Member)(a17:List Member),l.drop i=suf->ms.length=10->z56 v l ((l.length:Nat):Int) (i:Int) t.Threshold t.Nodes t.Inner a17 ms=some ⟨(suf.foldl seeM ms).set v.toNat ⟨true,t⟩⟩|[],i,ms,a17,h,hms=>by obtain⟨h0,h10⟩:=q4e hv;apply yas;rw[q0d h,cF,q10 h0,cT,q03 (by omega),cT,q0j (y:=ms[v.toNat]'(by omega)) h0 (by simp),q3p (y:=ms[v.toNat]'(by omega)) (by simp),Trust.etaM,q7j _ (q1l ht),bS,qc0,ht,cT,q0j (y:=⟨false,⟨0,[],[]⟩⟩) h0 (by simp_all),q3p (y:=⟨false,⟨0,[],[]⟩⟩) (by simp_all),List.set_set];rfl|m::suf,i,ms,a17,h,hms=>by have hlt:=q09 h;obtain⟨g1,g2⟩:=hm m (List.mem_of_mem_drop (i:=i) (by simp_all));obtain⟨k1,_,k3,_⟩:=q2a.1 g1;obtain⟨h0,h10⟩:=q4e k1;apply yas;rw[q07 h,cT,q04 h,qa3 (q13 g1),bS,g1,cT,Trust.etaM,q0j (y:=ms[m.Node.toNat]'(by omega)) h0 (by simp),q3p (y:=ms[m.Node.toNat]'(by omega)) (by simp),q02 (by omega),qyl hv ht l hl hm suf (i+1) _ a17 (q01 h) (by grind)];rfl
theorem qw8{v:Int}{t:Trust}(hv:inR v=true)(ht:valid t=true)(l:List Message)(hl:l.length<1152921504606846976)(hm:∀m∈l,msgB m=true/\m.Node≠v):z7d v t l=some (viewC v t l):=by apply yj9;exact qyl hv ht l hl hm l 0 _ _ rfl rfl
def who(p:Message->Bool)(l:List Message):Nat:=l.foldl (fun s m=>if p m then s|||bit m.Node else s) 0
def whoF(p:Message->Bool)(s:Nat)(l:List Message):Nat:=l.foldl (fun s m=>if p m then s|||bit m.Node else s) s
def votes(l:List Message)(x:Claim):Nat:=who (fun m=>decide (x∈m.Votes)) l
def q0t(l:List Message)(x:Claim):Nat:=who (fun m=>decide (x∈m.Accepts)) l
theorem q8n(p:Message->Bool)(s:Nat)(m:Message)(l:List Message):whoF p s (m::l)=whoF p (if p m then s|||bit m.Node else s) l:=rfl
theorem qtw(p:Message->Bool):∀(l:List Message)(s:Nat),s<1024->(∀m∈l,inR m.Node=true)->whoF p s l<1024
 |[],s,h,_=>h|m::l,s,h,hm=>by
  rw[q8n];refine qtw p l _ ?_ fun m hm'=>hm m (by simp[hm']);split;·exact or_lt h (qa6 (hm m (by simp)))
  omega
theorem shlOr{s:Nat}{k:Int}(hs:s<1024)(h:inR k=true):orI .i64 (s:Int) (shlI .i64 1 k)=((s|||bit k:Nat):Int):=by have:=qa6 h;rw[qgv h,q2y (by omega) (by omega)]
section
variable (l : List Message) (hl : l.length < 1152921504606846976) (hm : ∀ m ∈ l, msgB m = true) (x : Claim)
include hl hm
theorem qle:∀(suf:List Message)(i s:Nat),l.drop i=suf->s<1024->z0a (s:Int) l ((l.length:Nat):Int) (i:Int) x.Topic x.Value=some ((whoF (fun m=>decide (x∈m.Votes)) s suf:Nat):Int)
 |[],i,s,h,hs=>by apply ya9;rw[q0d h];rfl|m::suf,i,s,h,hs=>by
  have hlt:=q09 h;have g1:=hm m (List.mem_of_mem_drop (i:=i) (by simp_all));obtain⟨k1,_⟩:=q2a.1 g1;have hf:z6d m=some m.Votes:=ygz _ _ rfl;have hsm:=(q13 g1).votes;apply ya9;rw[q07 h,cT,q04 h,qdc (q13 g1),bS,g1,cT,hf,bS,show Claim.mk x.Topic x.Value=x from rfl,ql6 _ (by omega),bS,q02 (by omega),q8n,q0g (q4e k1).1,shlOr hs k1];by_cases hx:x∈m.Votes;·simp only[hx,decide_true,cT,if_true];exact qle suf (i+1) _ (q01 h) (or_lt hs (qa6 k1))
  .simp only[hx,decide_false,cF,fT,if_false];exact qle suf (i+1) _ (q01 h) hs
theorem y4c:z79 l x=some ((votes l x:Nat):Int):=by apply yju;have h:z0y l x=some ((votes l x:Nat):Int):=yj7 _ _ _ (qle l hl hm x l 0 0 rfl (by decide));simp_all
theorem qoc:∀(suf:List Message)(i s:Nat),l.drop i=suf->s<1024->z08 (s:Int) l ((l.length:Nat):Int) (i:Int) x.Topic x.Value=some ((whoF (fun m=>decide (x∈m.Accepts)) s suf:Nat):Int)
 |[],i,s,h,hs=>by apply ybt;rw[q0d h];rfl|m::suf,i,s,h,hs=>by
  have hlt:=q09 h;have g1:=hm m (List.mem_of_mem_drop (i:=i) (by simp_all));obtain⟨k1,_⟩:=q2a.1 g1;have hf:z4p m=some m.Accepts:=yfp _ _ rfl;have hsm:=(q13 g1).accs;apply ybt;rw[q07 h,cT,q04 h,qdc (q13 g1),bS,g1,cT,hf,bS,show Claim.mk x.Topic x.Value=x from rfl,ql6 _ (by omega),bS,q02 (by omega),q8n,q0g (q4e k1).1,shlOr hs k1];by_cases hx:x∈m.Accepts;·simp only[hx,decide_true,cT,if_true];exact qoc suf (i+1) _ (q01 h) (or_lt hs (qa6 k1))
  .simp only[hx,decide_false,cF,fT,if_false];exact qoc suf (i+1) _ (q01 h) hs
theorem qzl:z47 l x=some ((q0t l x:Nat):Int):=by apply yi6;have h:z0u l x=some ((q0t l x:Nat):Int):=yh1 _ _ _ (qoc l hl hm x l 0 0 rfl (by decide));simp_all
theorem qj4:∀(suf:List Message)(i s:Nat),l.drop i=suf->s<1024->z3g (s:Int) l ((l.length:Nat):Int) (i:Int) x.Topic x.Value=some ((whoF (fun m=>decide (x∈m.Votes)) s suf:Nat):Int)
 |[],i,s,h,hs=>by apply yaf;rw[q0d h];rfl|m::suf,i,s,h,hs=>by
  have hlt:=q09 h;have g1:=hm m (List.mem_of_mem_drop (i:=i) (by simp_all));obtain⟨k1,_⟩:=q2a.1 g1;have hsm:=(q13 g1).votes;apply yaf;rw[q07 h,cT,q04 h,qa3 (q13 g1),bS,g1,cT,show Claim.mk x.Topic x.Value=x from rfl,qb4 _ (by omega),bS,q02 (by omega),q8n,q0g (q4e k1).1,shlOr hs k1];by_cases hx:x∈m.Votes;·simp only[hx,decide_true,cT,if_true];exact qj4 suf (i+1) _ (q01 h) (or_lt hs (qa6 k1))
  .simp only[hx,decide_false,cF,fT,if_false];exact qj4 suf (i+1) _ (q01 h) hs
theorem y3z:z8x l x=some ((votes l x:Nat):Int):=ygu _ _ _ (qj4 l hl hm x l 0 0 rfl (by decide))
theorem qor:∀(suf:List Message)(i s:Nat),l.drop i=suf->s<1024->z1q (s:Int) l ((l.length:Nat):Int) (i:Int) x.Topic x.Value=some ((whoF (fun m=>decide (x∈m.Accepts)) s suf:Nat):Int)
 |[],i,s,h,hs=>by apply yb0;rw[q0d h];rfl|m::suf,i,s,h,hs=>by
  have hlt:=q09 h;have g1:=hm m (List.mem_of_mem_drop (i:=i) (by simp_all));obtain⟨k1,_⟩:=q2a.1 g1;have hsm:=(q13 g1).accs;apply yb0;rw[q07 h,cT,q04 h,qa3 (q13 g1),bS,g1,cT,show Claim.mk x.Topic x.Value=x from rfl,qb4 _ (by omega),bS,q02 (by omega),q8n,q0g (q4e k1).1,shlOr hs k1];by_cases hx:x∈m.Accepts;·simp only[hx,decide_true,cT,if_true];exact qor suf (i+1) _ (q01 h) (or_lt hs (qa6 k1))
  .simp only[hx,decide_false,cF,fT,if_false];exact qor suf (i+1) _ (q01 h) hs
theorem qwq:z6q l x=some ((q0t l x:Nat):Int):=yjx _ _ _ (qor l hl hm x l 0 0 rfl (by decide))
end
theorem qox{l:List Message}(hm:∀m∈l,msgB m=true)(x:Claim):votes l x<1024:=qtw _ l 0 (by decide) fun m h=>(q2a.1 (hm m h)).1
theorem q4q{l:List Message}(hm:∀m∈l,msgB m=true)(x:Claim):q0t l x<1024:=qtw _ l 0 (by decide) fun m h=>(q2a.1 (hm m h)).1
def accB(c:Config)(v:Nat)(vs ac:Nat):Bool:=blk c v ac||(q23 c (vs|||ac)).testBit v
def confB(c:Config)(v:Nat)(ac:Nat):Bool:=(q23 c ac).testBit v
section
variable {c : Config} (hc : q1a c) {vs ac : Nat} (hv : vs < 1024) (ha : ac < 1024) {v : Nat} (hn : v < 10)
include hc ha hn
theorem y7m:z4b c (v:Int) (ac:Int)=some (confB c v ac):=by apply yjb;rw[qi8 ha hc,bS,q1n (q70 c ha),q36 hn];rfl
theorem y80:z6r c (v:Int) (ac:Int)=some (confB c v ac):=by apply yhw;rw[qdu ha hc,bS,q1g (q70 c ha),q36 hn];rfl
include hv
theorem y7r:z4s c (v:Int) (vs:Int) (ac:Int)=some (accB c v vs ac):=by apply yfd;rw[q3g hv,q3g ha,y18 hc ha,q2y (by omega) (by omega),qi8 (or_lt hv ha) hc];simp only[bS,q1n (q70 c (or_lt hv ha)),q36 hn,accB];cases blk c v ac<;>rfl
theorem y9l:z74 c (v:Int) (vs:Int) (ac:Int)=some (accB c v vs ac):=by apply yjk;rw[q1c hv,q1c ha,qto hc ha,q2y (by omega) (by omega),qdu (or_lt hv ha) hc];simp only[bS,q1g (q70 c (or_lt hv ha)),q36 hn,accB];cases blk c v ac<;>rfl
end
theorem qg4{t:Member}:∀(l:List Message)(ms:List Member),t∈l.foldl seeM ms->t∈ms\/∃m∈l,t=⟨true,m.Trust⟩
 |[],ms,h=>.inl h|m::l,ms,h=>by
  rcases qg4 l _ h with h|⟨m',h1,h2⟩
  .rcases List.mem_or_eq_of_mem_set h with h|h;·exact .inl h
   .exact .inr ⟨m,by simp,h⟩
  grind
theorem q9t:∀(l:List Message)(ms:List Member),(l.foldl seeM ms).length=ms.length|[],_=>rfl|m::l,ms=>by rw[List.foldl_cons,q9t l];simp[seeM]
theorem qtx{v:Int}{t:Trust}(ht:valid t=true){l:List Message}(hm:∀m∈l,msgB m=true):q1a (viewC v t l):=by
 refine⟨by simp[viewC,q9t],fun m h=>?_⟩;rcases List.mem_or_eq_of_mem_set h with h|h
 .rcases qg4 l _ h with h|⟨m',h1,h2⟩;·rw[List.eq_of_mem_replicate h];simp[Small,size,sizes]
  .rw[h2];exact(q13 (hm m' h1)).tr
 .rw[h];exact q1l ht
end Go.Proofs.YtdmfjabikomgiaaGreat
namespace Go.Proofs.YtdmfjabikomgiaaGreat
open Go Go.Ab Go.Sort
def y58(ms:List Member):Prop:=∀m∈ms,Small m.Trust
theorem y0z(k m:Int):Small ⟨1,[k,m],[]⟩:=by unfold Small;rw[q9x];simp[sizes]
theorem qu3{n:Nat}(hn:n<=10)(h1:1<=n)(l:List Int)(i:Int)(a10:List Member):∀(r k:Nat)(ms:List Member),k+r=ms.length->1<=ms.length->ms.length<=n->y58 ms->(∀j m,j<k->ms[j]?=some m->m.Declared=true)->∃c,z5k ((ms.length:Nat):Int) (k:Int) l i a10 ms=some (c,l,i)/\ConfOk n c/\∀m∈c.Members,m.Declared=true
 |0,k,ms,hk,hp,hl,hs,hd=>by
  have hsc:q1a ⟨ms⟩:=⟨by grind,hs⟩;by_cases h0:cerr ⟨ms⟩=0
  .refine⟨⟨ms⟩,?_,(q29.1 h0).conf hp hl,fun m hm=>?_⟩;·apply qx9;rw[q00 (by omega),cF,q6d hsc,h0];rfl
   .obtain⟨j,hj⟩:=List.getElem?_of_mem hm;grind
  .refine⟨⟨[⟨true,⟨1,[0],[]⟩⟩]⟩,?_,?_,fun m hm=>?_⟩;·apply qx9;rw[q00 (by omega),cF,q6d hsc];simp[neB,h0]
   .refine⟨by show 1<=1;omega,by show 1<=n;omega,fun x hx=>?_⟩;have hx':x=⟨true,⟨1,[0],[]⟩⟩:=by simpa using hx
    subst hx';show MemOk 1 _;unfold MemOk;rw[if_pos rfl];exact⟨by decide,by decide⟩
   simp_all|r+1,k,ms,hk,hp,hl,hs,hd=>by
  have hlt:k<ms.length:=by omega
  have hget:ms[k]?=some ms[k]:=by simp
  cases hdk:ms[k].Declared with|true=>obtain⟨c,g1,g2⟩:=qu3 hn h1 l i a10 r (k+1) ms (by omega) hp hl hs (fun j m hj hm=>by
    rcases Nat.lt_or_ge j k with h|h;·exact hd j m h hm
    .obtain rfl:j=k:=by omega
     rw[hget]at hm;cases hm;exact hdk);refine⟨c,?_,g2⟩;apply qx9;rw[q03 (by omega),cT,q0j (y:=ms[k]) (by omega) (by rw[tN];exact hget)];simp only[nthN,tN,hget,hdk,nT,cF];rw[q02 (by omega)];omega|false=>
   have hlen:(ms.set k ⟨true,⟨1,[(k:Int),remI .i64 ((k+1:Nat):Int) ((ms.length:Nat):Int)],[]⟩⟩).length=ms.length:=by simp
   obtain⟨c,g1,g2⟩:=qu3 hn h1 l i a10 r (k+1) (ms.set k ⟨true,⟨1,[(k:Int),remI .i64 ((k+1:Nat):Int) ((ms.length:Nat):Int)],[]⟩⟩) (by rw[hlen];omega) (by rw[hlen];exact hp) (by rw[hlen];exact hl) (fun m hm=>by
    rcases List.mem_or_eq_of_mem_set hm with h|h;·exact hs m h
    .subst h;exact y0z _ _) (fun j m hj hm=>by
    rw[List.getElem?_set]at hm;split at hm;·cases hm;rfl
    .exact hd j m (by omega) hm);refine⟨c,?_,g2⟩;rw[hlen]at g1;apply qx9;rw[q03 (by omega),cT,q0j (y:=ms[k]) (by omega) (by rw[tN];exact hget)];simp only[nthN,tN,hget,hdk,Bool.not_false,cT];rw[q0g (by omega),q0j (y:=ms[k]) (by omega) (by rw[tN];exact hget),q02 (by omega)];omega
theorem yd7{n:Nat}(hn:n<=10)(h1:2<=n)(l:List Int)(i:Int)(a6:List Member):∀(r:Nat)(ms:List Member),2<=ms.length+r->ms.length<=n->y58 ms->∃c,z7x l i a6 ms=some (c,l,i)/\ConfOk n c/\∀m∈c.Members,m.Declared=true:=by intro r;induction r with|zero=>intro ms h2 hl hs;obtain⟨c,g1,g2⟩:=qu3 hn (by omega) l i a6 ms.length 0 ms (by omega) (by omega) hl hs (fun j m hj _=>by omega);refine⟨c,?_,g2⟩;apply ybh;rw[q00 (by omega),cF];omega|succ r ih=>
  intro ms h2 hl hs;by_cases h:ms.length<2;·obtain⟨c,g1,g2⟩:=ih (ms++[⟨false,⟨0,[],[]⟩⟩]) (by simp;omega) (by simp;omega) (fun m hm=>by
    rcases List.mem_append.1 hm with hm|hm;·exact hs m hm
    .rw[List.mem_singleton]at hm;subst hm;unfold Small;rw[q9x];simp[sizes]);refine⟨c,?_,g2⟩;apply ybh;rw[q03 (by omega),cT,q05 (by simp[q06];omega)];exact g1
  grind
theorem yeu{n:Nat}(h1:2<=n)(h2:n<=10){l:List Int}{i:Int}(h:q0u l i):∃c j,z9g (n:Int) l i=some (c,l,j)/\ConfOk n c/\(∀m∈c.Members,m.Declared=true)/\q0u l j:=by obtain⟨c0,j,a1,a2,a3⟩:=y4r (by omega) h2 h;obtain⟨c,g1,g2,g3⟩:=yd7 h2 h1 l j [] 2 c0.Members (by omega) a2.le (a2.smallC h2).2;refine⟨c,j,?_,g2,g3,a3⟩;apply yiw;simp_all
theorem qbz{c:Config}(hn:c.Members.length<=10):z5z c=some ((full c:Nat):Int):=by apply yhi;rw[q0g (by omega),q9d hn];rfl
def inta(lo hi:Config)(ill:Nat):Nat:=ndiff (full lo) (bef lo hi ill)
theorem y7h(lo hi:Config)(ill:Nat):Sub (inta lo hi ill) (full lo):=fun i hi=>by unfold inta at hi;rw[q08,aT]at hi;grind
theorem ye9(lo hi:Config)(ill:Nat):Sub (bef lo hi ill) (full lo):=by
 unfold bef;split;·exact Sub.refl _
 .exact(qz3 _ _).1
def oneR(lo hi:Config)(f:Nat->Nat)(z:Int):Int×Int:=if dE lo hi z=0 then(((f z.toNat:Nat):Int),0)else(0,dE lo hi z)
theorem y1s{lo hi:Config}(hs:q1a lo)(hs':q1a hi)(z:Int):z8r lo hi z=some (dE lo hi z):=by
 apply yjr;rw[qki hs hs'];simp only[bS,dE];by_cases h:pairE lo hi=0
 .obtain⟨hv,_,_,_,_⟩:=q5v h;rw[h,q0h];simp only[cF,if_true,askE];rw[hv.cerr,if_neg (by simp)];by_cases h0:z<0;·rw[q03 h0,if_pos h0];rfl
  .rw[q00 (by omega),if_neg h0,qbz hv.1];simp only[cF,bS,full];by_cases h1:((2^lo.Members.length-1:Nat):Int)<z;·rw[q03 h1,if_pos h1];rfl
   .rw[q00 (by omega),if_neg h1];rfl
 .rw[q0w h,if_neg h];rfl
theorem y33{lo hi:Config}{l:List Nat}(hl:l.length<=1024)(hlt:∀s∈l,s<1024):∀(suf:List Nat)(i a:Nat),l.drop i=suf->a<1024->z3j (a:Int) (l.map Int.ofNat) ((l.length:Nat):Int) (i:Int) lo.Members hi.Members=some (((ands suf a:Nat):Int),0)|[],i,a,h,ha=>by apply ybz;rw[q0d h];rfl|b::suf,i,a,h,ha=>by have h1:=q09 h;have hb:=hlt b (List.mem_of_mem_drop (by rw[h];simp));apply ybz;rw[q07 h];simp only[cT,q04 (q6f h)];rw[q3r (by omega) (by omega),q02 (by omega)];exact y33 hl hlt suf (i+1) (a&&&b) (q01 h) (y6n ha)
theorem yd5{lo hi:Config}(hs:q1a lo)(hs':q1a hi)(z:Int):z7j lo hi z=some (oneR lo hi (bef lo hi) z):=by
 apply ygg;rw[y1s hs hs'];simp only[bS,oneR];by_cases h:dE lo hi z=0;·obtain⟨h0,s,rfl,hlt⟩:=qu4 h;obtain⟨hv,hw,hlen,_,_⟩:=q5v h0;rw[h,q0h,qbz hv.1];simp only[cF,bS,if_true,tN];rw[qqv hs,qnj hv hlt];simp only[bS,Bool.not_not];cases hsp:q7r lo s with|true=>unfold bef;simp_all|false=>simp only[cF];rw[ydc hs hs',y9n h0 hlt];simp only[bS,List.length_map];refine(y33 (y8b (hi:=hi) hv.1 s) (fun x hx=>qf3 hv.1 (yed hx)) (alls lo hi s) 0 (full lo) rfl (qgl hv.1)).trans ?_;unfold bef;simp_all
 .rw[if_neg h,q0w h];rfl
theorem yex{lo hi:Config}(hs:q1a lo)(hs':q1a hi)(z:Int):z93 lo hi z=some (oneR lo hi (inta lo hi) z):=by
 apply yky;rw[yd5 hs hs'];simp only[bS,oneR];by_cases h:dE lo hi z=0;·obtain⟨h0,s,rfl,hlt⟩:=qu4 h;obtain⟨hv,hw,hlen,_,_⟩:=q5v h0;rw[if_pos h,if_pos h];simp only[q0h,cF,tN];rw[qbz hv.1];simp only[bS];rw[qnc hv.1 (qdf.2 (ye9 lo hi s))];rfl
 .rw[if_neg h,if_neg h];simp only[q0w h,cT]
theorem y84{lo hi:Config}(h:pairE lo hi=0){s:Nat}(hs:s<2^lo.Members.length)(f:Nat->Nat):oneR lo hi f (s:Int)=(((f s:Nat):Int),0):=by unfold oneR;rw[if_pos (yal h hs)];rfl
variable {n : Nat} {lo hi : Config}
end Go.Proofs.YtdmfjabikomgiaaGreat
namespace Go.Proofs.YtdmfjabikomgiaaGreat
open Go Go.Ab
def say(v:Voter):Message:=⟨v.Node,v.Seq,v.Trust,v.Votes,v.Accepts⟩
def q3f(n:Int):Option Int->List Message->Bool|_,[]=>true|none,m::r=>msgB m&&(!decide (m.Node=n)&&q3f n (some m.Node) r)|some q,m::r=>msgB m&&(!decide (m.Node=n)&&(decide (q<m.Node)&&q3f n (some m.Node) r))
structure SmallV(v:Voter):Prop where
 tr:Small v.Trust
 votes:v.Votes.length<1000000
 accs:v.Accepts.length<1000000
 confs:v.Confirms.length<1000000
 heard:v.Heard.length<1000000
 msgs:∀m∈v.Heard,SmallM m
def q24(v:Voter):Bool:=inR v.Node&&(decide (1<=v.Seq)&&(decide (v.Seq<=1000000)&&(valid v.Trust&&(plainC v.Votes&&(plainC v.Accepts&&(plainC v.Confirms&&(consC v.Votes&&(consC v.Accepts&&(v.Confirms.all (fun x=>decide (x∈v.Accepts))&&q3f v.Node none v.Heard)))))))))
theorem q22{n:Int}:∀{l:List Message}{q:Option Int},q3f n q l=true↔(∀m∈l,msgB m=true/\m.Node≠n)/\(∀k,q=some k->∀m∈l,k<m.Node)/\l.Pairwise (fun a b=>a.Node<b.Node)
 |[],q=>by cases q<;>simp[q3f]|m::r,q=>by
  have ih:=q22 (n:=n) (l:=r) (q:=some m.Node);have h1:q3f n q (m::r)=true↔msgB m=true/\m.Node≠n/\(∀k,q=some k->k<m.Node)/\q3f n (some m.Node) r=true:=by cases q<;>simp[q3f]
  rw[h1,ih,List.pairwise_cons];grind
theorem qt8{n:Int}{l:List Message}(h:q3f n none l=true):l.length<=10:=by obtain⟨h1,_,h3⟩:=q22.1 h;have:=qdo (m:=10) (l:=l.map (·.Node)) (by decide) (fun k hk=>by obtain⟨m,hm,rfl⟩:=List.mem_map.1 hk;have:=(q2a.1 (h1 m hm).1).1;simpa[inR]using this) (List.pairwise_map.2 h3);grind
theorem y4o(l:List Claim)(v:Voter)(hl:l.length<1152921504606846976)(ha:v.Accepts.length<1000000):∀(suf:List Claim)(i:Nat),l.drop i=suf->∃r:Int,z05 l ((l.length:Nat):Int) (i:Int) v.Node v.Seq v.Trust.Threshold v.Trust.Nodes v.Trust.Inner v.Votes v.Accepts v.Confirms v.Heard=some (r,v.Node,v.Seq,v.Trust.Threshold,v.Trust.Nodes,v.Trust.Inner,v.Votes,v.Accepts,v.Confirms,v.Heard)/\leB 0 r=!(suf.all fun x=>decide (x∈v.Accepts))
 |[],i,h=>by refine⟨-1,y3o _ _ _ _ _ _ _ _ _ _ _ _ _ ?_,by rfl⟩;rw[q0d h];rfl|y::suf,i,h=>by
  have hlt:=q09 h;obtain⟨r,h1,h2⟩:=y4o l v hl ha suf (i+1) (q01 h);have hf:z7r y v.Node v.Seq v.Trust.Threshold v.Trust.Nodes v.Trust.Inner v.Votes v.Accepts v.Confirms v.Heard=some (!decide (y∈v.Accepts),v.Node,v.Seq,v.Trust.Threshold,v.Trust.Nodes,v.Trust.Inner,v.Votes,v.Accepts,v.Confirms,v.Heard):=by apply yks;rw[ql6 _ (by omega)];rfl
  by_cases hy:y∈v.Accepts;·refine⟨r,y3o _ _ _ _ _ _ _ _ _ _ _ _ _ ?_,by rw[h2];simp[hy]⟩;rw[q07 h,cT,q04 h,hf,bS,q02 (by omega)];simp_all
  .refine⟨i,y3o _ _ _ _ _ _ _ _ _ _ _ _ _ ?_,by simp[hy,leB]⟩;rw[q07 h,cT,q04 h,hf,bS];simp_all
theorem ycv(v:Voter)(hl:v.Heard.length<1000000)(hm:∀m∈v.Heard,SmallM m):∀(suf:List Message)(i:Nat)(z:Message),v.Heard[i]?=some z->v.Heard.drop (i+1)=suf->z1i v.Heard ((v.Heard.length:Nat):Int) ((i+1:Nat):Int) v.Node v.Seq v.Trust.Threshold v.Trust.Nodes v.Trust.Inner v.Votes v.Accepts v.Confirms v.Heard=some (q3f v.Node (some z.Node) suf)|[],i,z,hz,h=>by apply qxo;rw[q0d h];rfl|y::suf,i,z,hz,h=>by have hlt:=q09 h;apply qxo;rw[q07 h,cT,q04 h,qdc (hm y (List.mem_of_mem_drop (i:=i+1) (by simp_all))),bS,q03 (by omega),cT,q61 (by omega) (by omega),q0j (y:=z) (by omega) (by simp_all),q02 (by omega),ycv v hl hm suf (i+1) y (by have:=congrArg (·[0]?) h;grind) (q01 h)];rw[q3f,show leB y.Node z.Node=!decide (z.Node<y.Node)by by_cases h2:z.Node<y.Node<;>simp[leB,h2]<;>omega];simp only[eqB];cases msgB y<;>cases decide (y.Node=v.Node)<;>cases decide (z.Node<y.Node)<;>rfl
theorem yhc(v:Voter)(hl:v.Heard.length<1000000)(hm:∀m∈v.Heard,SmallM m):z1i v.Heard ((v.Heard.length:Nat):Int) 0 v.Node v.Seq v.Trust.Threshold v.Trust.Nodes v.Trust.Inner v.Votes v.Accepts v.Confirms v.Heard=some (q3f v.Node none v.Heard):=by cases hh:v.Heard with|nil=>apply qxo;rfl|cons y r=>have h1:=ycv v hl hm r 0 y (by simp_all) (by simp_all);rw[hh]at h1 hm;apply qxo;rw[q03 (by simp),cT,q0j (y:=y) (by omega) rfl,qdc (hm y (by simp)),bS,q00 (by omega),cF,show addI .i64 0 1=((0+1:Nat):Int)from rfl,h1,q3f];by_cases h1:y.Node=v.Node;all_goals cases msgB y<;>simp[h1,eqB]
theorem qcs{v:Voter}(h:SmallV v):z5r v=some (q24 v):=by
 obtain⟨h1,h2,h3,h4,h5,h6⟩:=h;apply yik;obtain⟨r,g1,g2⟩:=y4o v.Confirms v (by omega) h3 v.Confirms 0 rfl;have g3:z0l v.Confirms v.Node v.Seq v.Trust.Threshold v.Trust.Nodes v.Trust.Inner v.Votes v.Accepts v.Confirms v.Heard=_:=ygl _ _ _ _ _ _ _ _ _ _ _ g1;have g4:z0k v.Confirms v.Node v.Seq v.Trust.Threshold v.Trust.Nodes v.Trust.Inner v.Votes v.Accepts v.Confirms v.Heard=some (!(v.Confirms.all fun x=>decide (x∈v.Accepts)),v.Node,v.Seq,v.Trust.Threshold,v.Trust.Nodes,v.Trust.Inner,v.Votes,v.Accepts,v.Confirms,v.Heard):=by apply yfs;simp_all
 rw[q9b _ h1,qb6 _ (by omega),qb6 _ (by omega),qb6 _ (by omega),g4];simp only[bS,yhc v h5 h6,qrz];unfold q24 inR ltB leB;by_cases e1:v.Node<0;·grind
 have e1':0<=v.Node:=by omega
 by_cases e2:10<=v.Node;·grind
 have e2':v.Node<10:=by omega
 by_cases e3:v.Seq<1;·grind
 have e3':1<=v.Seq:=by omega
 by_cases e4:1000000<v.Seq;·grind
 have e4':v.Seq<=1000000:=by omega
 simp only[e1,e1',e2,e2',e3,e3',e4,e4',decide_false,decide_true,cF,tA',Bool.and_true];cases valid v.Trust with|false=>simp|true=>cases hp1:plainC v.Votes with|false=>simp|true=>cases hp2:plainC v.Accepts with|false=>simp|true=>cases plainC v.Confirms with|false=>simp|true=>rw[qpj _ (by omega) (q0y.1 hp1).1,qpj _ (by omega) (q0y.1 hp2).1];grind
theorem ya6(v:Voter)(hl:v.Heard.length<1000000)(hm:∀m∈v.Heard,SmallM m):∀(suf:List Message)(i:Nat)(z:Message),v.Heard[i]?=some z->v.Heard.drop (i+1)=suf->z1u v.Heard ((v.Heard.length:Nat):Int) ((i+1:Nat):Int) v.Node v.Seq v.Trust.Threshold v.Trust.Nodes v.Trust.Inner v.Votes v.Accepts v.Confirms v.Heard=some (q3f v.Node (some z.Node) suf)|[],i,z,hz,h=>by apply qz2;rw[q0d h];rfl|y::suf,i,z,hz,h=>by have hlt:=q09 h;apply qz2;rw[q07 h,cT,q04 h,qa3 (hm y (List.mem_of_mem_drop (i:=i+1) (by simp_all))),bS,q03 (by omega),cT,q61 (by omega) (by omega),q0j (y:=z) (by omega) (by simp_all),q02 (by omega),ya6 v hl hm suf (i+1) y (by have:=congrArg (·[0]?) h;grind) (q01 h)];rw[q3f,show leB y.Node z.Node=!decide (z.Node<y.Node)by by_cases h2:z.Node<y.Node<;>simp[leB,h2]<;>omega];simp only[eqB];cases msgB y<;>cases decide (y.Node=v.Node)<;>cases decide (z.Node<y.Node)<;>rfl
theorem yhh(v:Voter)(hl:v.Heard.length<1000000)(hm:∀m∈v.Heard,SmallM m):z1u v.Heard ((v.Heard.length:Nat):Int) 0 v.Node v.Seq v.Trust.Threshold v.Trust.Nodes v.Trust.Inner v.Votes v.Accepts v.Confirms v.Heard=some (q3f v.Node none v.Heard):=by cases hh:v.Heard with|nil=>apply qz2;rfl|cons y r=>have h1:=ya6 v hl hm r 0 y (by simp_all) (by simp_all);rw[hh]at h1 hm;apply qz2;rw[q03 (by simp),cT,q0j (y:=y) (by omega) rfl,qa3 (hm y (by simp)),bS,q00 (by omega),cF,show addI .i64 0 1=((0+1:Nat):Int)from rfl,h1,q3f];by_cases h1:y.Node=v.Node;all_goals cases msgB y<;>simp[h1,eqB]
theorem y9q(v:Voter)(hl:v.Heard.length<1000000)(hm:∀m∈v.Heard,SmallM m)(ha:v.Accepts.length<1000000)(l:List Claim)(hll:l.length<1152921504606846976):∀(suf:List Claim)(i:Nat),l.drop i=suf->z4a l ((l.length:Nat):Int) (i:Int) v.Node v.Seq v.Trust.Threshold v.Trust.Nodes v.Trust.Inner v.Votes v.Accepts v.Confirms v.Heard=some ((suf.all fun x=>decide (x∈v.Accepts))&&q3f v.Node none v.Heard)|[],i,h=>by apply ya0;rw[q0d h,cF,yhh v hl hm];simp|y::suf,i,h=>by have hlt:=q09 h;apply ya0;rw[q07 h,cT,q04 h,qb4 _ (by omega),bS,q02 (by omega),y9q v hl hm ha l hll suf (i+1) (q01 h)];by_cases hy:y∈v.Accepts<;>simp[hy]
theorem qc8{v:Voter}(h:SmallV v):z6g v=some (q24 v):=by
 obtain⟨h1,h2,h3,h4,h5,h6⟩:=h;apply yf5;have g1:z4a v.Confirms ((v.Confirms.length:Nat):Int) 0 v.Node v.Seq v.Trust.Threshold v.Trust.Nodes v.Trust.Inner v.Votes v.Accepts v.Confirms v.Heard=_:=y9q v h5 h6 h3 v.Confirms (by omega) v.Confirms 0 rfl;rw[q7j _ h1,qb9 _ (by omega),qb9 _ (by omega),qb9 _ (by omega),qz1 _ (by omega),qz1 _ (by omega),g1];simp only[bS,qrz];unfold q24 inR ltB leB;by_cases e1:v.Node<0
 .have:¬0<=v.Node:=by omega
  simp[e1,this]
 grind
structure Ready(v:Voter):Prop where
 node:inR v.Node=true
 seq:1<=v.Seq/\v.Seq<=1000000
 tr:valid v.Trust=true
 votes:plainC v.Votes=true
 accs:plainC v.Accepts=true
 confs:plainC v.Confirms=true
 cons:consC v.Accepts=true
 sub:∀x∈v.Confirms,x∈v.Accepts
 heard:q3f v.Node none v.Heard=true
theorem q0n{v:Voter}:q24 v=true↔Ready v/\consC v.Votes=true:=by
 simp only[q24,aT,dT',List.all_eq_true];constructor;·rintro⟨h1,h2,h3,h4,h5,h6,h7,h8,h9,h10,h11⟩;exact⟨⟨h1,⟨h2,h3⟩,h4,h5,h6,h7,h9,h10,h11⟩,h8⟩
 .rintro⟨⟨h1,⟨h2,h3⟩,h4,h5,h6,h7,h9,h10,h11⟩,h8⟩;simp_all
def allM(v:Voter):List Message:=v.Heard++[say v]
theorem Ready.msg{v:Voter}(h:Ready v):∀m∈v.Heard,msgB m=true/\m.Node≠v.Node:=(q22.1 h.heard).1
theorem Ready.say{v:Voter}(h:Ready v):msgB (say v)=true:=q2a.2 ⟨h.node,h.seq.1,h.tr,h.votes,h.accs⟩
theorem Ready.all{v:Voter}(h:Ready v):∀m∈allM v,msgB m=true:=fun m hm=>by
 rcases List.mem_append.1 hm with hm|hm;·exact(h.msg m hm).1
 .simp at hm;subst hm;exact h.say
theorem Ready.len{v:Voter}(h:Ready v):(allM v).length<=11:=by have:=qt8 h.heard;simp[allM];omega
theorem Ready.hlen{v:Voter}(h:Ready v):v.Heard.length<=10:=qt8 h.heard
theorem Ready.alen{v:Voter}(h:Ready v):v.Accepts.length<=128:=q2o h.accs
theorem Ready.vlen{v:Voter}(h:Ready v):v.Votes.length<=128:=q2o h.votes
theorem Ready.clen{v:Voter}(h:Ready v):v.Confirms.length<=128:=q2o h.confs
theorem Ready.small{v:Voter}(h:Ready v):SmallV v:=⟨q1l h.tr,by have:=h.vlen;omega,by have:=h.alen;omega,by have:=h.clen;omega,by have:=h.hlen;omega,fun m hm=>q13 (h.msg m hm).1⟩
theorem qv1(v:Voter):z7w v=some (say v):=ygd _ _ (by rw[Trust.etaM];rfl)
theorem qpi(v:Voter):z7t v=some (say v):=yig _ _ (by rw[Trust.etaM];rfl)
theorem q8y(m:Message):Message.mk m.Node m.Seq (Trust.mk m.Trust.Threshold m.Trust.Nodes m.Trust.Inner) m.Votes m.Accepts=m:=by simp
theorem q0x(v:Voter):Voter.mk v.Node v.Seq (Trust.mk v.Trust.Threshold v.Trust.Nodes v.Trust.Inner) v.Votes v.Accepts v.Confirms v.Heard=v:=by simp
theorem qpm{v:Voter}(hl:v.Heard.length<1000000):z7u v=some (allM v):=by apply yke;rw[q05 (by simp[q06];omega),qpi,bS,q8y,q05 (by simp[q06];omega)];rfl
theorem qkh(l:List Message)(hl:l.length<1000000):z0q l=some ((),l):=yir _ _ (by rw[q05 (by simp[q06];omega)];rfl)
theorem q3x(l:List Claim)(hl:l.length<1000000):z03 l=some ((),l):=yc3 _ _ (by rw[q05 (by simp[q06];omega)];rfl)
def q5t(l:List Message):List Claim:=l.flatMap fun m=>m.Votes++m.Accepts
def known(v:Voter):List Claim:=q0o (q5t (allM v))
theorem qzx{m:Message}(h:msgB m=true):∀x∈m.Votes++m.Accepts,vcl x=true:=fun x hx=>by
 obtain⟨_,_,_,h1,h2⟩:=q2a.1 h;rcases List.mem_append.1 hx with hx|hx;·exact(q0y.1 h1).1 x hx
 .exact(q0y.1 h2).1 x hx
theorem qqa(l:List Message)(hl:l.length<=11)(hm:∀m∈l,msgB m=true):∀(suf:List Message)(i:Nat)(acc:List Claim),i<=l.length->l.drop i=suf->acc.length<=256*i->(∀x∈acc,vcl x=true)->z4m acc l ((l.length:Nat):Int) (i:Int)=some (q0o (acc++q5t suf))
 |[],i,acc,hi,h,ha,hv=>by apply y9t;rw[q0d h,cF,qn8 acc (by omega) hv];simp[q5t]|m::suf,i,acc,hi,h,ha,hv=>by
  have hlt:=q09 h;have g:=hm m (List.mem_of_mem_drop (i:=i) (by simp_all));obtain⟨_,_,_,g1,g2⟩:=q2a.1 g;have:=q2o g1;have:=q2o g2;apply y9t;rw[q07 h,cT,q04 h,q05 (by simp[q06];omega),q05 (by simp[q06];omega),q02 (by omega),qqa l hl hm suf (i+1) _ hlt (q01 h) (by grind) (fun x hx=>by
   rw[List.append_assoc]at hx;rcases List.mem_append.1 hx with hx|hx;·simp_all
   .exact qzx g x hx)];simp[q5t]
theorem y4n{v:Voter}(h:Ready v):z7o (allM v)=some (known v):=by apply yjm;have:=qqa (allM v) h.len h.all (allM v) 0 [] (by omega) rfl (by simp) (by simp);exact this
theorem qed(a b:List Claim):q0o (q0o a++q0o b)=q0o (a++b):=by refine q8l (q2c _) (q2c _) fun x=>?_;simp only[q1b,List.mem_append];simp_all
theorem qso(v:Voter)(l:List Message)(hl:l.length<1000000)(hm:∀m∈l,msgB m=true):∀(suf:List Message)(i:Nat)(acc:List Claim),l.drop i=suf->z5i (q0o acc) l ((l.length:Nat):Int) (i:Int) v.Node v.Seq v.Trust.Threshold v.Trust.Nodes v.Trust.Inner v.Votes v.Accepts v.Confirms v.Heard=some (q0o (acc++q5t suf))|[],i,acc,h=>by apply ybs;rw[q0d h,cF];simp[q5t]|m::suf,i,acc,h=>by have hlt:=q09 h;have g:=q13 (hm m (List.mem_of_mem_drop (i:=i) (by simp_all)));have h1:=g.votes;have h2:=g.accs;have h3:=q3v acc;have h4:=q3v (m.Votes++m.Accepts);apply ybs;rw[q07 h,cT,q04 h,q6x _ _ (by omega) (by omega),bS,q6x _ _ (by omega) (by omega),bS,qed,q02 (by omega),qso v l hl hm suf (i+1) _ (q01 h)];simp[q5t]
theorem y4e{v:Voter}(h:Ready v):z8d v=some (known v):=by
 have hlen:=h.len;apply ygj;rw[qpm (by have:=h.hlen;omega),bS];have hne:allM v≠[]:=by simp[allM]
 obtain⟨m,suf,hms⟩:=List.exists_cons_of_ne_nil hne;have hd:(allM v).drop 0=m::suf:=by rw[List.drop_zero,hms]
 have g:=q13 (h.all m (by rw[hms];simp));have h1:=g.votes;have h2:=g.accs;have h4:=q3v (m.Votes++m.Accepts);apply ygb;have l0:ltB 0 (((allM v).length:Nat):Int)=true:=q07 (i:=0) hd;have n0:∀k:Message->Option (List Claim),nth (allM v) 0 k=k m:=fun k=>q04 (i:=0) hd k;rw[l0,cT,n0,q6x _ _ (by omega) (by omega),bS,q6x _ _ (by simp) (by omega),bS,show([]:List Claim)++q0o (m.Votes++m.Accepts)=q0o []++q0o (m.Votes++m.Accepts)from rfl,qed,show addI .i64 0 1=((1:Nat):Int)from rfl,qso v (allM v) (by omega) h.all suf 1 _ (by rw[hms];rfl)];rw[known,hms];rfl
def viewV(v:Voter):Config:=viewC v.Node v.Trust v.Heard
def canB(v:Voter)(x:Claim):Bool:=!decide (x∈v.Accepts)&&(decide (∀y∈v.Accepts,¬Contra x y)&&accB (viewV v) v.Node.toNat (votes (allM v) x) (q0t (allM v) x))
def nextV(v:Voter):Option Claim:=(known v).find? (canB v)
theorem Ready.view{v:Voter}(h:Ready v):q1a (viewV v):=qtx h.tr fun m hm=>(h.msg m hm).1
theorem Ready.node'{v:Voter}(h:Ready v):v.Node.toNat<10/\((v.Node.toNat:Nat):Int)=v.Node:=by have:=q4e h.node;omega
theorem q73{v:Voter}{x:Claim}(h:x∈known v):vcl x=true:=(q1b.1 h).1
theorem qcf{A:List Claim}(h:consC A=true)(x:Claim):consC (A++[x])=decide (∀y∈A,¬Contra x y):=by
 rw[Bool.eq_iff_iff,q4g,dT'];rw[q4g]at h;constructor;·simp_all
 .intro g a ha b hb;rcases List.mem_append.1 ha with ha'|ha'<;>rcases List.mem_append.1 hb with hb'|hb';·simp_all
  .simp at hb';subst hb';exact fun hc=>g a ha' hc.symm
  .simp_all
  .simp at ha' hb';subst ha';subst hb';exact fun hc=>hc.2 rfl
theorem qqm{v:Voter}(h:Ready v)(l:List Claim)(hl:l.length<=128)(hv:∀x∈l,vcl x=true):∀(suf:List Claim)(i:Nat),l.drop i=suf->z3f (allM v) l ((l.length:Nat):Int) (i:Int) v.Node v.Seq v.Trust.Threshold v.Trust.Nodes v.Trust.Inner v.Votes v.Accepts v.Confirms v.Heard (viewV v).Members 0 0=some (match suf.find? (canB v)with|some x=>(x,true)|none=>(⟨0,0⟩,false))
 |[],i,g=>by apply ycl;rw[q0d g];rfl|y::suf,i,g=>by
  have hlt:=q09 g;have hlen:=h.len;have halen:=h.alen;have hy:=hv y (List.mem_of_mem_drop (i:=i) (by rw[g];simp));have ih:=qqm h l hl hv suf (i+1) (q01 g);obtain⟨n1,n2⟩:=h.node';have hvc:∀x∈v.Accepts++[y],vcl x=true:=fun x hx=>by
   rcases List.mem_append.1 hx with hx|hx;·exact(q0y.1 h.accs).1 x hx
   .simp at hx;subst hx;exact hy
  have hacc:z4s ⟨(viewV v).Members⟩ v.Node ((votes (allM v) y:Nat):Int) ((q0t (allM v) y:Nat):Int)=some (accB (viewV v) v.Node.toNat (votes (allM v) y) (q0t (allM v) y)):=by have:=y7r h.view (qox h.all y) (q4q h.all y) n1;rw[n2]at this;exact this
  apply ycl;rw[q07 g,cT,q04 g,ql6 _ (by omega),bS,q3x _ (by omega),bS,q05 (by simp[q06];omega),qpj _ (by simp;omega) hvc,bS,qcf h.cons,y4c _ (by omega) h.all,bS,qzl _ (by omega) h.all,bS,hacc,bS,q02 (by omega),ih,List.find?_cons];simp only[canB];grind
theorem qt3{v:Voter}(h:Ready v):z7f v (viewV v)=some (match nextV v with|some x=>(x,true)|none=>(⟨0,0⟩,false)):=by apply ykx;have hh:=h.hlen;rw[qkh _ (by omega),bS,qv1,bS,q8y,q05 (by simp[q06];omega)];have:z7o (v.Heard++[say v])=_:=y4n h;rw[this,bS];exact qqm h (known v) (q3v _) (fun x hx=>q73 hx) (known v) 0 rfl
theorem y3r{v:Voter}(h:Ready v)(x:Claim):∀(suf:List Claim)(i:Nat),v.Accepts.drop i=suf->z5v v.Accepts ((v.Accepts.length:Nat):Int) (i:Int) v.Node v.Seq v.Trust.Threshold v.Trust.Nodes v.Trust.Inner v.Votes v.Accepts v.Confirms v.Heard x.Topic x.Value=some (decide (∀y∈suf,¬Contra x y)&&accB (viewV v) v.Node.toNat (votes (allM v) x) (q0t (allM v) x))
 |[],i,g=>by
  have hlen:=h.len;have hh:=h.hlen;obtain⟨n1,n2⟩:=h.node';have hacc:z74 (viewV v) v.Node ((votes (allM v) x:Nat):Int) ((q0t (allM v) x:Nat):Int)=some (accB (viewV v) v.Node.toNat (votes (allM v) x) (q0t (allM v) x)):=by have:=y9l h.view (qox h.all x) (q4q h.all x) n1;simp_all
  have hv:z7d v.Node v.Trust v.Heard=some (viewV v):=qw8 h.node h.tr v.Heard (by omega) h.msg;apply ya1;rw[q0d g,cF,q0x,qpm (by omega),bS,Trust.etaM,hv,bS,show Claim.mk x.Topic x.Value=x from rfl,y3z _ (by omega) h.all,bS,qwq _ (by omega) h.all,bS,hacc];simp|y::suf,i,g=>by have hlt:=q09 g;have:=h.alen;apply ya1;rw[q07 g,cT,q04 g,show Claim.mk x.Topic x.Value=x from rfl,qgo,bS,q02 (by omega),y3r h x suf (i+1) (q01 g)];by_cases hc:Contra x y<;>simp[hc]
theorem ye1{v:Voter}(h:Ready v)(x:Claim):z9a v x=some (canB v x):=by have:=h.alen;apply yfy;rw[qb4 _ (by omega),bS,canB];have h1:z5v v.Accepts ((v.Accepts.length:Nat):Int) 0 v.Node v.Seq v.Trust.Threshold v.Trust.Nodes v.Trust.Inner v.Votes v.Accepts v.Confirms v.Heard x.Topic x.Value=_:=y3r h x v.Accepts 0 rfl;grind
def withA(v:Voter)(x:Claim):Voter:={v with Accepts:=q0o (v.Accepts++[x])}
def q1v:Nat->Voter->Voter|0,v=>v|n+1,v=>match nextV v with|none=>v|some x=>q1v n (withA v x)
theorem q8w{v:Voter}{x:Claim}(h:nextV v=some x):x∈known v/\x∉v.Accepts/\(∀y∈v.Accepts,¬Contra x y)/\accB (viewV v) v.Node.toNat (votes (allM v) x) (q0t (allM v) x)=true:=by have h1:=List.mem_of_find?_eq_some h;have h2:=List.find?_some h;simp only[canB,aT,Bool.not_eq_true',dT',decide_eq_false_iff_not]at h2;simp_all
theorem y40{v:Voter}(h:nextV v=none):∀x∈known v,canB v x=false:=fun x hx=>by have:=List.find?_eq_none.1 h x hx;simp_all
theorem qec{A:List Claim}{x y:Claim}(hA:∀z∈A,vcl z=true)(hx:vcl x=true):y∈q0o (A++[x])↔y∈A\/y=x:=by rw[q1b,List.mem_append,List.mem_singleton];grind
theorem Ready.avc{v:Voter}(h:Ready v):∀z∈v.Accepts,vcl z=true:=(q0y.1 h.accs).1
theorem Ready.withA{v:Voter}(h:Ready v){x:Claim}(hx:vcl x=true)(hc:∀y∈v.Accepts,¬Contra x y):Ready (withA v x):=by
 have hm:=fun y=>qec (y:=y) h.avc hx;refine⟨h.node,h.seq,h.tr,h.votes,q2c _,h.confs,?_,fun y hy=>(hm y).2 (.inl (h.sub y hy)),h.heard⟩;have:consC (v.Accepts++[x])=true:=by rw[qcf h.cons,dT'];omega
 rw[q4g]at this⊢;intro a ha b hb;exact this a (q1b.1 ha).2 b (q1b.1 hb).2
theorem qw4{A:List Claim}{x:Claim}(hA:plainC A=true)(hx:vcl x=true)(hn:x∉A):(q0o (A++[x])).length=A.length+1:=by
 have hnd:∀{l:List Claim},l.Pairwise ltc->l.Nodup:=fun h=>List.Pairwise.imp (fun{a b}(hab:ltc a b)=>fun(e:a=b)=>q6q a (by simp_all)) h;have hp:(q0o (A++[x])).Perm (A++[x]):=(List.perm_ext_iff_of_nodup (hnd (qdw _)) (by rw[List.nodup_append];exact⟨hnd (q0y.1 hA).2,by simp,fun a ha b hb=>by grind⟩)).2 fun y=>by rw[qec (q0y.1 hA).1 hx];simp
 rw[hp.length_eq];simp
theorem q7m:∀(n:Nat)(v:Voter),Ready v->128-v.Accepts.length<n->Ready (q1v n v)/\nextV (q1v n v)=none|0,v,h,hn=>by omega|n+1,v,h,hn=>by rw[q1v];cases hx:nextV v with|none=>simp_all|some x=>obtain⟨h1,h2,h3,_⟩:=q8w hx;have hv:=q73 h1;have hr:=h.withA hv h3;have hl:=qw4 h.accs hv h2;have hal:(q0o (v.Accepts++[x])).length<=128:=hr.alen;exact q7m n (withA v x) hr (by show 128-(q0o (v.Accepts++[x])).length<n;omega)
theorem qbd:∀(n:Nat)(v:Voter),(q1v n v).Node=v.Node/\(q1v n v).Seq=v.Seq/\(q1v n v).Trust=v.Trust/\(q1v n v).Votes=v.Votes/\(q1v n v).Confirms=v.Confirms/\(q1v n v).Heard=v.Heard|0,v=>⟨rfl,rfl,rfl,rfl,rfl,rfl⟩|n+1,v=>by rw[q1v];cases nextV v with|none=>simp|some x=>exact qbd n (withA v x)
def confC(v:Voter)(C:List Claim)(l:List Claim):List Claim:=l.foldl (fun C x=>if confB (viewV v) v.Node.toNat (q0t (allM v) x)then q0o (C++[x])else C) C
def finish(v:Voter):Voter:={v with Confirms:=confC v v.Confirms v.Accepts}
def q0q(v:Voter):Voter:=finish (q1v 200 v)
theorem qke(v:Voter):∀(l C:List Claim),plainC C=true->plainC (confC v C l)=true
 |[],C,h=>h|x::l,C,h=>by
  show plainC (confC v (if _ then _ else _) l)=true;refine qke v l _ ?_;split;·exact q2c _
  omega
theorem qf0(v:Voter){y:Claim}:∀(l C:List Claim),(∀x∈C,vcl x=true)->(∀x∈l,vcl x=true)->(y∈confC v C l↔y∈C\/y∈l/\confB (viewV v) v.Node.toNat (q0t (allM v) y)=true)
 |[],C,_,_=>by simp[confC]|x::l,C,hC,hl=>by
  show y∈confC v (if _ then _ else _) l↔_;have hx:=hl x (by simp);have hl':∀z∈l,vcl z=true:=fun z hz=>hl z (by grind);by_cases hc:confB (viewV v) v.Node.toNat (q0t (allM v) x)=true;·rw[if_pos hc,qf0 v l _ (fun z hz=>(q1b.1 hz).1) hl',qec hC hx];grind
  .rw[if_neg hc,qf0 v l C hC hl'];grind
theorem Ready.finish{v:Voter}(h:Ready v):Ready (finish v):=⟨h.node,h.seq,h.tr,h.votes,h.accs,qke v _ _ h.confs,h.cons,fun x hx=>by
  rcases(qf0 v _ _ (q0y.1 h.confs).1 h.avc).1 hx with hx|hx;·exact h.sub x hx
  .exact hx.1,h.heard⟩
theorem Ready.settle{v:Voter}(h:Ready v):Ready (q0q v):=((q7m 200 v h (by omega)).1).finish
theorem qk6:∀t:Trust,Fits t->z5t t=some t:=by
 apply Trust.ind;intro t ih ht;have hsz:size t<1073741824:=ht;rw[q3m]at hsz;have l1:∀(suf:List Trust)(i:Nat)(acc:List Trust)(a8:Int)(a10:List Int)(a12:List Trust)(a14:Int)(a16:List Int)(a18:List Trust)(a20:Int)(a22:List Int),t.Inner.drop i=suf->acc.length<=i->z4l t.Inner ((t.Inner.length:Nat):Int) (i:Int) a8 a10 a12 a14 a16 a18 a20 a22 acc=some ⟨a20,a22,acc++suf⟩:=by intro suf;induction suf with|nil=>intro i acc a8 a10 a12 a14 a16 a18 a20 a22 h ha;apply yck;simp only[q0d h,cF,List.append_nil]|cons y suf ihs=>intro i acc a8 a10 a12 a14 a16 a18 a20 a22 h ha;have hlt:=q09 h;have hy:y∈t.Inner:=List.mem_of_mem_drop (by rw[h];exact List.mem_cons_self);apply yck;simp only[q07 h,cT,q04 h,ih y hy (ht.mem hy),bS,q02 (show i<4611686018427387904 by omega),Trust.etaM];rw[q05 (by simp[q06];omega),ihs (i+1) (acc++[y]) _ _ _ _ _ _ _ _ (q01 h) (by simp;omega)];simp
 apply yk6;have h1:z14 t.Nodes=some ((),t.Nodes):=ycd _ _ (by rw[q05 (by simp[q06];omega)];rfl);rw[h1,bS,show(0:Int)=((0:Nat):Int)from rfl,l1 t.Inner 0 [] _ _ _ _ _ _ _ _ rfl (Nat.le_refl _)];simp
theorem qlx{m:Message}(ht:Fits m.Trust)(h1:m.Votes.length<1000000)(h2:m.Accepts.length<1000000):z3c m=some m:=by apply yjn;rw[qk6 _ ht,bS,q3x _ h1,bS,q3x _ h2,bS,Trust.etaM]
theorem qq3(l:List Message)(hl:l.length<1000000)(hm:∀m∈l,z3c m=some m)(n s:Int)(t:Int)(ns:List Int)(is:List Trust)(va aa ca:List Claim)(d1 d2 d3:Int)(d4:List Int)(d5:List Trust)(d6 d7 d8:List Claim)(d9:List Message):∀(suf:List Message)(i:Nat)(acc:List Message),l.drop i=suf->acc.length<=i->z4k l ((l.length:Nat):Int) (i:Int) n s t ns is va aa ca acc d1 d2 d3 d4 d5 d6 d7 d8 d9=some ⟨n,s,⟨t,ns,is⟩,va,aa,ca,acc++suf⟩|[],i,acc,h,ha=>by apply yb9;rw[q0d h,cF,List.append_nil]|m::suf,i,acc,h,ha=>by have hlt:=q09 h;apply yb9;rw[q07 h,cT,q04 h,hm m (List.mem_of_mem_drop (i:=i) (by simp_all)),bS,q8y,q05 (by simp[q06];omega),q02 (by omega),qq3 l hl hm n s t ns is va aa ca d1 d2 d3 d4 d5 d6 d7 d8 d9 suf (i+1) _ (q01 h) (by simp_all)];simp
structure Fresh(v:Voter):Prop where
 tr:Fits v.Trust
 votes:v.Votes.length<1000000
 accs:v.Accepts.length<1000000
 confs:v.Confirms.length<1000000
 heard:v.Heard.length<1000000
 msgs:∀m∈v.Heard,z3c m=some m
theorem qg2{v:Voter}(h:Fresh v):z2b v=some v:=by apply ygx;rw[qk6 _ h.tr,bS,q3x _ h.votes,bS,q3x _ h.accs,bS,q3x _ h.confs,bS];have:=qq3 v.Heard h.heard h.msgs v.Node v.Seq v.Trust.Threshold v.Trust.Nodes v.Trust.Inner v.Votes v.Accepts v.Confirms 0 0 0 [] [] [] [] [] [] v.Heard 0 [] rfl (Nat.le_refl _);simp_all
theorem y93{m:Message}(h:msgB m=true):z3c m=some m:=qlx (q3l (q2a.1 h).2.2.1).1 (q13 h).votes (q13 h).accs
theorem Ready.fresh{v:Voter}(h:Ready v)(s:Int):Fresh {v with Seq:=s}:=⟨(q3l h.tr).1,by have:=h.vlen;grind,by have:=h.alen;grind,by have:=h.clen;grind,by have:=h.hlen;grind,fun m hm=>y93 (h.msg m hm).1⟩
theorem qu7{v:Voter}(h:Ready v)(l:List Claim)(hl:l.length<=128)(hv:∀x∈l,vcl x=true)(d1 d2 d3:Int)(d4:List Int)(d5:List Trust)(d6 d7 d8:List Claim)(d9:List Message)(e1 e2:Int):∀(suf:List Claim)(i:Nat)(C:List Claim),l.drop i=suf->plainC C=true->z2n (allM v) l ((l.length:Nat):Int) (i:Int) v.Node v.Seq v.Trust.Threshold v.Trust.Nodes v.Trust.Inner v.Votes v.Accepts C v.Heard d1 d2 d3 d4 d5 d6 d7 d8 d9 (viewV v).Members e1 e2=some {v with Confirms:=confC v C suf}
 |[],i,C,g,hC=>by apply ybl;rw[q0d g,cF,Trust.etaM];rfl|y::suf,i,C,g,hC=>by
  have hlt:=q09 g;have hlen:=h.len;have hcl:=q2o hC;have hy:=hv y (List.mem_of_mem_drop (i:=i) (by simp_all));obtain⟨n1,n2⟩:=h.node';have hacc:z4b ⟨(viewV v).Members⟩ v.Node ((q0t (allM v) y:Nat):Int)=some (confB (viewV v) v.Node.toNat (q0t (allM v) y)):=by have:=y7m h.view (q4q h.all y) n1;simp_all
  apply ybl;rw[q07 g,cT,q04 g,qzl _ (by omega) h.all,bS,hacc,bS,qvq C y (by omega) (q0y.1 hC).1 hy,bS,q02 (by omega)];show _=some {v with Confirms:=confC v (if confB (viewV v) v.Node.toNat (q0t (allM v) y)then q0o (C++[y])else C) suf};cases hc:confB (viewV v) v.Node.toNat (q0t (allM v) y)with|true=>rw[cT,if_pos rfl];exact qu7 h l hl hv d1 d2 d3 d4 d5 d6 d7 d8 d9 e1 e2 suf (i+1) _ (q01 g) (q2c _)|false=>rw[cF,if_neg (by simp)];exact qu7 h l hl hv d1 d2 d3 d4 d5 d6 d7 d8 d9 e1 e2 suf (i+1) _ (q01 g) hC
theorem y3q(d1 d2 d3:Int)(d4:List Int)(d5:List Trust)(d6 d7 d8:List Claim)(d9:List Message):∀(n:Nat)(v:Voter),Ready v->128-v.Accepts.length<n->∀r:Claim×Bool,r=(match nextV v with|some x=>(x,true)|none=>(⟨0,0⟩,false))->z4r r.2 v.Node v.Seq v.Trust.Threshold v.Trust.Nodes v.Trust.Inner v.Votes v.Accepts v.Confirms v.Heard d1 d2 d3 d4 d5 d6 d7 d8 d9 (viewV v).Members r.1.Topic r.1.Value=some (finish (q1v n v))|0,v,h,hn,_,_=>by omega|n+1,v,h,hn,r,hr=>by rw[q1v];apply yh3;cases hx:nextV v with|none=>rw[hx]at hr;subst hr;have hh:=h.hlen;simp only[cF];rw[qkh _ (by omega),bS,q0x,qv1,bS,q8y,q05 (by simp[q06];omega)];have:=qu7 h v.Accepts h.alen h.avc d1 d2 d3 d4 d5 d6 d7 d8 d9 0 0 v.Accepts 0 v.Confirms rfl h.confs;exact this|some x=>
   rw[hx]at hr;subst hr;obtain⟨h1,h2,h3,_⟩:=q8w hx;have hv:=q73 h1;have hr:=h.withA hv h3;have hl:=qw4 h.accs hv h2;have hal:=h.alen;have hal':(q0o (v.Accepts++[x])).length<=128:=hr.alen;simp only[cT];rw[show Claim.mk x.Topic x.Value=x from rfl,qvq _ _ (by omega) h.avc hv,bS];have hw:Voter.mk v.Node v.Seq (Trust.mk v.Trust.Threshold v.Trust.Nodes v.Trust.Inner) v.Votes (q0o (v.Accepts++[x])) v.Confirms v.Heard=withA v x:=by rw[Trust.etaM];rfl
   rw[hw];have hn':z7f (withA v x) ⟨(viewV v).Members⟩=_:=qt3 hr;rw[hn',bS];exact y3q d1 d2 d3 d4 d5 d6 d7 d8 d9 n (withA v x) hr (by grind) _ rfl
theorem qum{v:Voter}(h:Ready v):z7n v=some (q0q v):=by have hh:=h.hlen;apply yk2;have hv:z6l v.Node v.Trust v.Heard=some (viewV v):=y9a h.node h.tr v.Heard (by omega) h.msg;rw[hv,bS,qt3 h,bS];exact y3q _ _ _ _ _ _ _ _ _ 200 v h (by omega) _ rfl
noncomputable def turnV(b v:Voter):Voter:=if b.Trust=(q0q v).Trust/\b.Votes=(q0q v).Votes/\b.Accepts=(q0q v).Accepts then q0q v else{q0q v with Seq:=(q0q v).Seq+1}
theorem qgc{b v:Voter}(hb:Ready b)(h:Ready v):z37 b v=some (turnV b v):=by
 have hs:=h.settle;have h1:=hb.vlen;have h2:=hb.alen;have hq:=hs.seq;have f0:z2b (q0q v)=some (q0q v):=qg2 (hs.fresh (q0q v).Seq);have f1:z2b {q0q v with Seq:=(q0q v).Seq+1}=some {q0q v with Seq:=(q0q v).Seq+1}:=qg2 (hs.fresh _);have hw:Voter.mk (q0q v).Node (addI .i64 (q0q v).Seq 1) (Trust.mk (q0q v).Trust.Threshold (q0q v).Trust.Nodes (q0q v).Trust.Inner) (q0q v).Votes (q0q v).Accepts (q0q v).Confirms (q0q v).Heard={q0q v with Seq:=(q0q v).Seq+1}:=by rw[Trust.etaM,q2m (by omega) (by omega)]
 apply yjo;rw[qum h,bS,qxx _ (q1l hb.tr),bS,qqd _ _ (by omega),bS,qqd _ _ (by omega),bS,hw,f1,bS,f0,bS,q0x,q0x,turnV];by_cases e1:b.Trust=(q0q v).Trust<;>by_cases e2:b.Votes=(q0q v).Votes<;>by_cases e3:b.Accepts=(q0q v).Accepts<;>simp[e1,e2,e3]
noncomputable def turnE(b w:Voter):Voter:=if b.Trust=w.Trust/\b.Votes=w.Votes/\b.Accepts=w.Accepts then w else{w with Seq:=w.Seq+1}
section
variable {b : Voter} (hb : SmallV b) (hbs : 0 <= b.Seq /\ b.Seq < 4611686018427387904) (d1 d2 d3 : Int) (d4 : List Int) (d5 : List Trust) (d6 d7 d8 : List Claim) (d9 : List Message)
include hb hbs
theorem qui{v:Voter}(h:Ready v)(hs:v.Seq=b.Seq)(l:List Claim)(hl:l.length<=128)(hv:∀x∈l,vcl x=true):∀(suf:List Claim)(i:Nat)(C:List Claim),l.drop i=suf->plainC C=true->z29 (allM v) l ((l.length:Nat):Int) (i:Int) b.Node b.Seq b.Trust.Threshold b.Trust.Nodes b.Trust.Inner b.Votes b.Accepts b.Confirms b.Heard v.Node v.Seq v.Trust.Threshold v.Trust.Nodes v.Trust.Inner v.Votes v.Accepts C v.Heard d1 d2 d3 d4 d5 d6 d7 d8 d9=some (turnE b {v with Confirms:=confC v C suf})
 |[],i,C,g,hC=>by have h1:=hb.votes;have h2:=hb.accs;apply yd0;rw[q0d g,cF,qkp _ _ (by omega),bS,qkp _ _ (by omega),bS,Trust.etaM,Trust.etaM,qxt _ hb.tr,bS,q2m (by omega) (by omega),<-hs,turnE];show _=some (if b.Trust=v.Trust/\b.Votes=v.Votes/\b.Accepts=v.Accepts then _ else _);by_cases e1:b.Trust=v.Trust<;>by_cases e2:b.Votes=v.Votes<;>by_cases e3:b.Accepts=v.Accepts<;>simp[e1,e2,e3,confC]|y::suf,i,C,g,hC=>by
  have hlt:=q09 g;have hlen:=h.len;have hh:=h.hlen;have hcl:=q2o hC;have hy:=hv y (List.mem_of_mem_drop (i:=i) (by simp_all));obtain⟨n1,n2⟩:=h.node';have hacc:z6r (viewV v) v.Node ((q0t (allM v) y:Nat):Int)=some (confB (viewV v) v.Node.toNat (q0t (allM v) y)):=by have:=y80 h.view (q4q h.all y) n1;simp_all
  have hvw:z7d v.Node v.Trust v.Heard=some (viewV v):=qw8 h.node h.tr v.Heard (by omega) h.msg;apply yd0;rw[q07 g,cT,q04 g,Trust.etaM,hvw,bS,qwq _ (by omega) h.all,bS,hacc,bS,qvo C y (by omega),bS,q02 (by omega)];show _=some (turnE b {v with Confirms:=confC v (if confB (viewV v) v.Node.toNat (q0t (allM v) y)then q0o (C++[y])else C) suf});cases hc:confB (viewV v) v.Node.toNat (q0t (allM v) y)with|true=>rw[cT,if_pos rfl];exact qui h hs l hl hv suf (i+1) _ (q01 g) (q2c _)|false=>rw[cF,if_neg (by simp)];exact qui h hs l hl hv suf (i+1) _ (q01 g) hC
theorem y5y{v:Voter}(h:Ready v)(hs:v.Seq=b.Seq)(l:List Claim)(hl:l.length<=128)(hv:∀x∈l,vcl x=true)(R:Voter):∀(suf:List Claim)(i:Nat),l.drop i=suf->(∀x,suf.find? (canB v)=some x->z3z true b.Node b.Seq b.Trust.Threshold b.Trust.Nodes b.Trust.Inner b.Votes b.Accepts b.Confirms b.Heard v.Node v.Seq v.Trust.Threshold v.Trust.Nodes v.Trust.Inner v.Votes (q0o (v.Accepts++[x])) v.Confirms v.Heard d1 d2 d3 d4 d5 d6 d7 d8 d9=some R)->(suf.find? (canB v)=none->turnE b (finish v)=R)->z34 false l ((l.length:Nat):Int) (i:Int) b.Node b.Seq b.Trust.Threshold b.Trust.Nodes b.Trust.Inner b.Votes b.Accepts b.Confirms b.Heard v.Node v.Seq v.Trust.Threshold v.Trust.Nodes v.Trust.Inner v.Votes v.Accepts v.Confirms v.Heard d1 d2 d3 d4 d5 d6 d7 d8 d9=some R|[],i,g,_,hnone=>by have hh:=h.hlen;apply ybd;rw[q0d g,cF];apply yg6;rw[cF,q0x,qpm (by omega),bS,<-hnone rfl];exact qui hb hbs d1 d2 d3 d4 d5 d6 d7 d8 d9 h hs v.Accepts h.alen h.avc v.Accepts 0 v.Confirms rfl h.confs|y::suf,i,g,hsome,hnone=>by have hlt:=q09 g;have hal:=h.alen;apply ybd;rw[q07 g,cT,q04 g,q0x,ye1 h,bS,qvo _ _ (by omega),bS,q02 (by omega)];cases hc:canB v y with|true=>simp_all|false=>rw[cF];exact y5y h hs l hl hv R suf (i+1) (q01 g) (fun x hx=>hsome x (by simp_all)) (fun hx=>hnone (by simp_all))
theorem y2u:∀(n:Nat)(v:Voter),Ready v->v.Seq=b.Seq->128-v.Accepts.length<n->z3z true b.Node b.Seq b.Trust.Threshold b.Trust.Nodes b.Trust.Inner b.Votes b.Accepts b.Confirms b.Heard v.Node v.Seq v.Trust.Threshold v.Trust.Nodes v.Trust.Inner v.Votes v.Accepts v.Confirms v.Heard d1 d2 d3 d4 d5 d6 d7 d8 d9=some (turnE b (finish (q1v n v)))
 |0,v,h,hs,hn=>by omega|n+1,v,h,hs,hn=>by
  apply yfi;rw[cT,q0x,y4e h,bS];refine y5y hb hbs d1 d2 d3 d4 d5 d6 d7 d8 d9 h hs (known v) (q3v _) (fun x hx=>q73 hx) _ (known v) 0 rfl (fun x hx=>?_) (fun hx=>?_);·have hx':nextV v=some x:=hx;obtain⟨h1,h2,h3,_⟩:=q8w hx';have hv:=q73 h1;have hr:=h.withA hv h3;have hl:=qw4 h.accs hv h2;have hal':(q0o (v.Accepts++[x])).length<=128:=hr.alen;rw[q1v,hx'];exact y2u n (withA v x) hr hs (by show 128-(q0o (v.Accepts++[x])).length<n;omega)
  .have hx':nextV v=none:=hx;rw[q1v,hx']
theorem qa4{v:Voter}(h:Ready v)(hs:v.Seq=b.Seq):z52 b v=some (turnV b v):=by apply ykc;exact y2u hb hbs _ _ _ _ _ _ _ _ _ 200 v h hs (by omega)
end
def q4y:Voter:=⟨0,0,⟨0,[],[]⟩,[],[],[],[]⟩
noncomputable def voteV(v:Voter)(x:Claim):Voter×Int:=if q24 v=false\/vcl x=false then(q4y,1)else if∃y∈v.Votes++v.Accepts,Contra x y then(q4y,14)else if x∈v.Votes then(v,0)else(turnV v {v with Votes:=q0o (v.Votes++[x])},0)
theorem qy7(l:List Claim)(hl:l.length<1152921504606846976)(x:Claim):∀(suf:List Claim)(i:Nat),l.drop i=suf->∃r:Int,z07 l ((l.length:Nat):Int) (i:Int) x.Topic x.Value=some (r,x.Topic,x.Value)/\leB 0 r=decide (∃y∈suf,Contra x y)
 |[],i,h=>by refine⟨-1,y6h _ _ _ _ _ _ ?_,by rfl⟩;rw[q0d h];rfl|y::suf,i,h=>by
  have hlt:=q09 h;obtain⟨r,h1,h2⟩:=qy7 l hl x suf (i+1) (q01 h);have hf:z83 y x.Topic x.Value=some (decide (Contra x y),x.Topic,x.Value):=yf8 _ _ _ _ (by rw[show Claim.mk x.Topic x.Value=x from rfl,y16];rfl);by_cases hc:Contra x y;·refine⟨i,y6h _ _ _ _ _ _ ?_,by simp[leB,hc]⟩;rw[q07 h,cT,q04 h,hf];grind
  .refine⟨r,y6h _ _ _ _ _ _ ?_,by rw[h2];simp[hc]⟩;rw[q07 h,cT,q04 h,hf,bS,q02 (by omega)];simp_all
theorem y2l(l:List Claim)(hl:l.length<1152921504606846976)(x:Claim):z0d l x.Topic x.Value=some (decide (∃y∈l,Contra x y),x.Topic,x.Value):=by obtain⟨r,h1,h2⟩:=qy7 l hl x l 0 rfl;apply yjy;have h3:z0m l x.Topic x.Value=_:=yf0 _ _ _ _ h1;simp_all
theorem Ready.withV{v:Voter}(h:Ready v)(x:Claim):Ready {v with Votes:=q0o (v.Votes++[x])}:=⟨h.node,h.seq,h.tr,q2c _,h.accs,h.confs,h.cons,h.sub,h.heard⟩
theorem y3f{v:Voter}(hs:SmallV v)(x:Claim):z8u v x=some (voteV v x):=by apply yi4;rw[qcs hs,bS,qf8,bS,voteV];cases hv:q24 v with|false=>rfl|true=>cases hx:vcl x with|false=>rfl|true=>
   obtain⟨h,hc⟩:=q0n.1 hv;have h1:=h.vlen;have h2:=h.alen;have hw:Voter.mk v.Node v.Seq (Trust.mk v.Trust.Threshold v.Trust.Nodes v.Trust.Inner) (q0o (v.Votes++[x])) v.Accepts v.Confirms v.Heard={v with Votes:=q0o (v.Votes++[x])}:=by simp
   simp only[nT,cF,Bool.true_eq_false,or_self,if_false];rw[y2l _ (by omega),bS,y2l _ (by omega),bS];dsimp only;rw[show Claim.mk x.Topic x.Value=x from rfl,ql6 _ (by omega),bS,qg2 (h.fresh v.Seq),bS,qvq _ _ (by omega) (q0y.1 h.votes).1 hx,bS,hw,qgc h (h.withV x),bS,q0x,q0x];by_cases e1:∃y∈v.Votes,Contra x y
   .have:∃y∈v.Votes++v.Accepts,Contra x y:=by grind
    rw[if_pos this];simp only[e1,decide_true,cT];rfl
   .by_cases e2:∃y∈v.Accepts,Contra x y
    .have:∃y∈v.Votes++v.Accepts,Contra x y:=by grind
     rw[if_pos this];simp only[e1,e2,decide_true,decide_false,cT,cF];rfl
    .have:¬∃y∈v.Votes++v.Accepts,Contra x y:=by
      rintro⟨y,h,h'⟩;rcases List.mem_append.1 h with h|h;·exact e1 ⟨y,h,h'⟩
      .exact e2 ⟨y,h,h'⟩
     rw[if_neg this];by_cases e3:x∈v.Votes;·simp only[e1,e2,e3,decide_true,decide_false,cT,cF,if_true]
     grind
theorem qxb{v:Voter}(h:Ready v)(x:Claim)(R:Voter×Int)(l:List Claim)(hl:l.length<1152921504606846976)(d1 d2 d3:Int)(d4:List Int)(d5:List Trust)(d6 d7 d8:List Claim)(d9:List Message)(hR:R=if x∈v.Votes then(v,0)else(turnV v {v with Votes:=q0o (v.Votes++[x])},0)):∀(suf:List Claim)(i:Nat),l.drop i=suf->z54 l ((l.length:Nat):Int) (i:Int) v.Node v.Seq v.Trust.Threshold v.Trust.Nodes v.Trust.Inner v.Votes v.Accepts v.Confirms v.Heard x.Topic x.Value d1 d2 d3 d4 d5 d6 d7 d8 d9=some (if∃y∈suf,Contra x y then(q4y,14)else R)
 |[],i,g=>by
  have h1:=h.vlen;have hq:=h.seq;have hw:Voter.mk v.Node v.Seq (Trust.mk v.Trust.Threshold v.Trust.Nodes v.Trust.Inner) (q0o (v.Votes++[x])) v.Accepts v.Confirms v.Heard={v with Votes:=q0o (v.Votes++[x])}:=by simp
  apply ycn;rw[q0d g,cF,show Claim.mk x.Topic x.Value=x from rfl,qb4 _ (by omega),bS,qvo _ _ (by omega),bS,q0x,hw,qa4 h.small ⟨by omega,by omega⟩ (h.withV x) rfl,bS,q0x,if_neg (by simp),hR];by_cases e3:x∈v.Votes<;>simp[e3]|y::suf,i,g=>by
  have hlt:=q09 g;apply ycn;rw[q07 g,cT,q04 g,show Claim.mk x.Topic x.Value=x from rfl,qgo,bS,q02 (by omega),qxb h x R l hl d1 d2 d3 d4 d5 d6 d7 d8 d9 hR suf (i+1) (q01 g)];by_cases hc:Contra x y;·simp[hc];rfl
  simp_all
theorem qjg{v:Voter}(hs:SmallV v)(x:Claim):z7z v x=some (voteV v x):=by apply yk0;rw[qc8 hs,bS,qgk,bS,voteV];cases hv:q24 v with|false=>rfl|true=>cases hx:vcl x with|false=>rfl|true=>
   obtain⟨h,hc⟩:=q0n.1 hv;have h1:=h.vlen;have h2:=h.alen;have h3:=q3v (v.Votes++v.Accepts);simp only[nT,cF,Bool.true_eq_false,or_self,if_false];rw[q6x _ _ (by omega) (by omega),bS];have:=qxb h x _ (q0o (v.Votes++v.Accepts)) (by omega) 0 0 0 [] [] [] [] [] [] rfl (q0o (v.Votes++v.Accepts)) 0 rfl;have h4:∀a b:Int,z54 (q0o (v.Votes++v.Accepts)) (((q0o (v.Votes++v.Accepts)).length:Nat):Int) 0 v.Node v.Seq v.Trust.Threshold v.Trust.Nodes v.Trust.Inner v.Votes v.Accepts v.Confirms v.Heard x.Topic x.Value 0 0 0 [] [] [] [] [] []=_:=fun _ _=>this;rw[h4 0 0];have hiff:(∃y∈q0o (v.Votes++v.Accepts),Contra x y)↔∃y∈v.Votes++v.Accepts,Contra x y:=by
    constructor;·rintro⟨y,g,g'⟩;exact⟨y,(q1b.1 g).2,g'⟩
    .rintro⟨y,g,g'⟩;refine⟨y,q1b.2 ⟨?_,g⟩,g'⟩;rcases List.mem_append.1 g with g|g;·exact(q0y.1 h.votes).1 y g
     .exact h.avc y g
   by_cases e:∃y∈v.Votes++v.Accepts,Contra x y;·rw[if_pos e,if_pos (hiff.2 e)]
   grind
noncomputable def declV(v:Voter)(t:Trust):Voter×Int:=if q24 v=false then(q4y,1)else if verr t≠0 then(q4y,verr t)else if v.Trust=t then(v,0)else(turnV v {v with Trust:=t},0)
theorem Ready.withT{v:Voter}(h:Ready v){t:Trust}(ht:valid t=true):Ready {v with Trust:=t}:=⟨h.node,h.seq,ht,h.votes,h.accs,h.confs,h.cons,h.sub,h.heard⟩
theorem y5d{v:Voter}(hs:SmallV v){t:Trust}(ht:Small t):z7m v t=some (declV v t):=by apply yge;rw[qcs hs,bS,q9b _ ht,bS,declV];cases hv:q24 v with|false=>rfl|true=>
  obtain⟨h,hc⟩:=q0n.1 hv;simp only[nT,cF,Bool.true_eq_false,if_false];by_cases e:verr t=0
  .rw[e,q0h,cF,if_neg (by simp),qxx _ hs.tr,bS,qg2 (h.fresh v.Seq),bS];have hw:Voter.mk v.Node v.Seq (Trust.mk t.Threshold t.Nodes t.Inner) v.Votes v.Accepts v.Confirms v.Heard={v with Trust:=t}:=by rw[Trust.etaM]
   rw[hw,qgc h (h.withT ((q3k t).1 e)),bS,q0x,q0x];by_cases e2:v.Trust=t;·rw[if_pos e2,decide_eq_true e2,cT]
   simp_all
  .rw[q0w e,cT,if_pos e];rfl
theorem qjp{v:Voter}(hs:SmallV v){t:Trust}(ht:Small t):z73 v t=some (declV v t):=by apply ykn;rw[qc8 hs,bS,q7j _ ht,bS,declV];cases hv:q24 v with|false=>rfl|true=>
  obtain⟨h,hc⟩:=q0n.1 hv;have hq:=h.seq;simp only[nT,cF,Bool.true_eq_false,if_false];by_cases e:verr t=0
  .rw[e,q0h,cF,if_neg (by simp),qxt _ hs.tr,bS];have hw:Voter.mk v.Node v.Seq (Trust.mk t.Threshold t.Nodes t.Inner) v.Votes v.Accepts v.Confirms v.Heard={v with Trust:=t}:=by rw[Trust.etaM]
   rw[hw,qa4 hs ⟨by omega,by omega⟩ (h.withT ((q3k t).1 e)) rfl,bS,q0x,q0x];grind
  .rw[q0w e,cT,if_pos e];rfl
def qmu(n:Int)(t:Trust):Voter×Int:=if inR n=false then(q4y,5)else if verr t≠0 then(q4y,verr t)else(⟨n,1,t,[],[],[],[]⟩,0)
theorem y1j(n:Int){t:Trust}(ht:Small t):z7p n t=some (qmu n t):=by
 apply yi3;rw[q9b _ ht,bS,qmu,inR,ltB,leB];by_cases e1:n<0
 .have:¬0<=n:=by omega
  simp[e1,this];rfl
 .have e1':0<=n:=by omega
  by_cases e2:10<=n
  .have:¬n<10:=by omega
   simp[e1,e2,this];rfl
  .have e2':n<10:=by omega
   by_cases e:verr t=0;·rw[qk6 _ (q3l ((q3k t).1 e)).1];simp[e1,e2,e1',e2',e,neB]
   .simp[e1,e2,e1',e2',e,neB];rfl
theorem y0s(n:Int){t:Trust}(ht:Small t):z8a n t=some (qmu n t):=by
 apply yhf;rw[q7j _ ht,bS,qmu,inR,ltB,leB];by_cases e1:n<0
 .have:¬0<=n:=by omega
  simp[e1,this];rfl
 .have e1':0<=n:=by omega
  by_cases e2:10<=n
  .have:¬n<10:=by omega
   simp[e1,e2,this];rfl
  .have e2':n<10:=by omega
   by_cases e:verr t=0;·simp[e1,e2,e1',e2',e,neB]
   .simp[e1,e2,e1',e2',e,neB];rfl
def hearL(m:Message):List Message->List Message|[]=>[m]|x::r=>if x.Node<m.Node then x::hearL m r else if x.Node=m.Node then m::r else m::x::r
def oldB(l:List Message)(m:Message):Bool:=l.any fun x=>decide (x.Node=m.Node)&&decide (m.Seq<=x.Seq)
noncomputable def hearV(v:Voter)(m:Message):Voter×Int:=if q24 v=false\/msgB m=false\/m.Node=v.Node then(q4y,1)else if oldB v.Heard m=true then(q4y,9)else(turnV v {v with Heard:=hearL m v.Heard},0)
theorem qkz{m x:Message}:∀{l:List Message},x∈hearL m l->x=m\/x∈l
 |[],h=>by simp[hearL]at h;simp_all|y::r,h=>by
  rw[hearL]at h;split at h
  .rcases List.mem_cons.1 h with h|h;·exact .inr (by simp[h])
   .rcases qkz h with h|h;·exact .inl h
    .exact .inr (by simp[h])
  grind
theorem qkb{n:Int}{m:Message}(hm:msgB m=true)(hn:m.Node≠n):∀{l:List Message}{q:Option Int},q3f n q l=true->(∀k,q=some k->k<m.Node)->q3f n q (hearL m l)=true
 |[],q,_,hq=>by cases q with|none=>simp[hearL,q3f,hm,hn]|some k=>simp[hearL,q3f,hm,hn,hq k rfl]
 |y::r,q,h,hq=>by
  have hi:=q22.1 h;rw[hearL];split
  .rename_i hlt;have hr:q3f n (some y.Node) r=true:=by rw[List.pairwise_cons]at hi;exact q22.2 ⟨fun x hx=>hi.1 x (by simp[hx]),fun k hk x hx=>by cases hk;exact hi.2.2.1 x hx,hi.2.2.2⟩
   have ih:=qkb hm hn hr (fun k hk=>by cases hk;exact hlt);have hj:=q22.1 ih;refine q22.2 ⟨fun x hx=>?_,fun k hk x hx=>?_,List.pairwise_cons.2 ⟨fun x hx=>hj.2.1 _ rfl x hx,hj.2.2⟩⟩
   .rcases List.mem_cons.1 hx with e|hx;·subst e;exact hi.1 x (by simp)
    .exact hj.1 x hx
   grind
  .rename_i hge;rw[List.pairwise_cons]at hi;split
   .rename_i heq;refine q22.2 ⟨fun x hx=>?_,fun k hk x hx=>?_,List.pairwise_cons.2 ⟨fun x hx=>by rw[<-heq];exact hi.2.2.1 x hx,hi.2.2.2⟩⟩
    .rcases List.mem_cons.1 hx with e|hx;·subst e;exact⟨hm,hn⟩
     .exact hi.1 x (by simp[hx])
    grind
   .rename_i hne;have hlt:m.Node<y.Node:=by omega
    refine q22.2 ⟨fun x hx=>?_,fun k hk x hx=>?_,List.pairwise_cons.2 ⟨fun x hx=>?_,List.pairwise_cons.2 hi.2.2⟩⟩
    .rcases List.mem_cons.1 hx with e|hx;·subst e;exact⟨hm,hn⟩
     .exact hi.1 x hx
    .rcases List.mem_cons.1 hx with e|hx;·subst e;exact hq k hk
     .exact hi.2.1 k hk x hx
    grind
theorem Ready.withH{v:Voter}(h:Ready v){m:Message}(hm:msgB m=true)(hn:m.Node≠v.Node):Ready {v with Heard:=hearL m v.Heard}:=⟨h.node,h.seq,h.tr,h.votes,h.accs,h.confs,h.cons,h.sub,qkb hm hn h.heard (fun k hk=>by grind)⟩
def pos(k:Int):List Message->Nat|[]=>0|x::r=>if x.Node<k then pos k r+1 else 0
theorem y4w(k:Int):∀l:List Message,pos k l<=l.length
 |[]=>Nat.le_refl _|x::r=>by
  rw[pos];split;·simp;exact y4w k r
  simp
theorem qnw{k:Int}:∀{l:List Message},l.Pairwise (fun a b=>a.Node<b.Node)->∀(i:Nat)(x:Message),l[i]?=some x->(x.Node<k↔i<pos k l)|[],_,i,x,h=>by grind|y::r,hp,i,x,h=>by rw[List.pairwise_cons]at hp;rw[pos];cases i with|zero=>grind|succ i=>
   have h':r[i]?=some x:=by simpa using h
   have hyx:=hp.1 x (List.mem_of_getElem? h');split;·rw[qnw hp.2 i x h'];omega
   omega
def qaf(k:Int)(l:List Message):Bool:=match l[pos k l]? with|some x=>decide (x.Node=k)|none=>false
theorem qsr{m:Message}:∀{l:List Message},hearL m l=if qaf m.Node l=true then l.set (pos m.Node l) m else l.take (pos m.Node l)++m::l.drop (pos m.Node l)
 |[]=>by rfl|x::r=>by
  rw[hearL];by_cases h1:x.Node<m.Node
  .have hp:pos m.Node (x::r)=pos m.Node r+1:=by rw[pos,if_pos h1]
   have hf:qaf m.Node (x::r)=qaf m.Node r:=by simp[qaf,hp]
   rw[if_pos h1,qsr (l:=r),hp,hf];split<;>simp
  .have hp:pos m.Node (x::r)=0:=by rw[pos,if_neg h1]
   have hf:qaf m.Node (x::r)=decide (x.Node=m.Node):=by simp[qaf,hp]
   grind
theorem y8k{m:Message}{l:List Message}(hp:l.Pairwise (fun a b=>a.Node<b.Node)):oldB l m=match l[pos m.Node l]? with|some x=>decide (x.Node=m.Node)&&decide (m.Seq<=x.Seq)|none=>false:=by cases hx:l[pos m.Node l]? with|none=>rw[oldB,List.any_eq_false];intro x hx';obtain⟨i,hi,rfl⟩:=List.mem_iff_getElem.1 hx';have h1:=(qnw (k:=m.Node) hp i l[i] (by simp[hi]));grind|some y=>
  show oldB l m=(decide (y.Node=m.Node)&&decide (m.Seq<=y.Seq));rw[oldB,Bool.eq_iff_iff,List.any_eq_true];constructor
  .rintro⟨x,hx',h⟩;simp only[aT,dT']at h;obtain⟨i,hi,rfl⟩:=List.mem_iff_getElem.1 hx';have h1:=(qnw (k:=m.Node) hp i l[i] (by simp[hi]));have h3:=(qnw (k:=m.Node) hp _ y hx);have hge:pos m.Node l<=i:=by
    have:¬l[i].Node<m.Node:=by omega
    rw[h1]at this;omega
   have hpl:=(List.getElem?_eq_some_iff.1 hx).1;have:i=pos m.Node l:=by
    by_cases e:i=pos m.Node l;·exact e
    .have hlt:pos m.Node l<i:=by omega
     have:=List.pairwise_iff_getElem.1 hp _ _ hpl hi hlt;have h4:l[pos m.Node l]=y:=(List.getElem?_eq_some_iff.1 hx).2;rw[h4]at this;have:¬y.Node<m.Node:=by rw[h3];omega
     omega
   subst this;have h4:l[pos m.Node l]=y:=(List.getElem?_eq_some_iff.1 hx).2;rw[h4]at h;simp[h]
  grind
theorem yg8:∀i:Fin 12,∀j:Fin 12,IntKind.wrap .i64 (shrI .u64 (IntKind.wrap .u64 (addI .i64 ((i.val:Nat):Int) ((j.val:Nat):Int))) 1)=(((i.val+j.val)/2:Nat):Int):=by decide+kernel
theorem qxq(x:Message)(k:Int):z71 x k=some (if x.Node<k then-1 else if k<x.Node then 1 else 0):=ygc _ _ _ (by rw[qju];rfl)
theorem y2w{l:List Message}(hl:l.length<=10)(hp:l.Pairwise (fun a b=>a.Node<b.Node))(k:Int):∀(n i j:Nat),j-i<=n->i<=pos k l->pos k l<=j->j<=l.length->z00 l k ((l.length:Nat):Int) (i:Int) (j:Int)=some (((pos k l:Nat):Int),qaf k l)
 |n,i,j,hn,hi,hj,hjl=>by
  apply ykg;by_cases hij:i<j
  .obtain⟨n,rfl⟩:∃m,n=m+1:=⟨n-1,by omega⟩;have hmid:=yg8 ⟨i,by omega⟩ ⟨j,by omega⟩;dsimp only at hmid;have hml:(i+j)/2<l.length:=by omega
   have hg:l[(i+j)/2]?=some l[(i+j)/2]:=by simp
   have hpl:=qnw (k:=k) hp _ _ hg;rw[q03 (by omega),cT,hmid,q0j (by omega) (by rw[tN];omega),qxq,bS];by_cases h1:l[(i+j)/2].Node<k;·rw[if_pos h1,q03 (by decide),cT,q02 (by omega)];exact y2w hl hp k n ((i+j)/2+1) j (by omega) (by omega) hj hjl
   .rw[if_neg h1,q00 (by split<;>decide),cF];exact y2w hl hp k n i ((i+j)/2) (by omega) hi (by omega) (by omega)
  .have hij':i=pos k l:=by omega
   subst hij';rw[q00 (by omega),cF];unfold qaf;by_cases he:pos k l<l.length
   .have hg:l[pos k l]?=some l[pos k l]:=by simp
    have hpl:=qnw (k:=k) hp _ _ hg;have h1:¬l[pos k l].Node<k:=by omega
    rw[q03 (by omega),cT,q0j (by omega) (by rw[tN];omega),qxq,bS,hg,if_neg h1];by_cases h2:k<l[pos k l].Node
    .have:¬l[pos k l].Node=k:=by omega
     simp[h2,this,eqB]
    .have:l[pos k l].Node=k:=by omega
     simp[this,eqB]
   .rw[q00 (by omega),cF,List.getElem?_eq_none (by omega)]
theorem yfe{l:List Message}(hl:l.length<=10)(hp:l.Pairwise (fun a b=>a.Node<b.Node))(k:Int):z0b l k=some (((pos k l:Nat):Int),qaf k l):=by apply ykl;exact y2w hl hp k l.length 0 l.length (by omega) (by omega) (y4w k l) (Nat.le_refl _)
theorem y5v(l:List Message):(l.map q1u).all (q5s 7)=true:=by rw[List.all_eq_true];intro x hx;obtain⟨y,_,rfl⟩:=List.mem_map.1 hx;rfl
theorem y1k(l:List Message)(hl:l.length<1000000)(m:Message)(i:Nat)(hi:i<=l.length):z5s (i:Int) [m] l=some (l.take i++m::l.drop i,()):=by
 refine qau (T:=tn) (m:=q8r 7) sigOk (by rfl) rfl ?_;show libA (q8r 7) [.ref 0,.d (.v (.int .i64 i)),.d (.list [q1u m])] [[.own (l.map q1u) false]]=some (.d (.list ((l.take i++m::l.drop i).map q1u)),[[.undef]]);unfold libA q8r;have h1:(i:Int)<=((l.map q1u).length:Int):=by simp_all
 have h2:(l.map q1u).length<q06:=by simp[q06];omega
 have h3:q5s 7 (q1u m)=true:=rfl;simp only[Int.natCast_nonneg,h1,h2,h3,y5v,and_self,if_true,tN];simp only[List.map_append,List.map_cons,List.map_take,List.map_drop];rfl
theorem qq4{v:Voter}(hs:SmallV v){m:Message}(hm:SmallM m):z89 v m=some (hearV v m):=by apply yf3;rw[qcs hs,bS,qdc hm,bS,hearV];cases hv:q24 v with|false=>rfl|true=>cases hx:msgB m with|false=>rfl|true=>
   obtain⟨h,hc⟩:=q0n.1 hv;simp only[nT,cF,Bool.true_eq_false,false_or];by_cases hn:m.Node=v.Node;·rw[if_pos hn,hn,q0f];rfl
   .rw[if_neg hn,q0i hn,cF];have hp:=(q22.1 h.heard).2.2;have hh:=h.hlen;rw[yfe hh hp,bS,y8k hp,qkh _ (by omega)];have hpl:=y4w m.Node v.Heard;have hw:∀H,Voter.mk v.Node v.Seq (Trust.mk v.Trust.Threshold v.Trust.Nodes v.Trust.Inner) v.Votes v.Accepts v.Confirms H={v with Heard:=H}:=fun H=>by simp
    have ht:=qgc h (h.withH hx hn);rw[qsr]at ht⊢;simp only[bS,q8y];cases hf:qaf m.Node v.Heard with
    |true=>rw[hf,if_pos rfl]at ht;unfold qaf at hf;cases hg:v.Heard[pos m.Node v.Heard]? with|none=>simp_all|some y=>
      rw[hg]at hf;have hy:y.Node=m.Node:=by simp_all
      simp only[cT,if_true];rw[q0j (by omega) (by rw[tN];omega),q0j (by omega) (by rw[tN];omega),q3p (by rw[tN];omega),tN,hw,ht,bS,q0x];by_cases hq:m.Seq<=y.Seq<;>simp[leB,hy,hq]<;>rfl
    |false=>
     rw[hf,if_neg (by simp)]at ht;unfold qaf at hf;have hold:(match v.Heard[pos m.Node v.Heard]? with|some x=>decide (x.Node=m.Node)&&decide (m.Seq<=x.Seq)|none=>false)=false:=by grind
     simp only[cF,hold,fT,if_false];rw[y1k _ (by omega) m _ hpl,bS,hw,ht,bS,q0x]
theorem qyu{m:Message}:∀{l:List Message},(∀x∈l,m.Node<x.Node)->hearL m l=m::l|[],_=>rfl|y::r,h=>by have:=h y (by simp);rw[hearL,if_neg (by omega),if_neg (by omega)]
theorem quz{m:Message}{l:List Message}(h:∀x∈l,m.Node<x.Node):oldB l m=false:=by rw[oldB,List.any_eq_false];grind
theorem qfu(y:Message)(l:List Message)(m:Message):oldB (y::l) m=(decide (y.Node=m.Node)&&decide (m.Seq<=y.Seq)||oldB l m):=rfl
theorem qw9{v:Voter}(h:Ready v){m:Message}(d1 d2 d3:Int)(d4:List Int)(d5:List Trust)(d6 d7 d8:List Claim)(d9:List Message):∀(suf:List Message)(i:Nat)(acc:List Message)(done:Bool),i<=v.Heard.length->v.Heard.drop i=suf->acc.length<=2*i->(done=true->∀x∈suf,m.Node<x.Node)->suf.Pairwise (fun a b=>a.Node<b.Node)->(oldB suf m=false->Ready {v with Heard:=acc++(if done=true then suf else hearL m suf)})->z3b done v.Heard ((v.Heard.length:Nat):Int) (i:Int) v.Node v.Seq v.Trust.Threshold v.Trust.Nodes v.Trust.Inner v.Votes v.Accepts v.Confirms v.Heard m.Node m.Seq m.Trust.Threshold m.Trust.Nodes m.Trust.Inner m.Votes m.Accepts d1 d2 d3 d4 d5 d6 d7 d8 d9 v.Node v.Seq v.Trust.Threshold v.Trust.Nodes v.Trust.Inner v.Votes v.Accepts v.Confirms acc=some (if oldB suf m=true then(q4y,9)else(turnV v {v with Heard:=acc++(if done=true then suf else hearL m suf)},0))
 |[],i,acc,done,hil,g,ha,hd,hp,hR=>by
  have hq:=h.seq;have hh:=h.hlen;have hw:∀H,Voter.mk v.Node v.Seq (Trust.mk v.Trust.Threshold v.Trust.Nodes v.Trust.Inner) v.Votes v.Accepts v.Confirms H={v with Heard:=H}:=fun H=>by simp
  have hr:=hR rfl;apply ybp;rw[q0d g,cF,q0x,q8y,hw,hw,q05 (by simp[q06];omega)];cases done with|true=>simp only[if_true,List.append_nil]at hr⊢;rw[nT,cF,qa4 h.small ⟨by omega,by omega⟩ hr rfl,bS,q0x];rfl|false=>simp only[fT,if_false,hearL]at hr⊢;rw[Bool.not_false,cT,qa4 h.small ⟨by omega,by omega⟩ hr rfl,bS,q0x];rfl
 |y::suf,i,acc,done,hil,g,ha,hd,hp,hR=>by
  have hlt:=q09 g;have hh:=h.hlen;rw[List.pairwise_cons]at hp;have ih:=fun acc' done' a b c=>qw9 h (m:=m) d1 d2 d3 d4 d5 d6 d7 d8 d9 suf (i+1) acc' done' hlt (q01 g) a b hp.2 c;apply ybp;rw[q07 g,cT,q04 g,q02 (by omega),q8y,q8y,q05 (by simp[q06];omega),q05 (by simp[q06];omega),q05 (by simp[q06];omega),qfu];by_cases h1:y.Node=m.Node
  .have hgt:∀x∈suf,m.Node<x.Node:=fun x hx=>by simp_all
   have hdf:done=false:=by simp_all
   subst hdf;rw[h1,q0f,cT,quz hgt];have e1:hearL m (y::suf)=m::suf:=by rw[hearL,if_neg (by omega),if_pos h1]
   by_cases h2:m.Seq<=y.Seq;·simp[leB,h2];rfl
   .have hr:Ready {v with Heard:=acc++(if false=true then suf else hearL m suf)}:=by have:=hR (by rw[qfu,quz hgt];simp[h2]);rw[e1]at this;rw[qyu hgt];exact this
    rw[show leB m.Seq y.Seq=false by simp[leB,h2],cF,ih acc false (by omega) (fun e=>by cases e) (fun _=>hr),quz hgt,e1,qyu hgt];grind
  .rw[q0i h1,cF];have e0:(decide (y.Node=m.Node)&&decide (m.Seq<=y.Seq)||oldB suf m)=oldB suf m:=by grind
   rw[e0];have hR':oldB suf m=false->Ready {v with Heard:=acc++(if done=true then y::suf else hearL m (y::suf))}:=fun ho=>hR (by rw[qfu,e0];omega);by_cases h2:m.Node<y.Node;·have hgt:∀x∈suf,m.Node<x.Node:=fun x hx=>Int.lt_trans h2 (hp.1 x hx);rw[q03 h2,cT];cases done with
    |false=>
     have e1:hearL m (y::suf)=m::y::suf:=by rw[hearL,if_neg (by omega),if_neg h1]
     grind|true=>grind
   .have h3:y.Node<m.Node:=by omega
    have hdf:done=false:=by cases done with|false=>rfl|true=>have:=hd rfl y (by simp);omega
    subst hdf;have e1:hearL m (y::suf)=y::hearL m suf:=by rw[hearL,if_pos h3]
    rw[q00 (by omega),cF];grind
theorem q8z{v:Voter}(hs:SmallV v){m:Message}(hm:SmallM m):z5o v m=some (hearV v m):=by apply yjc;rw[qc8 hs,bS,qa3 hm,bS,hearV];cases hv:q24 v with|false=>rfl|true=>cases hx:msgB m with|false=>rfl|true=>
   obtain⟨h,hc⟩:=q0n.1 hv;simp only[nT,cF,Bool.true_eq_false,false_or];by_cases hn:m.Node=v.Node;·rw[if_pos hn,hn,q0f];rfl
   .rw[if_neg hn,q0i hn,cF];exact qw9 h (m:=m) 0 0 0 [] [] [] [] [] [] v.Heard 0 [] false (Nat.zero_le _) rfl (Nat.le_refl _) (fun e=>by cases e) (q22.1 h.heard).2.2 (fun _=>h.withH hx hn)
theorem y8r{v:Voter}(ht:Fits v.Trust)(h1:v.Votes.length<1000000)(h2:v.Accepts.length<1000000):z90 v=some (say v):=by apply yh5;rw[qv1,bS,qlx ht h1 h2,bS,q8y]
theorem q20(v:Voter):(q0q v).Node=v.Node/\(q0q v).Seq=v.Seq/\(q0q v).Trust=v.Trust/\(q0q v).Votes=v.Votes/\(q0q v).Heard=v.Heard:=by obtain⟨h1,h2,h3,h4,_,h6⟩:=qbd 200 v;exact⟨h1,h2,h3,h4,h6⟩
theorem q9e:∀(n:Nat)(v:Voter),Ready v->∀x∈v.Accepts,x∈(q1v n v).Accepts|0,v,h,x,hx=>hx|n+1,v,h,x,hx=>by rw[q1v];cases hy:nextV v with|none=>omega|some y=>obtain⟨h1,h2,h3,_⟩:=q8w hy;have hv:=q73 h1;exact q9e n (withA v y) (h.withA hv h3) x ((qec h.avc hv).2 (.inl hx))
theorem qc1{v:Voter}(h:Ready v){y:Claim}:y∈(q0q v).Confirms↔y∈v.Confirms\/y∈(q0q v).Accepts/\confB (viewV (q0q v)) (q0q v).Node.toNat (q0t (allM (q0q v)) y)=true:=by have hs:=(q7m 200 v h (by omega)).1;obtain⟨_,_,_,_,h5,_⟩:=qbd 200 v;show y∈confC (q1v 200 v) (q1v 200 v).Confirms (q1v 200 v).Accepts↔_;rw[qf0 _ _ _ (q0y.1 hs.confs).1 hs.avc,h5];rfl
theorem qv7{v:Voter}(h:Ready v):∀x∈known (q0q v),canB (q0q v) x=false:=fun x hx=>y40 (q7m 200 v h (by omega)).2 x hx
theorem Ready.withS{v:Voter}(h:Ready v){s:Int}(h1:1<=s)(h2:s<=1000000):Ready {v with Seq:=s}:=⟨h.node,⟨h1,h2⟩,h.tr,h.votes,h.accs,h.confs,h.cons,h.sub,h.heard⟩
theorem q3i(b v:Voter):∃s:Int,(s=v.Seq\/s=v.Seq+1)/\turnV b v={q0q v with Seq:=s}/\(s=v.Seq↔b.Trust=v.Trust/\b.Votes=v.Votes/\b.Accepts=(q0q v).Accepts):=by
 obtain⟨h1,h2,h3,h4,h5⟩:=q20 v;rw[turnV,h3,h4,h2];split;·rename_i h;exact⟨v.Seq,.inl rfl,by rw[<-h2],fun _=>h,fun _=>rfl⟩
 .rename_i h;exact⟨v.Seq+1,.inr rfl,rfl,fun e=>by omega,fun e=>absurd e h⟩
structure Step(v w:Voter):Prop where
 node:w.Node=v.Node
 seq:w.Seq=v.Seq\/w.Seq=v.Seq+1
 votes:∀x∈v.Votes,x∈w.Votes
 accs:∀x∈v.Accepts,x∈w.Accepts
 confs:∀x∈v.Confirms,x∈w.Confirms
 ready:w.Seq<=1000000->q24 w=true
 small:SmallV w
theorem Ready.smallS{v:Voter}(h:Ready v)(s:Int):SmallV {v with Seq:=s}:=⟨h.small.tr,h.small.votes,h.small.accs,h.small.confs,h.small.heard,h.small.msgs⟩
theorem qlj{b v u:Voter}(hu:Ready u)(hc:consC u.Votes=true)(hn:u.Node=v.Node)(hs:u.Seq=v.Seq)(hv:∀x∈v.Votes,x∈u.Votes)(ha:u.Accepts=v.Accepts)(hcf:u.Confirms=v.Confirms):Step v (turnV b u):=by obtain⟨s,h1,h2,_⟩:=q3i b u;obtain⟨g1,g2,g3,g4,g5⟩:=q20 u;have hr:=hu.settle;rw[h2];refine⟨g1.trans hn,by simp_all,fun x hx=>by simp_all,fun x hx=>q9e 200 u hu x (by simp_all),fun x hx=>(qc1 hu).2 (.inl (by simp_all)),fun hle=>?_,hr.smallS s⟩;have h3:=hu.seq;exact q0n.2 ⟨hr.withS (by omega) hle,by simp_all⟩
theorem qrm{v:Voter}(hv:q24 v=true):Step v v:=⟨rfl,.inl rfl,fun _ h=>h,fun _ h=>h,fun _ h=>h,fun _=>hv,(q0n.1 hv).1.small⟩
theorem y4d{v:Voter}(hv:q24 v=true){x:Claim}(h:(voteV v x).2=0):Step v (voteV v x).1/\(voteV v x).1.Heard=v.Heard/\(voteV v x).1.Trust=v.Trust:=by
 obtain⟨hr,hc⟩:=q0n.1 hv;unfold voteV at h⊢;split at h;·omega
 .rename_i h1;rw[if_neg h1];split at h;·omega
  .rename_i h2;rw[if_neg h2];split;·exact⟨qrm hv,rfl,rfl⟩
   .have hx:vcl x=true:=by simp_all
    have hm:=fun y=>qec (y:=y) (q0y.1 hr.votes).1 hx;refine⟨qlj (hr.withV x) ?_ rfl rfl (fun y hy=>(hm y).2 (.inl hy)) rfl rfl,?_,?_⟩
    .have:consC (v.Votes++[x])=true:=by rw[qcf hc,dT'];exact fun y hy hcc=>h2 ⟨y,by simp[hy],hcc⟩
     rw[q4g]at this⊢;simp_all
    .obtain⟨s,_,h4,_⟩:=q3i v {v with Votes:=q0o (v.Votes++[x])};dsimp only;rw[h4];exact(q20 _).2.2.2.2
    .obtain⟨s,_,h4,_⟩:=q3i v {v with Votes:=q0o (v.Votes++[x])};dsimp only;rw[h4];exact(q20 _).2.2.1
theorem y5f{v:Voter}(hv:q24 v=true){t:Trust}(h:(declV v t).2=0):Step v (declV v t).1/\(declV v t).1.Heard=v.Heard:=by
 obtain⟨hr,hc⟩:=q0n.1 hv;unfold declV at h⊢;rw[if_neg (by simp_all)]at h⊢;split at h;·omega
 .rename_i h1;rw[if_neg h1];split;·exact⟨qrm hv,rfl⟩
  .refine⟨qlj (hr.withT ((q3k t).1 (by omega))) hc rfl rfl (fun _ h=>h) rfl rfl,?_⟩;obtain⟨s,_,h4,_⟩:=q3i v {v with Trust:=t};dsimp only;rw[h4];exact(q20 _).2.2.2.2
theorem qdz{v:Voter}(hv:q24 v=true){m:Message}(hm:msgB m=true)(hn:m.Node≠v.Node)(ho:oldB v.Heard m=false):hearV v m=(turnV v {v with Heard:=hearL m v.Heard},0):=by unfold hearV;simp_all
theorem qlk{v:Voter}{m:Message}(h:(hearV v m).2=0):msgB m=true/\m.Node≠v.Node/\oldB v.Heard m=false:=by unfold hearV at h;grind
theorem y37{v:Voter}(hv:q24 v=true){m:Message}(h:(hearV v m).2=0):Step v (hearV v m).1/\(hearV v m).1.Heard=hearL m v.Heard:=by obtain⟨hr,hc⟩:=q0n.1 hv;obtain⟨h1,h2,h3⟩:=qlk h;rw[qdz hv h1 h2 h3];refine⟨qlj (hr.withH h1 h2) hc rfl rfl (fun _ h=>h) rfl rfl,?_⟩;obtain⟨s,_,h4,_⟩:=q3i v {v with Heard:=hearL m v.Heard};dsimp only;rw[h4];exact(q20 _).2.2.2.2
theorem qdb{n:Int}{t:Trust}(hn:inR n=true)(ht:valid t=true):qmu n t=(⟨n,1,t,[],[],[],[]⟩,0)/\q24 ⟨n,1,t,[],[],[],[]⟩=true:=by
 constructor;·rw[qmu,if_neg (by simp_all),if_neg (by rw[(q3k t).2 ht];simp)]
 .rw[q0n];exact⟨⟨hn,⟨by simp,by simp⟩,ht,rfl,rfl,rfl,by rfl,(fun x hx=>by omega),rfl⟩,by rfl⟩
theorem qzk:∀(l:List Message)(ms:List Member)(k:Nat),(l.Pairwise fun a b=>a.Node.toNat≠b.Node.toNat)->k<ms.length->(l.foldl seeM ms)[k]?=(match l.find? (fun m=>decide (m.Node.toNat=k))with|some m=>some ⟨true,m.Trust⟩|none=>ms[k]?)
 |[],ms,k,_,_=>rfl|m::l,ms,k,hd,hk=>by
  have hd:=List.pairwise_cons.1 hd;rw[List.foldl_cons,qzk l _ k hd.2 (by simpa[seeM]using hk),List.find?_cons];by_cases e:m.Node.toNat=k
  .have:l.find? (fun m=>decide (m.Node.toNat=k))=none:=List.find?_eq_none.2 fun x hx=>by grind
   simp[this,e,seeM,hk]
  .simp only[e,decide_false];cases hf:l.find? (fun m=>decide (m.Node.toNat=k))with|some y=>rfl|none=>exact List.getElem?_set_ne e
section
variable {n : Int} {t : Trust} {l : List Message} (hn : inR n = true) (hl : q3f n none l = true)
include hl in
theorem qha : l.Pairwise fun a b => a.Node.toNat ≠ b.Node.toNat := by
 obtain ⟨h1, _, h3⟩ := q22.1 hl;refine List.Pairwise.imp_of_mem (fun {a b} ha hb hab => ?_) h3;have g1 := q4e (q2a.1 (h1 a ha).1).1;have g2 := q4e (q2a.1 (h1 b hb).1).1;omega
include hl in
theorem y53 {a b : Message} (ha : a ∈ l) (hb : b ∈ l) (h : a.Node = b.Node) : a = b := by
 obtain ⟨i, hi, rfl⟩ := List.mem_iff_getElem.1 ha;obtain ⟨j, hj, rfl⟩ := List.mem_iff_getElem.1 hb;have hp := List.pairwise_iff_getElem.1 (qha hl);rcases Nat.lt_trichotomy i j with c | c | c
 .exact absurd (by rw [h]) (hp i j hi hj c)
 .subst c; rfl
 .exact absurd (by rw [h]) (hp j i hj hi c)
include hn in
theorem qew : (decl (viewC n t l)).testBit n.toNat = true /\ tr (viewC n t l) n.toNat = t := by
 have hg : (viewC n t l).Members[n.toNat]? = some ⟨true, t⟩ := by
  rw [viewC, List.getElem?_set_self (by rw [q9t]; simpa using (q4e hn).2)]
 exact ⟨q2r.2 ⟨(q4e hn).2, _, hg, rfl⟩, by unfold tr; rw [hg]; rfl⟩
include hl in
theorem y27 {k : Nat} (hk : k < 10) (hne : k ≠ n.toNat) : (viewC n t l).Members[k]? = match l.find? (fun m => decide (m.Node.toNat = k)) with | some m => some ⟨true, m.Trust⟩ | none => some ⟨false, ⟨0, [], []⟩⟩ := by
 rw [viewC, List.getElem?_set_ne (fun e => hne e.symm), qzk _ _ _ (qha hl) (by simpa using hk)];cases l.find? (fun m => decide (m.Node.toNat = k)) with
 | some m => rfl
 | none =>
  show (List.replicate 10 (⟨false, ⟨0, [], []⟩⟩ : Member))[k]? = _;rw [List.getElem?_replicate, if_pos hk]
include hn hl in
theorem qe4 {m : Message} (hm : m ∈ l) : (decl (viewC n t l)).testBit m.Node.toNat = true /\ tr (viewC n t l) m.Node.toNat = m.Trust := by
 obtain ⟨g1, g2⟩ := (q22.1 hl).1 m hm;have hb := q4e (q2a.1 g1).1;have hb' := q4e hn;have hg : (viewC n t l).Members[m.Node.toNat]? = some ⟨true, m.Trust⟩ := by
  rw [y27 hl hb.2 (by omega)];cases hf : l.find? (fun k => decide (k.Node.toNat = m.Node.toNat)) with
  | none =>
   have := List.find?_eq_none.1 hf m hm;simp at this
  | some y =>
   have h1 := List.mem_of_find?_eq_some hf;have h2 := List.find?_some hf;rw [dT'] at h2;have hy := q4e (q2a.1 ((q22.1 hl).1 y h1).1).1;have : y = m := y53 hl h1 hm (by omega);subst this; rfl
 exact ⟨q2r.2 ⟨hb.2, _, hg, rfl⟩, by unfold tr; rw [hg]; rfl⟩
end
theorem qap{p:Message->Bool}:∀(l:List Message)(s i:Nat),(whoF p s l).testBit i=true↔s.testBit i=true\/∃m∈l,p m=true/\m.Node.toNat=i|[],s,i=>by simp[whoF]|m::l,s,i=>by rw[q8n,qap l];cases hp:p m with|true=>simp only[if_true];rw[Nat.testBit_or,Bool.or_eq_true,bit,q95,dT'];grind|false=>simp_all
theorem qp7{l:List Message}{x:Claim}{i:Nat}:(votes l x).testBit i=true↔∃m∈l,x∈m.Votes/\m.Node.toNat=i:=by show(whoF _ 0 l).testBit i=true↔_;rw[qap];simp
theorem q4n{l:List Message}{x:Claim}{i:Nat}:(q0t l x).testBit i=true↔∃m∈l,x∈m.Accepts/\m.Node.toNat=i:=by show(whoF _ 0 l).testBit i=true↔_;rw[qap];simp
theorem qgy{v:Voter}{m:Message}(h:m∈allM v):m∈v.Heard\/m=say v:=by
 rcases List.mem_append.1 h with h|h;·exact .inl h
 simp_all
theorem y94{l:List Message}{m:Message}:oldB l m=true↔∃x∈l,x.Node=m.Node/\m.Seq<=x.Seq:=by simp[oldB]
def atV(S:List Voter)(b:Nat):Voter:=S.getD b q4y
theorem q2b{S:List Voter}{b:Nat}(h:b<S.length):S[b]?=some (atV S b):=by unfold atV;simp_all
theorem qc3{S:List Voter}{b:Nat}(h:b<S.length)(x:Voter)(c:Nat):atV (S.set b x) c=if b=c then x else atV S c:=by unfold atV;grind
def SubC(a b:List Claim):Prop:=∀x∈a,x∈b
theorem q7y:∀{A B:List Claim},A.Nodup->SubC A B->A.length<=B.length|[],_,_,_=>Nat.zero_le _|a::A,B,hn,h=>by obtain⟨h1,h2⟩:=List.nodup_cons.1 hn;have ha:=h a (by simp);have:=q7y (B:=B.erase a) h2 fun x hx=>(List.mem_erase_of_ne (fun(e:x=a)=>h1 (by rw[<-e];exact hx))).2 (h x (by simp[hx]));grind
theorem qid{l:List Claim}(h:plainC l=true):l.Nodup:=List.Pairwise.imp (fun{a b}(hab:ltc a b)=>fun(e:a=b)=>q6q a (by simp_all)) (q0y.1 h).2
theorem qzn{A B:List Claim}(h:plainC A=true)(hs:SubC A B):A.length<=B.length:=q7y (qid h) hs
theorem qut{A B:List Claim}(h:plainC A=true)(h':plainC B=true)(hs:SubC A B)(hne:A≠B):A.length<B.length:=by
 rcases Nat.lt_or_ge A.length B.length with g|g;·exact g
 .refine absurd (q8l h h' fun x=>⟨hs x,fun hx=>?_⟩) hne;cases hd:decide (x∈A)with
  |true=>simp_all
  |false=>have hx':x∉A:=of_decide_eq_false hd;have:=q7y (A:=x::A) (B:=B) (List.nodup_cons.2 ⟨hx',qid h⟩) (fun y hy=>by
    rcases List.mem_cons.1 hy with e|hy;·subst e;exact hx
    .exact hs y hy);grind
structure Settled(v:Voter):Prop where
 none:∀x∈known v,canB v x=false
 conf:∀y∈v.Accepts,confB (viewV v) v.Node.toNat (q0t (allM v) y)=true->y∈v.Confirms
theorem y1t(p:Message->Bool)(l:List Message)(m m':Message)(h1:m'.Node=m.Node)(h2:p m'=p m):who p (l++[m'])=who p (l++[m]):=by simp only[who,List.foldl_append,List.foldl_cons,List.foldl_nil,h1,h2]
theorem y83(v:Voter)(s:Int)(x:Claim):votes (allM {v with Seq:=s}) x=votes (allM v) x:=y1t _ _ _ _ rfl rfl
theorem qeb(v:Voter)(s:Int)(x:Claim):q0t (allM {v with Seq:=s}) x=q0t (allM v) x:=y1t _ _ _ _ rfl rfl
theorem y9i(v:Voter)(s:Int):known {v with Seq:=s}=known v:=by simp[known,allM,q5t,say]
theorem ydq(v:Voter)(s:Int)(x:Claim):canB {v with Seq:=s} x=canB v x:=by unfold canB;rw[y83,qeb];rfl
theorem y19{v:Voter}(h:Settled v)(s:Int):Settled {v with Seq:=s}:=by
 refine⟨fun x hx=>?_,fun y hy hc=>?_⟩;·rw[y9i]at hx;rw[ydq];exact h.none x hx
 .rw[qeb]at hc;exact h.conf y hy hc
theorem qqu{b u:Voter}(hu:Ready u):Settled (turnV b u):=by obtain⟨s,_,h2,_⟩:=q3i b u;rw[h2];exact y19 ⟨qv7 hu,fun y hy hc=>(qc1 hu).2 (.inr ⟨hy,hc⟩)⟩ s
structure Lay where
 N:Nat
 G:Nat->Prop
 T:Nat->Trust->Prop
 Cl:Claim->Prop
structure Told(P:Lay)(S:List Voter)(m:Message):Prop where
 node:0<=m.Node/\m.Node.toNat<P.N
 ins:uses m.Trust<2^P.N
 cl:∀y,y∈m.Votes\/y∈m.Accepts->P.Cl y
 good:∀a:Nat,P.G a->m.Node=(a:Int)->P.T a m.Trust/\SubC m.Votes (atV S a).Votes/\SubC m.Accepts (atV S a).Accepts/\m.Seq<=(atV S a).Seq/\(m.Seq=(atV S a).Seq->m=say (atV S a))
def WitC(P:Lay)(S:List Voter)(b:Nat)(y:Claim):Prop:=∃U:Nat,U.testBit b=true/\(∀k,U.testBit k=true->k<P.N)/\∀k,U.testBit k=true->P.G k->y∈(atV S k).Accepts/\∃t,P.T k t/\sat U t=true
structure MtB(P:Lay)(q:Nat)(S:List Voter)(b:Nat):Prop where
 valid:q24 (atV S b)=true
 node:(atV S b).Node=(b:Int)tru:P.G b->P.T b (atV S b).Trust
 ins:uses (atV S b).Trust<2^P.N
 seq:(atV S b).Seq<=((q+(atV S b).Accepts.length:Nat):Int)cl:∀y,y∈(atV S b).Votes\/y∈(atV S b).Accepts->P.Cl y
 set:Settled (atV S b)told:∀m∈(atV S b).Heard,Told P S m
 conf:P.G b->∀y∈(atV S b).Confirms,WitC P S b y
structure MtI(P:Lay)(q:Nat)(S:List Voter):Prop where
 len:S.length=P.N
 all:∀b,b<P.N->MtB P q S b
structure Up(P:Lay)(S:List Voter)(b:Nat)(u:Voter):Prop where
 ready:Ready u
 cons:consC u.Votes=true
 node:u.Node=(b:Int)seq:u.Seq=(atV S b).Seq
 votes:SubC (atV S b).Votes u.Votes
 accs:u.Accepts=(atV S b).Accepts
 confs:u.Confirms=(atV S b).Confirms
 tru:P.G b->P.T b u.Trust
 ins:uses u.Trust<2^P.N
 cl:∀y∈u.Votes,P.Cl y
 told:∀m∈u.Heard,Told P S m
theorem qnq{Cl:Claim->Prop}:∀(n:Nat)(v:Voter),(∀m∈allM v,∀y,y∈m.Votes\/y∈m.Accepts->Cl y)->∀y∈(q1v n v).Accepts,Cl y|0,v,h,y,hy=>h (say v) (by simp[allM]) y (.inr hy)|n+1,v,h,y,hy=>by rw[q1v]at hy;cases hx:nextV v with|none=>rw[hx]at hy;exact h (say v) (by simp[allM]) y (.inr hy)|some x=>
   rw[hx]at hy;obtain⟨h1,_⟩:=q8w hx;have hcx:Cl x:=by have:=(q1b.1 h1).2;unfold q5t at this;grind
   refine qnq n (withA v x) (fun m hm z hz=>?_) y hy;rcases qgy hm with g|g;·exact h m (by simp[allM];exact .inl g) z hz
   .subst g;rcases hz with hz|hz;·exact h (say v) (by simp[allM]) z (.inl hz)
    .have hz:z∈q0o (v.Accepts++[x]):=hz;rw[q1b,List.mem_append,List.mem_singleton]at hz;rcases hz.2 with g|g;·exact h (say v) (by simp[allM]) z (.inr g)
     simp_all
structure Turn(v w:Voter):Prop where
 node:w.Node=v.Node
 seq:v.Seq<=w.Seq
 votes:SubC v.Votes w.Votes
 accs:SubC v.Accepts w.Accepts
 same:w.Seq=v.Seq->say w=say v
theorem Turn.refl(v:Voter):Turn v v:=⟨rfl,Int.le_refl _,fun _ h=>h,fun _ h=>h,fun _=>rfl⟩
theorem Up.turn{P:Lay}{S:List Voter}{b:Nat}{u:Voter}(h:Up P S b u)(hn:(atV S b).Node=(b:Int)):Turn (atV S b) (turnV (atV S b) u):=by
 obtain⟨s,h1,h2,h3⟩:=q3i (atV S b) u;obtain⟨g1,g2,g3,g4,g5⟩:=q20 u;have hsq:=h.seq;rw[h2];refine⟨by show(q0q u).Node=_;rw[g1,h.node,hn],by grind,fun x hx=>?_,fun x hx=>?_,fun e=>?_⟩;·show x∈(q0q u).Votes;rw[g4];exact h.votes x hx
 .exact q9e 200 u h.ready x (by rw[h.accs];omega)
 .have e:s=u.Seq:=by simp_all
  obtain⟨e1,e2,e3⟩:=h3.1 e;simp only[say];rw[g1,g3,g4,<-e1,<-e2,<-e3,h.node,hn,e,hsq]
theorem qsi{P:Lay}{S:List Voter}{b:Nat}{w:Voter}(hb:b<S.length)(hw:Turn (atV S b) w){m:Message}(h:Told P S m):Told P (S.set b w) m:=by
 refine⟨h.node,h.ins,h.cl,fun a ha hm=>?_⟩;obtain⟨q1,q2,q3,q4,q5⟩:=h.good a ha hm;rw[qc3 hb];by_cases e:b=a
 .subst e;rw[if_pos rfl];have:=hw.seq;refine⟨q1,fun x hx=>hw.votes x (q2 x hx),fun x hx=>hw.accs x (q3 x hx),by omega,fun he=>?_⟩;have e1:w.Seq=(atV S b).Seq:=by omega
  rw[q5 (by omega),hw.same e1]
 grind
theorem y38{S:List Voter}{b:Nat}{w:Voter}(hb:b<S.length)(hw:Turn (atV S b) w)(k:Nat){x:Claim}(hx:x∈(atV S k).Accepts):x∈(atV (S.set b w) k).Accepts:=by
 rw[qc3 hb];by_cases e:b=k;·subst e;rw[if_pos rfl];exact hw.accs x hx
 simp_all
theorem qzu{S:List Voter}{b:Nat}{w:Voter}(hb:b<S.length)(hw:Turn (atV S b) w)(k:Nat){x:Claim}(hx:x∈(atV S k).Votes):x∈(atV (S.set b w) k).Votes:=by
 rw[qc3 hb];by_cases e:b=k;·subst e;rw[if_pos rfl];exact hw.votes x hx
 simp_all
theorem qqf{P:Lay}{S:List Voter}{b:Nat}{w:Voter}(hb:b<S.length)(hw:Turn (atV S b) w){d:Nat}{y:Claim}:WitC P S d y->WitC P (S.set b w) d y:=by rintro⟨U,h1,h2,h3⟩;exact⟨U,h1,h2,fun k hk hg=>⟨y38 hb hw k (h3 k hk hg).1,(h3 k hk hg).2⟩⟩
theorem y60{P:Lay}(_hN:P.N<=10){q q':Nat}{S:List Voter}(hS:MtI P q S){b:Nat}(hb:b<P.N)(hq:q<=100000){u:Voter}(hu:Up P S b u)(hq':q'=q+1\/q'=q/\u.Trust=(atV S b).Trust/\u.Votes=(atV S b).Votes):MtI P q' (S.set b (turnV (atV S b) u))/\Turn (atV S b) (turnV (atV S b) u):=by
 have hl:=hS.len;have B:=hS.all b hb;obtain⟨hbr,_⟩:=q0n.1 B.valid;have ht:=hu.turn B.node;have hbs:b<S.length:=by omega
 refine⟨⟨by grind,?_⟩,ht⟩;obtain⟨s,h1,h2,h3⟩:=q3i (atV S b) u;obtain⟨g1,g2,g3,g4,g5⟩:=q20 u;have hr:=hu.ready.settle;have hsq:=hu.seq;have hset:=qqu (b:=atV S b) hu.ready;have hsub:SubC (atV S b).Accepts (q0q u).Accepts:=fun x hx=>q9e 200 u hu.ready x (by rw[hu.accs];omega);have hle:=qzn hbr.accs hsub;have hal:=hr.alen;have hbq:=B.seq;generalize hw:turnV (atV S b) u=w at*;have eN:w.Node=(b:Int):=by rw[h2];show(q0q u).Node=_;rw[g1,hu.node]
 have eT:w.Trust=u.Trust:=by simp_all
 have eV:w.Votes=u.Votes:=by simp_all
 have eA:w.Accepts=(q0q u).Accepts:=by rw[h2]
 have eC:w.Confirms=(q0q u).Confirms:=by rw[h2]
 have eH:w.Heard=u.Heard:=by simp_all
 have eS:w.Seq=s:=by rw[h2]
 have hseq:s<=((q'+(q0q u).Accepts.length:Nat):Int):=by
  rcases hq' with e|⟨e,e1,e2⟩;·omega
  .rcases h1 with g|g;·omega
   .have hne:(atV S b).Accepts≠(q0q u).Accepts:=fun ea=>by grind
    have:=qut hbr.accs hr.accs hsub hne;omega
 have hs1:1<=s:=by have:=hu.ready.seq;omega
 have hs2:s<=1000000:=by rcases hq' with e|⟨e,_,_⟩<;>omega
 have hval:q24 w=true:=by rw[h2];exact q0n.2 ⟨hr.withS hs1 hs2,by show consC (q0q u).Votes=true;rw[g4];exact hu.cons⟩
 have hwr:=(q0n.1 hval).1;have hown:∀m∈w.Heard,Told P (S.set b w) m:=fun m hm=>qsi hbs ht (hu.told m (by simp_all));intro d hd;by_cases e:b=d
 .subst e;have ew:atV (S.set b w) b=w:=by rw[qc3 hbs,if_pos rfl]
  refine⟨by simp_all,by simp_all,fun hg=>by rw[ew,eT];exact hu.tru hg,by rw[ew,eT];exact hu.ins,by simp_all,?_,by simp_all,by simp_all,fun hg y hy=>?_⟩
  .rw[ew];rintro y(hy|hy);·exact hu.cl y (by simp_all)
   .rw[eA]at hy;refine qnq (Cl:=P.Cl) 200 u (fun m hm z hz=>?_) y hy;rcases qgy hm with g|g;·exact(hu.told m g).cl z hz
    .subst g;rcases hz with hz|hz;·exact hu.cl z hz
     .have hz:z∈u.Accepts:=hz;rw[hu.accs]at hz;exact B.cl z (.inr hz)
  .rw[ew,eC]at hy;rcases(qc1 hu.ready).1 hy with g|⟨g,hc⟩;·rw[hu.confs]at g;exact qqf hbs ht (B.conf hg y g)
   .have hc':confB (viewV w) w.Node.toNat (q0t (allM w) y)=true:=by
     have:q0t (allM w) y=q0t (allM (q0q u)) y:=by rw[h2];exact qeb _ _ _
     rw[this,h2];exact hc
    have hlt:=q4q hwr.all y;unfold confB at hc';have h0:q23 (viewV w) (q0t (allM w) y)≠0:=nz.2 ⟨_,hc'⟩;have hQ:=q7d (viewV w) hlt h0;have hbn:w.Node.toNat=b:=by omega
    rw[hbn]at hc';have one:∀k,(q23 (viewV w) (q0t (allM w) y)).testBit k=true->∃m∈allM w,y∈m.Accepts/\m.Node.toNat=k:=fun k hk=>by have hl:=q5x (viewV w) hlt k hk;rw[Nat.testBit_and,aT]at hl;exact q4n.1 hl.1
    refine⟨_,hc',fun k hk=>?_,fun k hk hgk=>?_⟩
    .obtain⟨m,hm,_,hmn⟩:=one k hk;rcases qgy hm with g|g;·have:=(hown m g).node;omega
     .subst g;have:(say w).Node=(b:Int):=eN;omega
    .have hs:=hQ.2.2 k hk;obtain⟨m,hm,hma,hmn⟩:=one k hk;rcases qgy hm with g|g;·have hmN:=(hown m g).node;obtain⟨q1,q2,q3,_,_⟩:=(hown m g).good k hgk (by omega);have t:=(qe4 hwr.node hwr.heard (t:=w.Trust) g).2;rw[hmn]at t;have t:tr (viewV w) k=m.Trust:=t;rw[t]at hs;exact⟨q3 y hma,_,q1,hs⟩
     .subst g;have hk':k=b:=hmn.symm.trans hbn;subst hk';have t:=(qew hwr.node (t:=w.Trust) (l:=w.Heard)).2;have t:tr (viewV w) w.Node.toNat=w.Trust:=t;rw[hbn]at t;rw[t]at hs;rw[ew];exact⟨hma,_,by rw[eT];exact hu.tru hgk,hs⟩
 .have ed:atV (S.set b w) d=atV S d:=by rw[qc3 hbs,if_neg e]
  have D:=hS.all d hd;have hqq:q<=q':=by rcases hq' with e|⟨e,_,_⟩<;>omega
  have:=D.seq;refine⟨by rw[ed];exact D.valid,by rw[ed];exact D.node,fun hg=>by rw[ed];exact D.tru hg,by rw[ed];exact D.ins,by grind,by rw[ed];exact D.cl,by rw[ed];exact D.set,fun m hm=>?_,fun hg y hy=>?_⟩;·rw[ed]at hm;exact qsi hbs ht (D.told m hm)
  .rw[ed]at hy;exact qqf hbs ht (D.conf hg y hy)
theorem y6j(p:Nat->Prop):∀n:Nat,∃X:Nat,X<2^n/\∀i,X.testBit i=true↔i<n/\p i
 |0=>⟨0,by simp,fun i=>by simp⟩|n+1=>by
  obtain⟨X,h1,h2⟩:=y6j p n;by_cases hp:p n;·refine⟨X|||2^n,Nat.or_lt_two_pow (Nat.lt_trans h1 (Nat.pow_lt_pow_right (by decide) (by omega))) (Nat.pow_lt_pow_right (by decide) (by omega)),fun i=>?_⟩;grind
  .refine⟨X,Nat.lt_trans h1 (Nat.pow_lt_pow_right (by decide) (by omega)),fun i=>?_⟩;grind
def QuoI(P:Lay)(I U:Nat):Prop:=(∃a,I.testBit a=true/\U.testBit a=true)/\∀k,I.testBit k=true->U.testBit k=true->∃t,P.T k t/\sat U t=true
structure Own(P:Lay)(I:Nat):Prop where
 sub:∀k,I.testBit k=true->P.G k/\k<P.N
 sat:∀k t,I.testBit k=true->P.T k t->sat I t=true
def Meets(P:Lay)(I:Nat):Prop:=∀U V,QuoI P I U->QuoI P I V->∃k,I.testBit k=true/\U.testBit k=true/\V.testBit k=true
def WitA(P:Lay)(I:Nat)(V:Nat->List Claim)(y:Claim):Prop:=∃U:Nat,(∃a,I.testBit a=true/\U.testBit a=true)/\∀k,I.testBit k=true->U.testBit k=true->y∈V k/\∃t,P.T k t/\sat U t=true
def AcI(P:Lay)(I:Nat)(S:List Voter):Prop:=∀k y,I.testBit k=true->y∈(atV S k).Accepts->WitA P I (fun k=>(atV S k).Votes) y
theorem WitA.mono{P:Lay}{I:Nat}{V W:Nat->List Claim}(h:∀k,SubC (V k) (W k)){y:Claim}:WitA P I V y->WitA P I W y:=by rintro⟨U,h1,h2⟩;exact⟨U,h1,fun k hk hu=>⟨h k y (h2 k hk hu).1,(h2 k hk hu).2⟩⟩
theorem qsf{P:Lay}(hN:P.N<=10){I:Nat}(hO:Own P I){S:List Voter}(hA:AcI P I S){b:Nat}(hb:I.testBit b=true){u:Voter}(hu:Up P S b u):∀(n:Nat)(v:Voter),Ready v->v.Node=u.Node->v.Trust=u.Trust->v.Votes=u.Votes->v.Heard=u.Heard->(∀y∈v.Accepts,WitA P I (fun k=>if k=b then u.Votes else(atV S k).Votes) y)->∀y∈(q1v n v).Accepts,WitA P I (fun k=>if k=b then u.Votes else(atV S k).Votes) y|0,v,_,_,_,_,_,h,y,hy=>h y hy|n+1,v,hr,eN,eT,eV,eH,h,y,hy=>by rw[q1v]at hy;cases hx:nextV v with|none=>simp_all|some x=>
   rw[hx]at hy;obtain⟨h1,h2,h3,h4⟩:=q8w hx;have hv:=q73 h1;have hGb:=hO.sub b hb;have hbn:v.Node.toNat=b:=by rw[eN,hu.node,tN]
   have hwx:WitA P I (fun k=>if k=b then u.Votes else(atV S k).Votes) x:=by
    by_cases hex:∃k,I.testBit k=true/\x∈(atV S k).Accepts
    .obtain⟨k,hk,hxk⟩:=hex;refine(hA k x hk hxk).mono fun j z hz=>?_;by_cases e:j=b;·subst e;rw[if_pos rfl];exact hu.votes z hz
     .rw[if_neg e];exact hz
    .have hacc:∀k,I.testBit k=true->(q0t (allM v) x).testBit k=true->False:=fun k hk ha=>by
      obtain⟨m,hm,hxm,hmn⟩:=q4n.1 ha;rcases qgy hm with g|g;·rw[eH]at g;have T:=hu.told m g;have:=T.node;exact hex ⟨k,hk,(T.good k (hO.sub k hk).1 (by omega)).2.2.1 x hxm⟩
      .subst g;exact h2 hxm
     have hown:=qew hr.node (t:=v.Trust) (l:=v.Heard);rw[hbn]at hown;have hto:tr (viewV v) b=u.Trust:=hown.2.trans eT;unfold accB at h4;rw[Bool.or_eq_true,hbn]at h4;rcases h4 with h4|h4
     .exfalso;unfold blk at h4;rw[aT,Bool.not_eq_true']at h4;have hs:=hO.sat b u.Trust hb (hu.tru hGb.1);have:Sub I (ndiff 1023 (q0t (allM v) x)|||2^b):=fun k hk=>by
       rw[Nat.testBit_or,q08,Bool.or_eq_true,aT,Bool.not_eq_true'];left;have hk10:k<10:=by have:=(hO.sub k hk).2;omega
       refine⟨?_,?_⟩;·rw[show(1023:Nat)=2^10-1 from rfl,Nat.testBit_two_pow_sub_one];simp;omega
       .cases ha:(q0t (allM v) x).testBit k with|false=>rfl|true=>exact absurd (hacc k hk ha) id
      have:=qdh this hs;rw[hto,this]at h4;cases h4.2
     .have l1:=qox hr.all x;have l2:=q4q hr.all x;have hlt:votes (allM v) x|||q0t (allM v) x<1024:=Nat.or_lt_two_pow (n:=10) l1 l2;have h0:q23 (viewV v) (votes (allM v) x|||q0t (allM v) x)≠0:=nz.2 ⟨_,h4⟩;have hQ:=q7d (viewV v) hlt h0;refine⟨_,⟨b,hb,h4⟩,fun k hk hku=>?_⟩;have hs:=hQ.2.2 k hku;have hl:=q5x (viewV v) hlt k hku;rw[Nat.testBit_and,aT,Nat.testBit_or,Bool.or_eq_true]at hl;rcases hl.1 with g|g
      .obtain⟨m,hm,hxm,hmn⟩:=qp7.1 g;rcases qgy hm with g|g;·have g':=g;rw[eH]at g;have T:=hu.told m g;have hne:=(hr.msg m g').2;have:=T.node;obtain⟨q1,q2,_⟩:=T.good k (hO.sub k hk).1 (by omega);have t:=(qe4 hr.node hr.heard (t:=v.Trust) g').2;rw[hmn]at t;have t:tr (viewV v) k=m.Trust:=t;rw[t]at hs;have hkb:k≠b:=fun e=>hne (by rw[eN,hu.node];omega);exact⟨by dsimp only;rw[if_neg hkb];exact q2 x hxm,_,q1,hs⟩
       .subst g;have hk':k=b:=hmn.symm.trans hbn;subst hk';rw[hto]at hs;have hxm:x∈v.Votes:=hxm;rw[eV]at hxm;exact⟨by dsimp only;rw[if_pos rfl];exact hxm,_,hu.tru hGb.1,hs⟩
      .exact absurd (hacc k hk g) id
   refine qsf hN hO hA hb hu n (withA v x) (hr.withA hv h3) eN eT eV eH (fun z hz=>?_) y hy;rcases(qec hr.avc hv).1 hz with g|g;·exact h z g
   simp_all
theorem ydj{P:Lay}(hN:P.N<=10){I:Nat}(hO:Own P I){S:List Voter}(hA:AcI P I S){b:Nat}(hb:b<S.length)(hn:(atV S b).Node=(b:Int)){u:Voter}(hu:Up P S b u):AcI P I (S.set b (turnV (atV S b) u)):=by
 have ht:=hu.turn hn;obtain⟨s,h1,h2,h3⟩:=q3i (atV S b) u;obtain⟨g1,g2,g3,g4,g5⟩:=q20 u;intro k y hk hy;have hmono:∀j,SubC (atV S j).Votes (atV (S.set b (turnV (atV S b) u)) j).Votes:=fun j z hz=>qzu hb ht j hz;rw[qc3 hb]at hy;by_cases e:b=k
 .subst e;rw[if_pos rfl,h2]at hy;have hy:y∈(q1v 200 u).Accepts:=hy;have:=qsf hN hO hA hk hu 200 u hu.ready rfl rfl rfl rfl (fun z hz=>(hA b z hk (by rw[hu.accs]at hz;exact hz)).mono fun j x hx=>by
   by_cases e:j=b;·subst e;rw[if_pos rfl];exact hu.votes x hx
   .rw[if_neg e];exact hx) y hy;refine this.mono fun j z hz=>?_;rw[qc3 hb];grind
 .rw[if_neg e]at hy;exact(hA k y hk hy).mono hmono
section
variable {P : Lay} (hN : P.N <= 10) {q : Nat} {S : List Voter} (hS : MtI P q S) {I : Nat}
include hS
variable (hO : Own P I)
include hO
theorem y1c(hA:AcI P I S)(hM:Meets P I){a b:Nat}(ha:I.testBit a=true)(hb:I.testBit b=true){x y:Claim}(hx:x∈(atV S a).Accepts)(hy:y∈(atV S b).Accepts):¬Contra x y:=by obtain⟨U,u1,u3⟩:=hA a x ha hx;obtain⟨V,v1,v3⟩:=hA b y hb hy;obtain⟨k,hk,hku,hkv⟩:=hM U V ⟨u1,fun k hk h=>(u3 k hk h).2⟩ ⟨v1,fun k hk h=>(v3 k hk h).2⟩;have K:=hS.all k (hO.sub k hk).2;exact q4g.1 (q0n.1 K.valid).2 x (u3 k hk hku).1 y (v3 k hk hkv).1
variable (hC : ∀ a b, P.G a -> a < P.N -> I.testBit b = true -> a ≠ b -> oldB (atV S b).Heard (say (atV S a)) = true)
include hC
theorem qml{a b:Nat}(ha:P.G a)(haN:a<P.N)(hb:I.testBit b=true)(hab:a≠b):say (atV S a)∈(atV S b).Heard:=by obtain⟨m,hm,hn,hs⟩:=y94.1 (hC a b ha haN hb hab);have A:=hS.all a haN;have hn:m.Node=(a:Int):=hn.trans A.node;obtain⟨_,_,_,q4,q5⟩:=((hS.all b (hO.sub b hb).2).told m hm).good a ha hn;have hs:(atV S a).Seq<=m.Seq:=hs;grind
theorem qpn{a b:Nat}(ha:P.G a)(haN:a<P.N)(hb:I.testBit b=true):say (atV S a)∈allM (atV S b):=by
 by_cases e:a=b;·subst e;simp[allM]
 .exact List.mem_append.2 (.inl (qml hS hO hC ha haN hb e))
omit hO hC in
theorem qw2{a:Nat}(haN:a<P.N):(say (atV S a)).Node.toNat=a:=by show(atV S a).Node.toNat=a;rw[(hS.all a haN).node,tN]
theorem quh{b:Nat}(hb:I.testBit b=true):q2s (viewV (atV S b)) I:=by
 have B:=hS.all b (hO.sub b hb).2;obtain⟨hr,_⟩:=q0n.1 B.valid;have key:∀k,I.testBit k=true->(decl (viewV (atV S b))).testBit k=true/\tr (viewV (atV S b)) k=(atV S k).Trust:=fun k hk=>by
  have hkN:=hO.sub k hk;by_cases e:k=b;·subst e;have:=qew hr.node (t:=(atV S k).Trust) (l:=(atV S k).Heard);rw[B.node,tN]at this;unfold viewV;rw[B.node];omega
  .have hm:=qml hS hO hC hkN.1 hkN.2 hb e;have:=qe4 hr.node hr.heard (t:=(atV S b).Trust) hm;rw[qw2 hS hkN.2]at this;exact this
 refine⟨nz.2 ⟨b,hb⟩,fun k hk=>(key k hk).1,fun k hk=>?_⟩;rw[(key k hk).2];exact hO.sat k _ hk ((hS.all k (hO.sub k hk).2).tru (hO.sub k hk).1)
theorem y99{y:Claim}(hy:∀k,I.testBit k=true->y∈(atV S k).Accepts){b:Nat}(hb:I.testBit b=true):y∈(atV S b).Confirms:=by have B:=hS.all b (hO.sub b hb).2;obtain⟨hr,_⟩:=q0n.1 B.valid;refine B.set.conf y (hy b hb) ?_;unfold confB;rw[B.node,tN];refine qhi _ (q4q hr.all y) (quh hS hO hC hb) (fun k hk=>?_) b hb;exact q4n.2 ⟨_,qpn hS hO hC (hO.sub k hk).1 (hO.sub k hk).2 hb,hy k hk,qw2 hS (hO.sub k hk).2⟩
include hN
theorem yeb(hA:AcI P I S)(hM:Meets P I){a b:Nat}(ha:I.testBit a=true)(hb:I.testBit b=true){y:Claim}(hy:y∈(atV S a).Confirms):y∈(atV S b).Confirms:=by have A:=hS.all a (hO.sub a ha).2;obtain⟨har,_⟩:=q0n.1 A.valid;have hya:=har.sub y hy;have hvy:vcl y=true:=har.avc y hya;obtain⟨U,u1,_,u3⟩:=A.conf (hO.sub a ha).1 y hy;obtain⟨X,x1,x2⟩:=y6j (fun k=>P.G k/\y∈(atV S k).Accepts) P.N;refine y99 hS hO hC (fun k0 hk0=>?_) hb;cases hd0:decide (y∈(atV S k0).Accepts)with|true=>simp_all|false=>
  exfalso;have key:∀k,I.testBit k=true->y∉(atV S k).Accepts->sat (ndiff 1023 X) (atV S k).Trust=true:=fun k hk hn=>by
   have K:=hS.all k (hO.sub k hk).2;obtain⟨hr,_⟩:=q0n.1 K.valid;have hka:a≠k:=fun e=>hn (by simp_all);have hkn:y∈known (atV S k):=q1b.2 ⟨hvy,List.mem_flatMap.2 ⟨say (atV S a),qpn hS hO hC (hO.sub a ha).1 (hO.sub a ha).2 hk,List.mem_append.2 (.inr hya)⟩⟩;have:=K.set.none y hkn;unfold canB at this;rw[decide_eq_false hn,decide_eq_true (fun z hz=>y1c hS hO hA hM ha hk hya hz)]at this;simp only[Bool.not_false,tA']at this;unfold accB at this;rw[Bool.or_eq_false_iff,K.node,tN]at this;have hown:=qew hr.node (t:=(atV S k).Trust) (l:=(atV S k).Heard);rw[K.node,tN]at hown;have hv:viewV (atV S k)=viewC (k:Int) (atV S k).Trust (atV S k).Heard:=by unfold viewV;rw[K.node]
   have hb:=this.1;unfold blk at hb;rw[hv,hown.1,hown.2,tA',Bool.not_eq_false']at hb;refine qdh (fun j hj=>?_) hb;rw[Nat.testBit_or,q08,Bool.or_eq_true,aT,Bool.not_eq_true',q95,dT']at hj;rw[q08,aT,Bool.not_eq_true'];rcases hj with⟨j1,j2⟩|e;·refine⟨j1,?_⟩;cases hx:X.testBit j with|false=>rfl|true=>obtain⟨q1,q2,q3⟩:=(x2 j).1 hx;have:=q4n.2 ⟨_,qpn hS hO hC q2 q1 hk,q3,qw2 hS q1⟩;simp_all
   .subst e;refine⟨?_,?_⟩;·have:=(hO.sub k hk).2;rw[show(1023:Nat)=2^10-1 from rfl,Nat.testBit_two_pow_sub_one];simp;omega
    grind
  have hout:∀k,I.testBit k=true->(ndiff 1023 X).testBit k=true->y∉(atV S k).Accepts:=fun k hk hk' h=>by rw[q08,aT,Bool.not_eq_true']at hk';rw[(x2 k).2 ⟨(hO.sub k hk).2,(hO.sub k hk).1,h⟩]at hk';simp_all
  have h0:=of_decide_eq_false hd0;have hQ:QuoI P I (ndiff 1023 X):=by
   refine⟨⟨k0,hk0,?_⟩,fun k hk hk'=>⟨_,(hS.all k (hO.sub k hk).2).tru (hO.sub k hk).1,key k hk (hout k hk hk')⟩⟩;rw[q08,aT,Bool.not_eq_true'];refine⟨?_,?_⟩;·have:=(hO.sub k0 hk0).2;rw[show(1023:Nat)=2^10-1 from rfl,Nat.testBit_two_pow_sub_one];simp;omega
   grind
  obtain⟨k,hk,hku,hkx⟩:=hM U _ ⟨⟨a,ha,u1⟩,fun k hk h=>(u3 k h (hO.sub k hk).1).2⟩ hQ;exact hout k hk hkx (u3 k hku (hO.sub k hk).1).1
end
def insB(t:Trust)(n:Nat):Bool:=decide (uses t<2^n)
def q83(n:Nat)(l:List Message):Bool:=l.all fun x=>decide (x.Node<(n:Int))&&insB x.Trust n
def q84(n:Nat):Nat->List Voter->Bool|_,[]=>true|k,v::r=>decide (v.Node=(k:Int))&&(q24 v&&(insB v.Trust n&&(q83 n v.Heard&&q84 n (k+1) r)))
abbrev q6i(m:Meeting):Prop:=1<=m.Voters.length/\m.Voters.length<=10/\(0<=m.Ill/\m.Ill<((2^m.Voters.length:Nat):Int))/\(0<=m.Stopped/\m.Stopped<((2^m.Voters.length:Nat):Int))/\m.Ill.toNat&&&m.Stopped.toNat=0
def q4f(m:Meeting):Bool:=decide (q6i m)&&q84 m.Voters.length 0 m.Voters
structure SmallMt(m:Meeting):Prop where
 len:m.Voters.length<1000000
 voters:∀v∈m.Voters,SmallV v
theorem shlN{n:Nat}(h:n<=10):shlI .i64 1 (n:Int)=((2^n:Nat):Int):=by rw[shl1 (by omega) (by omega),tN]
theorem q68{n:Nat}(h:n<=10):2^n<=1024:=Nat.pow_le_pow_right (by decide) h
theorem qer{t:Trust}(ht:Small t){n:Nat}(hn:n<=10):z3o t (n:Int)=some (insB t n):=by apply yfj;rw[q0g (by omega),qzi t ht,bS,shlN hn];unfold ltB insB;congr 1;grind
theorem y8y{m:Message}(hm:SmallM m){n:Nat}(hn:n<=10):z6v m (n:Int)=some (!(decide (m.Node<(n:Int))&&insB m.Trust n),(n:Int)):=by
 apply yh8;by_cases h:m.Node<(n:Int);·rw[show leB (n:Int) m.Node=false by unfold leB;simp;omega,cF,qer hm.tr hn];grind
 .rw[show leB (n:Int) m.Node=true by unfold leB;simp;omega,cT];grind
theorem qwu(l:List Message)(hl:l.length<1000000)(hm:∀m∈l,SmallM m){n:Nat}(hn:n<=10):∀(suf:List Message)(i:Nat),l.drop i=suf->∃r:Int,z02 l ((l.length:Nat):Int) (i:Int) (n:Int)=some (r,(n:Int))/\leB 0 r=!q83 n suf
 |[],i,h=>by refine⟨-1,y45 _ _ _ _ _ ?_,by rfl⟩;rw[q0d h];rfl|y::suf,i,h=>by
  have hlt:=q09 h;obtain⟨r,h1,h2⟩:=qwu l hl hm hn suf (i+1) (q01 h);have hf:=y8y (hm y (List.mem_of_mem_drop (i:=i) (by simp_all))) hn;by_cases hy:(decide (y.Node<(n:Int))&&insB y.Trust n)=true;·refine⟨r,y45 _ _ _ _ _ ?_,by rw[h2];simp[q83,hy]⟩;rw[q07 h,cT,q04 h,hf,bS,hy,q02 (by omega)];grind
  .refine⟨i,y45 _ _ _ _ _ ?_,by rw[Bool.not_eq_true]at hy;simp[q83,hy,leB]⟩;rw[Bool.not_eq_true]at hy;rw[q07 h,cT,q04 h,hf,bS,hy];rfl
theorem y89(l:List Message)(hl:l.length<1000000)(hm:∀m∈l,SmallM m){n:Nat}(hn:n<=10):z0f l (n:Int)=some (!q83 n l,(n:Int)):=by apply yfq;obtain⟨r,h1,h2⟩:=qwu l hl hm hn l 0 rfl;have h3:z0i l (n:Int)=_:=yfx _ _ _ h1;simp_all
theorem y2q{n:Nat}(hn:n<=10)(l:List Voter)(hl:l.length<1000000)(hv:∀v∈l,SmallV v)(a7:List Voter)(a9 a11:Int):∀(suf:List Voter)(i:Nat),l.drop i=suf->z2i l ((l.length:Nat):Int) (i:Int) a7 a9 a11 (n:Int)=some (q84 n i suf)
 |[],i,h=>by apply yac;rw[q0d h];rfl|y::suf,i,h=>by
  have hlt:=q09 h;have hy:=hv y (List.mem_of_mem_drop (i:=i) (by simp_all));have ih:=y2q hn l hl hv a7 a9 a11 suf (i+1) (q01 h);apply yac;rw[q07 h,cT,q04 h,qcs hy,bS,qer hy.tr hn,bS,y89 _ hy.heard hy.msgs hn,bS,q02 (by omega),ih,q84];by_cases e:y.Node=(i:Int);·rw[e,q0h];cases q24 y<;>cases insB y.Trust n<;>cases q83 n y.Heard<;>simp
  .rw[q0w e];grind
theorem q52{z:Int}{n:Nat}:leB ((2^n:Nat):Int) z=!decide (z<((2^n:Nat):Int)):=by unfold leB;grind
theorem qir{z:Int}:ltB z 0=!decide (0<=z):=by unfold ltB;grind
theorem qjv{m:Meeting}(h:SmallMt m):z6i m=some (q4f m):=by
 apply yhp;unfold q4f;by_cases h1:1<=m.Voters.length;case neg=>rw[q03 (by omega),cT,decide_eq_false (p:=q6i m) (fun g=>h1 g.1)];rfl
 rw[q00 (by omega),cF];by_cases h2:m.Voters.length<=10;case neg=>rw[q03 (by omega),cT,decide_eq_false (p:=q6i m) (fun g=>h2 g.2.1)];rfl
 have l1:z2i m.Voters ((m.Voters.length:Nat):Int) 0 m.Voters m.Stopped m.Ill ((m.Voters.length:Nat):Int)=_:=y2q h2 m.Voters h.len h.voters m.Voters m.Stopped m.Ill m.Voters 0 rfl;have hp:=q68 h2;rw[q00 (by omega),cF,q0g (by omega),q0g (by omega),shlN h2,q52,q52,qir,qir,l1];by_cases h3:0<=m.Ill;case neg=>grind
 by_cases h4:m.Ill<((2^m.Voters.length:Nat):Int);case neg=>grind
 by_cases h5:0<=m.Stopped;case neg=>grind
 by_cases h6:m.Stopped<((2^m.Voters.length:Nat):Int);case neg=>grind
 have ha:andI .i64 m.Ill m.Stopped=((m.Ill.toNat&&&m.Stopped.toNat:Nat):Int):=by have:=q3r (a:=m.Ill.toNat) (b:=m.Stopped.toNat) (by omega) (by omega);grind
 rw[ha,decide_eq_true h3,decide_eq_true h4,decide_eq_true h5,decide_eq_true h6];simp only[nT,cF];by_cases h7:m.Ill.toNat&&&m.Stopped.toNat=0;·rw[decide_eq_true (p:=q6i m) ⟨h1,h2,⟨h3,h4⟩,⟨h5,h6⟩,h7⟩,h7,show(((0:Nat):Nat):Int)=0 from rfl,q0h,cF];rfl
 .rw[q0w (by omega),cT,decide_eq_false (p:=q6i m) (fun g=>h7 g.2.2.2.2)];rfl
theorem qy0{n:Nat}(hn:n<=10)(l:List Message)(hl:l.length<1000000)(hm:∀m∈l,SmallM m){a2 a14:List Voter}{a4 a6 a16 a18 a20 a22 a24:Int}{a26:List Int}{a28:List Trust}{a30 a32 a34:List Claim}{a36:List Message}{R:Bool}(hR:z3e (n:Int) a2 a4 (addI .i64 a6 1) a14 a16 a18=some R):∀(suf:List Message)(i:Nat),l.drop i=suf->z49 (n:Int) a2 a4 a6 l ((l.length:Nat):Int) (i:Int) a14 a16 a18 a20 a22 a24 a26 a28 a30 a32 a34 a36=some (q83 n suf&&R)
 |[],i,h=>by apply yat;rw[q0d h,cF,hR];rfl|y::suf,i,h=>by
  have hlt:=q09 h;have hy:=hm y (List.mem_of_mem_drop (i:=i) (by simp_all));apply yat;rw[q07 h,cT,q04 h,q0g (by omega),q9s _ hy.tr,bS,shlN hn,q52,q02 (by omega),qy0 hn l hl hm hR suf (i+1) (q01 h)];have e1:leB (n:Int) y.Node=!decide (y.Node<(n:Int)):=by unfold leB;grind
  have e2:decide (((uses y.Trust:Nat):Int)<((2^n:Nat):Int))=insB y.Trust n:=by unfold insB;grind
  rw[e1,e2];simp only[q83,List.all_cons];cases decide (y.Node<(n:Int))<;>cases insB y.Trust n<;>simp
theorem y23{n:Nat}(hn:n<=10)(l:List Voter)(hl:l.length<1000000)(hv:∀v∈l,SmallV v)(a8:List Voter)(a10 a12:Int):∀(suf:List Voter)(i:Nat),l.drop i=suf->z3e (n:Int) l ((l.length:Nat):Int) (i:Int) a8 a10 a12=some (q84 n i suf)
 |[],i,h=>by apply ybq;rw[q0d h];rfl|y::suf,i,h=>by
  have hlt:=q09 h;have hy:=hv y (List.mem_of_mem_drop (i:=i) (by simp_all));have ih:=y23 hn l hl hv a8 a10 a12 suf (i+1) (q01 h);have hd:=hy.heard;have l2:z49 (n:Int) l ((l.length:Nat):Int) (i:Int) y.Heard ((y.Heard.length:Nat):Int) 0 a8 a10 a12 y.Node y.Seq y.Trust.Threshold y.Trust.Nodes y.Trust.Inner y.Votes y.Accepts y.Confirms y.Heard=_:=qy0 hn y.Heard hd hy.msgs (by rw[q02 (by omega)];omega) y.Heard 0 rfl;have e2:decide (((uses y.Trust:Nat):Int)<((2^n:Nat):Int))=insB y.Trust n:=by unfold insB;grind
  apply ybq;rw[q07 h,cT,q04 h,qc8 hy,bS,q0g (by omega),q9s _ hy.tr,bS,shlN hn,q52,e2,l2,q84];by_cases e:y.Node=(i:Int);·rw[e,q0h];cases q24 y<;>cases insB y.Trust n<;>simp
  .rw[q0w e];cases q24 y<;>simp[e]
theorem qvb{m:Meeting}(h:SmallMt m):z88 m=some (q4f m):=by
 apply yhj;unfold q4f;by_cases h1:1<=m.Voters.length;case neg=>rw[q03 (by omega),cT,decide_eq_false (p:=q6i m) (fun g=>h1 g.1)];rfl
 rw[q00 (by omega),cF];by_cases h2:m.Voters.length<=10;case neg=>rw[q03 (by omega),cT,decide_eq_false (p:=q6i m) (fun g=>h2 g.2.1)];rfl
 have l1:z3e ((m.Voters.length:Nat):Int) m.Voters ((m.Voters.length:Nat):Int) 0 m.Voters m.Stopped m.Ill=_:=y23 h2 m.Voters h.len h.voters m.Voters m.Stopped m.Ill m.Voters 0 rfl;have hp:=q68 h2;rw[q00 (by omega),cF,q0g (by omega),q0g (by omega),shlN h2,q52,q52,qir,qir,l1];by_cases h3:0<=m.Ill;case neg=>grind
 by_cases h4:m.Ill<((2^m.Voters.length:Nat):Int);case neg=>grind
 by_cases h5:0<=m.Stopped;case neg=>grind
 by_cases h6:m.Stopped<((2^m.Voters.length:Nat):Int);case neg=>grind
 have ha:andI .i64 m.Ill m.Stopped=((m.Ill.toNat&&&m.Stopped.toNat:Nat):Int):=by have:=q3r (a:=m.Ill.toNat) (b:=m.Stopped.toNat) (by omega) (by omega);grind
 rw[ha,decide_eq_true h3,decide_eq_true h4,decide_eq_true h5,decide_eq_true h6];simp only[nT,cF];by_cases h7:m.Ill.toNat&&&m.Stopped.toNat=0;·rw[decide_eq_true (p:=q6i m) ⟨h1,h2,⟨h3,h4⟩,⟨h5,h6⟩,h7⟩,h7,show(((0:Nat):Nat):Int)=0 from rfl,q0h,cF];rfl
 .rw[q0w (by omega),cT,decide_eq_false (p:=q6i m) (fun g=>h7 g.2.2.2.2)];rfl
def pairK(k:Int):Bool:=decide (k=2\/k=5)
def mGone(m:Meeting)(p:Play):Bool:=if pairK p.Kind=true then has (m.Ill.toNat|||m.Stopped.toNat) p.To else has m.Stopped.toNat p.From
def mAsk(m:Meeting)(p:Play):Int:=if q4f m=false\/p.Kind<1\/5<p.Kind\/p.From<0\/(m.Voters.length:Int)<=p.From then 1 else if pairK p.Kind=true/\(p.To<0\/(m.Voters.length:Int)<=p.To\/p.To=p.From)then 1 else if has m.Ill.toNat p.From≠decide (p.Kind=5)then 13 else if mGone m p=true then 13 else 0
noncomputable def mChg(m:Meeting)(p:Play):Int×Voter×Int:=if p.Kind=1 then(p.From,(voteV (atV m.Voters p.From.toNat) p.Claim).1,(voteV (atV m.Voters p.From.toNat) p.Claim).2)else if p.Kind=2 then(p.To,(hearV (atV m.Voters p.To.toNat) (say (atV m.Voters p.From.toNat))).1,(hearV (atV m.Voters p.To.toNat) (say (atV m.Voters p.From.toNat))).2)else if p.Kind=3 then if verr p.Trust≠0 then(0,atV m.Voters p.From.toNat,verr p.Trust)else if insB p.Trust m.Voters.length=false then(0,atV m.Voters p.From.toNat,5)else(p.From,(declV (atV m.Voters p.From.toNat) p.Trust).1,(declV (atV m.Voters p.From.toNat) p.Trust).2)else if p.Kind=5 then if p.Message.Node≠p.From then(0,atV m.Voters p.From.toNat,8)else if msgB p.Message=false then(0,atV m.Voters p.From.toNat,1)else if insB p.Message.Trust m.Voters.length=false then(0,atV m.Voters p.From.toNat,5)else(p.To,(hearV (atV m.Voters p.To.toNat) p.Message).1,(hearV (atV m.Voters p.To.toNat) p.Message).2)else(p.From,atV m.Voters p.From.toNat,0)
def ql0:Meeting:=⟨[],0,0⟩
noncomputable def stepM(m:Meeting)(p:Play):Meeting×Int:=if mAsk m p≠0 then(ql0,mAsk m p)else if(mChg m p).2.2≠0 then(ql0,(mChg m p).2.2)else(⟨m.Voters.set (mChg m p).1.toNat (mChg m p).2.1,if p.Kind=4 then((m.Stopped.toNat|||2^p.From.toNat:Nat):Int)else m.Stopped,m.Ill⟩,0)
structure SmallP(p:Play):Prop where
 tr:Small p.Trust
 msg:SmallM p.Message
theorem yek(k:Int):z3i k=some (pairK k):=by
 apply yff;unfold pairK;by_cases h:k=2;·subst h;rfl
 .rw[q0i h,cF];simp[eqB,h]
theorem q2i{m:Meeting}:q4f m=true↔(1<=m.Voters.length/\m.Voters.length<=10/\(0<=m.Ill/\m.Ill<((2^m.Voters.length:Nat):Int))/\(0<=m.Stopped/\m.Stopped<((2^m.Voters.length:Nat):Int))/\m.Ill.toNat&&&m.Stopped.toNat=0)/\q84 m.Voters.length 0 m.Voters=true:=by unfold q4f;simp
theorem q1k{n:Nat}:∀{l:List Voter}{k:Nat},q84 n k l=true↔∀i,i<l.length->(atV l i).Node=((k+i:Nat):Int)/\q24 (atV l i)=true/\uses (atV l i).Trust<2^n/\∀x∈(atV l i).Heard,x.Node<(n:Int)/\uses x.Trust<2^n
 |[],k=>by simp[q84]|v::r,k=>by
  have ih:=q1k (n:=n) (l:=r) (k:=k+1);have hh:q83 n v.Heard=true↔∀x∈v.Heard,x.Node<(n:Int)/\uses x.Trust<2^n:=by unfold q83 insB;simp
  rw[q84,aT,aT,aT,aT,ih,hh,dT',insB,dT'];constructor;·rintro⟨h1,h2,h3,h4,h5⟩i hi;cases i with|zero=>exact⟨h1,h2,h3,h4⟩|succ i=>have:=h5 i (by simp_all);rw[show k+(i+1)=k+1+i by omega];exact this
  .intro h;obtain⟨h1,h2,h3,h4⟩:=h 0 (by simp);refine⟨h1,h2,h3,h4,fun i hi=>?_⟩;have:=h (i+1) (by simp_all);rw[show k+1+i=k+(i+1)by omega];exact this
theorem ydb{m:Meeting}(h:SmallMt m)(p:Play):z7l m p=some (mAsk m p):=by apply yfk;rw[qjv h,bS];unfold mAsk;cases hv:q4f m with|false=>rfl|true=>
  obtain⟨⟨_,h2,⟨h3,h4⟩,⟨h5,h6⟩,_⟩,_⟩:=q2i.1 hv;have hp:=q68 h2;simp only[nT,cF,Bool.true_eq_false,false_or];by_cases k1:p.Kind<1;·rw[q03 k1,if_pos (.inl k1)];rfl
  by_cases k2:5<p.Kind;·rw[q00 (by omega),q03 k2,if_pos (.inr (.inl k2))];rfl
  by_cases k3:p.From<0;·rw[q00 (by omega),q00 (by omega),q03 k3,if_pos (.inr (.inr (.inl k3)))];rfl
  by_cases k4:(m.Voters.length:Int)<=p.From;·rw[q00 (by omega),q00 (by omega),q00 (by omega),show leB ((m.Voters.length:Nat):Int) p.From=true by unfold leB;simp_all,if_pos (.inr (.inr (.inr k4)))];rfl
  rw[q00 (by omega),q00 (by omega),q00 (by omega),show leB ((m.Voters.length:Nat):Int) p.From=false by unfold leB;simp_all,if_neg (by omega),yek,bS];have e1:z0r m.Ill p.From=some (has m.Ill.toNat p.From):=by have:=q1n (s:=m.Ill.toNat) (by omega) p.From;grind
  have e2:z0r m.Stopped p.From=some (has m.Stopped.toNat p.From):=by have:=q1n (s:=m.Stopped.toNat) (by omega) p.From;grind
  have e3:z0r (orI .i64 m.Ill m.Stopped) p.To=some (has (m.Ill.toNat|||m.Stopped.toNat) p.To):=by have ho:=q2y (a:=m.Ill.toNat) (b:=m.Stopped.toNat) (by omega) (by omega);rw[Int.toNat_of_nonneg h3,Int.toNat_of_nonneg h5]at ho;rw[ho];exact q1n (Nat.or_lt_two_pow (n:=10) (by omega) (by omega)) p.To
  have e4:eqB p.Kind 5=decide (p.Kind=5):=rfl;rw[e1,e2,e3,e4];unfold mGone;simp only[bS,cF];cases hk:pairK p.Kind with|true=>
   simp only[cT,true_and,if_true];by_cases t1:p.To<0;·rw[q03 t1,if_pos (.inl t1)];rfl
   by_cases t2:(m.Voters.length:Int)<=p.To;·rw[q00 (by omega),show leB ((m.Voters.length:Nat):Int) p.To=true by unfold leB;simp;omega,if_pos (.inr (.inl t2))];rfl
   by_cases t3:p.To=p.From;·rw[q00 (by omega),show leB ((m.Voters.length:Nat):Int) p.To=false by unfold leB;simp;omega,t3,q0f,if_pos (.inr (.inr rfl))];rfl
   rw[q00 (by omega),show leB ((m.Voters.length:Nat):Int) p.To=false by unfold leB;simp;omega,q0i t3,if_neg (by omega)];grind|false=>grind
theorem q3h{m:Meeting}{p:Play}(h:mAsk m p=0):q4f m=true/\1<=p.Kind/\p.Kind<=5/\0<=p.From/\p.From<(m.Voters.length:Int)/\(pairK p.Kind=true->0<=p.To/\p.To<(m.Voters.length:Int)/\p.To≠p.From/\has (m.Ill.toNat|||m.Stopped.toNat) p.To=false)/\has m.Ill.toNat p.From=decide (p.Kind=5)/\(pairK p.Kind=false->has m.Stopped.toNat p.From=false):=by
 unfold mAsk at h;split at h;·cases h
 .rename_i h1;split at h;·cases h
  .rename_i h2;split at h;·cases h
   .rename_i h3;split at h;·cases h
    .rename_i h4;have hv:q4f m=true:=by simp_all
     refine⟨hv,by omega,by omega,by omega,by omega,fun hk=>?_,by simp_all,fun hk=>?_⟩;·unfold mGone at h4;simp_all
     .unfold mGone at h4;simp_all
theorem yds{m:Meeting}(h:SmallMt m){p:Play}(hp:SmallP p)(ha:mAsk m p=0):z6s m p=some (mChg m p):=by
 obtain⟨hv,k1,k2,f1,f2,ht,_,_⟩:=q3h ha;obtain⟨⟨_,h2,_⟩,hvs⟩:=q2i.1 hv;have gf:m.Voters[p.From.toNat]?=some (atV m.Voters p.From.toNat):=q2b (by omega);have vf:=q1k.1 hvs p.From.toNat (by omega);have sf:=h.voters _ (List.mem_of_getElem? gf);have rf:=(q0n.1 vf.2.1).1;apply yg2;rw[q0j f1 gf];unfold mChg;by_cases e1:p.Kind=1;·rw[if_pos e1,e1,q0f,cT,y3f sf,bS,q0x]
 rw[if_neg e1,q0i e1,cF];by_cases e2:p.Kind=2;·have ht:=ht (by rw[e2];rfl);have gt:m.Voters[p.To.toNat]?=some (atV m.Voters p.To.toNat):=q2b (by omega);have st:=h.voters _ (List.mem_of_getElem? gt);rw[if_pos e2,e2,q0f,cT,q0j ht.1 gt,y8r (q3l rf.tr).1 sf.votes sf.accs,bS,qq4 st (q13 rf.say),bS,q0x]
 rw[if_neg e2,q0i e2,cF];by_cases e3:p.Kind=3
 .rw[if_pos e3,e3,q0f,cT,q9b _ hp.tr,bS,q0x];by_cases z:verr p.Trust=0;·rw[z,q0h,cF,if_neg (by simp),qer hp.tr h2,bS,y5d sf hp.tr,bS,q0x];cases insB p.Trust m.Voters.length<;>simp
  .rw[q0w z,cT,if_pos z]
 rw[if_neg e3,q0i e3,cF];by_cases e5:p.Kind=5
 .have ht:=ht (by rw[e5];rfl);have gt:m.Voters[p.To.toNat]?=some (atV m.Voters p.To.toNat):=q2b (by omega);have st:=h.voters _ (List.mem_of_getElem? gt);rw[if_pos e5,e5,q0f,cT,q0j ht.1 gt,qdc hp.msg,bS,q0x,qer hp.msg.tr h2,bS,qq4 st hp.msg,bS,q0x];by_cases z:p.Message.Node=p.From;·rw[z,q0h,cF,if_neg (by simp)];cases msgB p.Message<;>cases insB p.Message.Trust m.Voters.length<;>simp
  .rw[q0w z,cT,if_pos z]
 rw[if_neg e5,q0i e5,cF,q0x]
theorem y2y{m:Meeting}{p:Play}(ha:mAsk m p=0)(h0:(mChg m p).2.2=0):(mChg m p).1=(if pairK p.Kind=true then p.To else p.From):=by
 obtain⟨hv,k1,k2,f1,f2,ht,_,_⟩:=q3h ha;unfold mChg at h0⊢;by_cases e1:p.Kind=1;·rw[if_pos e1,e1];rfl
 rw[if_neg e1]at h0⊢;by_cases e2:p.Kind=2;·rw[if_pos e2,e2];rfl
 rw[if_neg e2]at h0⊢;by_cases e3:p.Kind=3
 .rw[if_pos e3]at h0⊢;by_cases z:verr p.Trust=0
  .rw[if_neg (by simpa using z)]at h0⊢;by_cases y:insB p.Trust m.Voters.length=false;·rw[if_pos y]at h0;cases h0
   .rw[if_neg y,e3];rfl
  .rw[if_pos z]at h0;exact absurd h0 z
 rw[if_neg e3]at h0⊢;by_cases e5:p.Kind=5
 .rw[if_pos e5]at h0⊢;by_cases z:p.Message.Node=p.From
  .rw[if_neg (by simpa using z)]at h0⊢;by_cases y:msgB p.Message=false;·rw[if_pos y]at h0;cases h0
   .rw[if_neg y]at h0⊢;by_cases x:insB p.Message.Trust m.Voters.length=false;·rw[if_pos x]at h0;cases h0
    .rw[if_neg x,e5];rfl
  .rw[if_pos z]at h0;cases h0
 rw[if_neg e5];have:pairK p.Kind=false:=by unfold pairK;simp[e2,e5]
 simp_all
theorem y06(l:List Voter)(hl:l.length<1000000):z2v l=some ((),l):=yfn _ _ (by rw[q05 (by simp[q06];omega)];rfl)
theorem qz8{m:Meeting}(h:SmallMt m){p:Play}(hp:SmallP p):z60 m p=some (stepM m p):=by
 apply yiy;rw[ydb h,bS,stepM];by_cases ha:mAsk m p=0;case neg=>rw[q0w ha,cT,if_pos ha];rfl
 rw[ha,q0h,cF,if_neg (by simp),yds h hp ha,bS];by_cases h0:(mChg m p).2.2=0;case neg=>rw[q0w h0,cT,if_pos h0];rfl
 obtain⟨hv,k1,k2,f1,f2,ht,_,_⟩:=q3h ha;obtain⟨⟨_,h2,_,⟨h5,h6⟩,_⟩,_⟩:=q2i.1 hv;have hpw:=q68 h2;have hat:=y2y ha h0;have hx:0<=(mChg m p).1/\(mChg m p).1<(m.Voters.length:Int):=by grind
 have gx:m.Voters[(mChg m p).1.toNat]?=some (atV m.Voters (mChg m p).1.toNat):=q2b (by omega);rw[h0,q0h,cF,if_neg (by simp),y06 _ h.len,bS];dsimp only;rw[q0j hx.1 gx];simp only[nthN,gx,q0x];by_cases e4:p.Kind=4
 .have hf:p.From=((p.From.toNat:Nat):Int):=by omega
  rw[if_pos e4,e4,q0f,cT,q0g f1];have hs:shlI .i64 1 p.From=((2^p.From.toNat:Nat):Int):=by rw[shl1 (by omega) (by omega)]
  have hpf:2^p.From.toNat<=2^10:=Nat.pow_le_pow_right (by decide) (by omega);have ho:orI .i64 m.Stopped ((2^p.From.toNat:Nat):Int)=((m.Stopped.toNat|||2^p.From.toNat:Nat):Int):=by have:=q2y (a:=m.Stopped.toNat) (b:=2^p.From.toNat) (by omega) (by omega);rw[Int.toNat_of_nonneg h5]at this;exact this
  grind
 .rw[if_neg e4,q0i e4,cF]
theorem qrg:∀t:Trust,Fits t->z5e t=some t:=by
 apply Trust.ind;intro t ih ht;have hsz:size t<1073741824:=ht;rw[q3m]at hsz;have l1:∀(suf:List Trust)(i:Nat)(acc:List Trust)(a8:Int)(a10:List Int)(a12:List Trust)(a14:Int)(a16:List Int)(a18:List Trust)(a20:Int)(a22:List Int),t.Inner.drop i=suf->acc.length<=i->z3m t.Inner ((t.Inner.length:Nat):Int) (i:Int) a8 a10 a12 a14 a16 a18 a20 a22 acc=some ⟨a20,a22,acc++suf⟩:=by intro suf;induction suf with|nil=>intro i acc a8 a10 a12 a14 a16 a18 a20 a22 h ha;apply yc6;simp only[q0d h,cF,List.append_nil]|cons y suf ihs=>intro i acc a8 a10 a12 a14 a16 a18 a20 a22 h ha;have hlt:=q09 h;have hy:y∈t.Inner:=List.mem_of_mem_drop (by rw[h];exact List.mem_cons_self);apply yc6;simp only[q07 h,cT,q04 h,ih y hy (ht.mem hy),bS,q02 (show i<4611686018427387904 by omega),Trust.etaM];rw[q05 (by simp[q06];omega),ihs (i+1) (acc++[y]) _ _ _ _ _ _ _ _ (q01 h) (by simp;omega)];simp
 apply ykq;have h1:z14 t.Nodes=some ((),t.Nodes):=ycd _ _ (by rw[q05 (by simp[q06];omega)];rfl);rw[h1,bS,show(0:Int)=((0:Nat):Int)from rfl,l1 t.Inner 0 [] _ _ _ _ _ _ _ _ rfl (Nat.le_refl _)];simp
theorem qvk{m:Message}(ht:Fits m.Trust)(h1:m.Votes.length<1000000)(h2:m.Accepts.length<1000000):z32 m=some m:=by apply ygn;rw[qrg _ ht,bS,q3x _ h1,bS,q3x _ h2,bS,Trust.etaM]
theorem qs1(l:List Message)(hl:l.length<1000000)(hm:∀m∈l,z32 m=some m){a3 a15 a21:List Voter}{a5 a7 a17 a19 a23 a25:Int}(ha:a15.length<1000000){n s t:Int}{ns:List Int}{is:List Trust}{va aa ca:List Claim}{R:Meeting}:∀(suf:List Message)(i:Nat)(acc:List Message),l.drop i=suf->acc.length<=i->z2j a3 a5 (addI .i64 a7 1) (a15++[Voter.mk n s ⟨t,ns,is⟩ va aa ca (acc++suf)]) a17 a19 a21 a23 a25=some R->z3l a3 a5 a7 l ((l.length:Nat):Int) (i:Int) a15 a17 a19 a21 a23 a25 n s t ns is va aa ca acc=some R|[],i,acc,h,hac,hR=>by apply yc7;rw[q0d h,cF,q05 (by simp[q06];omega)];simp_all|m::suf,i,acc,h,hac,hR=>by have hlt:=q09 h;apply yc7;rw[q07 h,cT,q04 h,hm m (List.mem_of_mem_drop (i:=i) (by simp_all)),bS,q8y,q05 (by simp[q06];omega),q02 (by omega)];exact qs1 l hl hm ha suf (i+1) (acc++[m]) (q01 h) (by simp_all) (by simp_all)
structure FreshA(v:Voter):Prop where
 tr:Fits v.Trust
 votes:v.Votes.length<1000000
 accs:v.Accepts.length<1000000
 confs:v.Confirms.length<1000000
 heard:v.Heard.length<1000000
 msgs:∀m∈v.Heard,z32 m=some m
theorem qs9(l:List Voter)(hl:l.length<1000000)(hf:∀v∈l,FreshA v)(a10 a12 a16 a18:Int)(a14:List Voter):∀(suf:List Voter)(i:Nat)(acc:List Voter),l.drop i=suf->acc.length<=i->z2j l ((l.length:Nat):Int) (i:Int) acc a10 a12 a14 a16 a18=some ⟨acc++suf,a10,a12⟩
 |[],i,acc,h,ha=>by apply ycj;rw[q0d h,cF,List.append_nil]|y::suf,i,acc,h,ha=>by
  have hlt:=q09 h;have hy:=hf y (List.mem_of_mem_drop (i:=i) (by simp_all));apply ycj;rw[q07 h,cT,q04 h,qrg _ hy.tr,bS,q3x _ hy.votes,bS,q3x _ hy.accs,bS,q3x _ hy.confs,bS];dsimp only;refine qs1 y.Heard hy.heard hy.msgs (by omega) y.Heard 0 [] rfl (Nat.le_refl _) ?_;have hv:Voter.mk y.Node y.Seq ⟨y.Trust.Threshold,y.Trust.Nodes,y.Trust.Inner⟩ y.Votes y.Accepts y.Confirms ([]++y.Heard)=y:=by simp
  rw[hv,q02 (by omega),qs9 l hl hf a10 a12 a16 a18 a14 suf (i+1) (acc++[y]) (q01 h) (by simp_all)];simp
theorem y2g{m:Meeting}(h:m.Voters.length<1000000)(hf:∀v∈m.Voters,FreshA v):z5b m=some m:=by apply yfh;have:=qs9 m.Voters h hf m.Stopped m.Ill 0 0 [] m.Voters 0 [] rfl (Nat.le_refl _);exact this
theorem y5u{m:Message}(h:msgB m=true):z32 m=some m:=qvk (q3l (q2a.1 h).2.2.1).1 (q13 h).votes (q13 h).accs
theorem Ready.freshA{v:Voter}(h:Ready v):FreshA v:=⟨(q3l h.tr).1,by have:=h.vlen;omega,by have:=h.alen;omega,by have:=h.clen;omega,by have:=h.hlen;omega,fun m hm=>y5u (h.msg m hm).1⟩
theorem qiw{S:List Voter}{b:Nat}(h:b<S.length):S.set b (atV S b)=S:=by
 apply List.ext_getElem?;intro i;rw[List.getElem?_set];by_cases e:b=i;·subst e;have:=q2b h;rw[if_pos rfl,if_pos h,this]
 simp_all
def Move(m:Meeting)(p:Play)(v u:Voter):Prop:=(p.Kind=1/\vcl p.Claim=true/\(∀y∈v.Votes++v.Accepts,¬Contra p.Claim y)/\u={v with Votes:=q0o (v.Votes++[p.Claim])})\/(p.Kind=2/\oldB v.Heard (say (atV m.Voters p.From.toNat))=false/\u={v with Heard:=hearL (say (atV m.Voters p.From.toNat)) v.Heard})\/(p.Kind=3/\valid p.Trust=true/\uses p.Trust<2^m.Voters.length/\u={v with Trust:=p.Trust})\/(p.Kind=5/\msgB p.Message=true/\p.Message.Node=p.From/\uses p.Message.Trust<2^m.Voters.length/\oldB v.Heard p.Message=false/\u={v with Heard:=hearL p.Message v.Heard})
def whoP(p:Play):Nat:=(if pairK p.Kind=true then p.To else p.From).toNat
noncomputable def stopP(m:Meeting)(p:Play):Int:=if p.Kind=4 then((m.Stopped.toNat|||2^p.From.toNat:Nat):Int)else m.Stopped
theorem qby{m:Meeting}{p:Play}(h:(stepM m p).2=0):mAsk m p=0/\∃w,(stepM m p).1=⟨m.Voters.set (whoP p) w,stopP m p,m.Ill⟩/\(w=atV m.Voters (whoP p)/\(p.Kind=1->p.Claim∈w.Votes)/\p.Kind≠2/\p.Kind≠5\/∃u,Move m p (atV m.Voters (whoP p)) u/\w=turnV (atV m.Voters (whoP p)) u):=by
 unfold stepM at h⊢;by_cases ha:mAsk m p=0;case neg=>rw[if_pos ha]at h;exact absurd h ha
 rw[if_neg (by simpa using ha)]at h⊢;by_cases h0:(mChg m p).2.2=0;case neg=>rw[if_pos h0]at h;exact absurd h h0
 rw[if_neg (by simpa using h0)];have hat:=y2y ha h0;refine⟨ha,(mChg m p).2.1,by rw[whoP,<-hat];rfl,?_⟩;obtain⟨hv,k1,k2,f1,f2,ht,_,_⟩:=q3h ha;obtain⟨_,hvs⟩:=q2i.1 hv;unfold whoP;unfold mChg at h0⊢;by_cases e1:p.Kind=1
 .have hk:pairK p.Kind=false:=by rw[e1];rfl
  rw[if_pos e1]at h0⊢;dsimp only at h0⊢;rw[hk,if_neg (by simp)];unfold voteV at h0⊢;split at h0;·cases h0
  .rename_i g1;split at h0;·cases h0
   .rename_i g2;rw[if_neg g1,if_neg g2];split;·rename_i g3;exact .inl ⟨rfl,fun _=>g3,by omega,by omega⟩
    .refine .inr ⟨_,.inl ⟨e1,?_,fun y hy hc=>g2 ⟨y,hy,hc⟩,rfl⟩,rfl⟩;cases hx:vcl p.Claim with|true=>rfl|false=>exact absurd (.inr hx) g1
 rw[if_neg e1]at h0⊢;by_cases e2:p.Kind=2
 .have hk:pairK p.Kind=true:=by rw[e2];rfl
  rw[if_pos e2]at h0⊢;dsimp only at h0⊢;rw[hk,if_pos rfl];obtain⟨g1,g2,g3⟩:=qlk h0;have vt:=q1k.1 hvs p.To.toNat (by have:=ht hk;omega);rw[qdz vt.2.1 g1 g2 g3];exact .inr ⟨_,.inr (.inl ⟨e2,g3,rfl⟩),rfl⟩
 rw[if_neg e2]at h0⊢;by_cases e3:p.Kind=3
 .have hk:pairK p.Kind=false:=by rw[e3];rfl
  rw[if_pos e3]at h0⊢;by_cases z:verr p.Trust=0;case neg=>rw[if_pos z]at h0;exact absurd h0 z
  rw[if_neg (by simpa using z)]at h0⊢;by_cases y:insB p.Trust m.Voters.length=false;case pos=>rw[if_pos y]at h0;cases h0
  rw[if_neg y]at h0⊢;dsimp only at h0⊢;rw[hk,if_neg (by simp)];have vf:=q1k.1 hvs p.From.toNat (by omega);have y':uses p.Trust<2^m.Voters.length:=by unfold insB at y;simpa using y
  unfold declV;rw[if_neg (by rw[vf.2.1];simp),if_neg (by simpa using z)];split;·exact .inl ⟨rfl,fun e=>absurd e e1,e2,by omega⟩
  .exact .inr ⟨_,.inr (.inr (.inl ⟨e3,(q3k _).1 z,y',rfl⟩)),rfl⟩
 rw[if_neg e3]at h0⊢;by_cases e5:p.Kind=5
 .have hk:pairK p.Kind=true:=by rw[e5];rfl
  rw[if_pos e5]at h0⊢;by_cases z:p.Message.Node=p.From;case neg=>rw[if_pos z]at h0;cases h0
  rw[if_neg (by simpa using z)]at h0⊢;by_cases y:msgB p.Message=false;case pos=>rw[if_pos y]at h0;cases h0
  rw[if_neg y]at h0⊢;by_cases x:insB p.Message.Trust m.Voters.length=false;case pos=>rw[if_pos x]at h0;cases h0
  rw[if_neg x]at h0⊢;dsimp only at h0⊢;rw[hk,if_pos rfl];obtain⟨g1,g2,g3⟩:=qlk h0;have vt:=q1k.1 hvs p.To.toNat (by have:=ht hk;omega);have x':uses p.Message.Trust<2^m.Voters.length:=by unfold insB at x;simpa using x
  rw[qdz vt.2.1 g1 g2 g3];exact .inr ⟨_,.inr (.inr (.inr ⟨e5,g1,z,x',g3,rfl⟩)),rfl⟩
 rw[if_neg e5];have hk:pairK p.Kind=false:=by unfold pairK;simp[e2,e5]
 simp_all
structure PlayOk(P:Lay)(p:Play):Prop where
 vote:p.Kind=1->P.Cl p.Claim
 decl:p.Kind=3->P.T p.From.toNat p.Trust
 lie:p.Kind=5->∀y,y∈p.Message.Votes\/y∈p.Message.Accepts->P.Cl y
theorem qys{P:Lay}{q:Nat}{S:List Voter}(hS:MtI P q S){a:Nat}(ha:a<P.N):Told P S (say (atV S a)):=by
 have A:=hS.all a ha;have hn:(say (atV S a)).Node=(a:Int):=A.node;refine⟨by omega,A.ins,A.cl,fun b hb he=>?_⟩;have:a=b:=by omega
 subst this;exact⟨A.tru hb,fun _ h=>h,fun _ h=>h,Int.le_refl _,fun _=>rfl⟩
theorem qud{P:Lay}{q:Nat}{S:List Voter}(hS:MtI P q S){b:Nat}(hb:b<P.N){m:Message}(hm:msgB m=true)(hne:m.Node≠(b:Int))(ht:Told P S m):Up P S b {atV S b with Heard:=hearL m (atV S b).Heard}:=by
 have B:=hS.all b hb;obtain⟨hr,hc⟩:=q0n.1 B.valid;refine⟨hr.withH hm (by rw[B.node];omega),hc,B.node,rfl,fun _ h=>h,rfl,rfl,B.tru,B.ins,fun y hy=>B.cl y (.inl hy),fun x hx=>?_⟩;rcases qkz hx with e|e;·simp_all
 .exact B.told x e
theorem ydk{P:Lay}{q:Nat}{m:Meeting}(hS:MtI P q m.Voters){p:Play}(hp:PlayOk P p)(hG:∀a:Nat,P.G a->has m.Ill.toNat (a:Int)=false)(ha:mAsk m p=0){u:Voter}(hu:Move m p (atV m.Voters (whoP p)) u):Up P m.Voters (whoP p) u/\whoP p<P.N:=by
 obtain⟨hv,k1,k2,f1,f2,ht,hi,hg⟩:=q3h ha;have hl:=hS.len;have hwN:whoP p<P.N:=by unfold whoP;grind
 refine⟨?_,hwN⟩;have B:=hS.all _ hwN;obtain⟨hr,hc⟩:=q0n.1 B.valid;rcases hu with⟨e,x1,x2,rfl⟩|⟨e,x1,rfl⟩|⟨e,x1,x2,rfl⟩|⟨e,x1,x2,x3,x4,rfl⟩
 .have hmp:=fun y=>qec (y:=y) (q0y.1 hr.votes).1 x1;refine⟨hr.withV p.Claim,?_,B.node,rfl,fun y hy=>(hmp y).2 (.inl hy),rfl,rfl,B.tru,B.ins,fun y hy=>?_,B.told⟩
  .have:consC ((atV m.Voters (whoP p)).Votes++[p.Claim])=true:=by rw[qcf hc,dT'];exact fun y hy hcc=>x2 y (by simp[hy]) hcc
   rw[q4g]at this⊢;simp_all
  .rcases(hmp y).1 hy with g|g;·exact B.cl y (.inl g)
   .rw[g];exact hp.vote e
 .have hk:pairK p.Kind=true:=by rw[e];rfl
  have h1:=ht hk;have hw:whoP p=p.To.toNat:=by unfold whoP;simp_all
  have A:=hS.all p.From.toNat (by omega);exact qud hS hwN (q0n.1 A.valid).1.say (by show(atV m.Voters p.From.toNat).Node≠_;rw[A.node];omega) (qys hS (by omega))
 .have hk:pairK p.Kind=false:=by rw[e];rfl
  have hw:whoP p=p.From.toNat:=by unfold whoP;simp_all
  exact⟨hr.withT x1,hc,B.node,rfl,fun _ h=>h,rfl,rfl,fun _=>by rw[hw];exact hp.decl e,by simp_all,fun y hy=>B.cl y (.inl hy),B.told⟩
 .have hk:pairK p.Kind=true:=by rw[e];rfl
  have h1:=ht hk;have hw:whoP p=p.To.toNat:=by unfold whoP;rw[hk];rfl
  refine qud hS hwN x1 (by omega) ⟨by rw[x2];omega,by rw[<-hl];exact x3,hp.lie e,fun a ha he=>?_⟩;grind
theorem mt_up{P:Lay}{q:Nat}{S:List Voter}(hS:MtI P q S):MtI P (q+1) S:=⟨hS.len,fun b hb=>by have B:=hS.all b hb;have:=B.seq;exact⟨B.valid,B.node,B.tru,B.ins,by omega,B.cl,B.set,B.told,B.conf⟩⟩
theorem quq{P:Lay}(hN:P.N<=10){q:Nat}(hq:q<=100000){m:Meeting}(hS:MtI P q m.Voters){p:Play}(hp:PlayOk P p)(hG:∀a:Nat,P.G a->has m.Ill.toNat (a:Int)=false)(h:(stepM m p).2=0):MtI P (q+1) (stepM m p).1.Voters/\(∀b,b<P.N->Turn (atV m.Voters b) (atV (stepM m p).1.Voters b))/\∀I,Own P I->AcI P I m.Voters->AcI P I (stepM m p).1.Voters:=by
 obtain⟨ha,w,e,hw⟩:=qby h;have hl:=hS.len;rw[e];dsimp only;rcases hw with⟨rfl,_⟩|⟨u,hu,rfl⟩
 .obtain⟨hv,k1,k2,f1,f2,ht,hi,hg⟩:=q3h ha;have hwN:whoP p<m.Voters.length:=by unfold whoP;grind
  rw[qiw hwN];exact⟨mt_up hS,fun b _=>Turn.refl _,fun I _ hA=>hA⟩
 .obtain⟨hU,hwN⟩:=ydk hS hp hG ha hu;obtain⟨h1,h2⟩:=y60 hN hS hwN hq hU (.inl rfl);refine⟨h1,fun b hb=>?_,fun I hO hA=>ydj hN hO hA (by omega) (hS.all _ hwN).node hU⟩;rw[qc3 (by omega)];by_cases e:whoP p=b;·simp_all
  .rw[if_neg e];exact Turn.refl _
theorem y7a{P:Lay}(hN:P.N<=10)(h1:1<=P.N){q:Nat}{m:Meeting}(hS:MtI P q m.Voters)(hb:(0<=m.Ill/\m.Ill<((2^P.N:Nat):Int))/\(0<=m.Stopped/\m.Stopped<((2^P.N:Nat):Int))/\m.Ill.toNat&&&m.Stopped.toNat=0):q4f m=true:=by have hl:=hS.len;refine q2i.2 ⟨⟨by omega,by omega,by simp_all,by simp_all,hb.2.2⟩,q1k.2 fun i hi=>?_⟩;have B:=hS.all i (by omega);rw[hl];refine⟨by rw[Nat.zero_add];exact B.node,B.valid,B.ins,fun x hx=>?_⟩;have T:=B.told x hx;have:=T.node;exact⟨by omega,T.ins⟩
theorem qzm{P:Lay}(hN:P.N<=10){q:Nat}{S:List Voter}(hS:MtI P q S):(∀v∈S,SmallV v)/\(∀v∈S,FreshA v)/\S.length<=10:=by
 have key:∀v∈S,Ready v:=fun v hv=>by obtain⟨i,hi⟩:=List.getElem?_of_mem hv;have hlt:i<S.length:=(List.getElem?_eq_some_iff.1 hi).1;have:=(q0n.1 (hS.all i (by have:=hS.len;omega)).valid).1;rw[q2b hlt]at hi;simp_all
 exact⟨fun v hv=>(key v hv).small,fun v hv=>(key v hv).freshA,by have:=hS.len;omega⟩
def Sets2(N:Nat)(m:Meeting):Prop:=(0<=m.Ill/\m.Ill<((2^N:Nat):Int))/\(0<=m.Stopped/\m.Stopped<((2^N:Nat):Int))/\m.Ill.toNat&&&m.Stopped.toNat=0
theorem qfp{m:Meeting}{p:Play}(h:(stepM m p).2=0){N:Nat}(hl:m.Voters.length=N)(hs:Sets2 N m):Sets2 N (stepM m p).1/\(stepM m p).1.Ill=m.Ill/\(stepM m p).1.Stopped.toNat=(if p.Kind=4 then m.Stopped.toNat|||2^p.From.toNat else m.Stopped.toNat):=by
 obtain⟨ha,w,e,_⟩:=qby h;obtain⟨hv,k1,k2,f1,f2,ht,hi,hg⟩:=q3h ha;obtain⟨⟨_,l10,_⟩,_⟩:=q2i.1 hv;obtain⟨s1,s2,s3⟩:=hs;rw[e];unfold stopP;by_cases e4:p.Kind=4
 .have hk:pairK p.Kind=false:=by rw[e4];rfl
  have hi':m.Ill.toNat.testBit p.From.toNat=false:=by
   have:has m.Ill.toNat p.From=false:=by rw[hi,e4];rfl
   have hf:p.From=((p.From.toNat:Nat):Int):=by omega
   rw[hf,q36 (by omega)]at this;exact this
  simp only[if_pos e4];have h1:m.Stopped.toNat|||2^p.From.toNat<2^N:=Nat.or_lt_two_pow (by omega) (Nat.pow_lt_pow_right (by decide) (by omega));refine⟨⟨s1,⟨by show(0:Int)<=((m.Stopped.toNat|||2^p.From.toNat:Nat):Int);omega,by show((m.Stopped.toNat|||2^p.From.toNat:Nat):Int)<_;omega⟩,?_⟩,by first|trivial|rfl,by first|trivial|rfl⟩;show m.Ill.toNat&&&((m.Stopped.toNat|||2^p.From.toNat:Nat):Int).toNat=0;rw[tN];apply Nat.eq_of_testBit_eq;grind
 .simp only[if_neg e4];exact⟨⟨s1,s2,s3⟩,by simp,by simp⟩
theorem y5o{n:Int}(h1:1<=n)(h2:n<=10){l:List Int}{i:Int}(h:q0u l i):∃t j,z8i n 2 l i=some (t,l,j)/\valid t=true/\q0u l j:=by obtain⟨t,j,g1,g2,_,g4⟩:=qx5 h1 h2 1 (by decide) h;grind
structure Gone(v:Voter)(k:Nat):Prop where
 valid:q24 v=true
 seq:v.Seq<=(k:Int)+1
theorem Gone.step{v w:Voter}{k:Nat}(h:Gone v k)(hk:k<1000)(hs:Step v w):Gone w (k+1):=by have:=h.seq;have:=hs.seq;exact⟨hs.ready (by omega),by omega⟩
theorem Gone.up{v:Voter}{k:Nat}(h:Gone v k):Gone v (k+1):=⟨h.valid,by have:=h.seq;omega⟩
theorem qph{a n:Int}(h0:0<=a)(h:a<n)(hn:n<=1000):0<=remI .i64 (addI .i64 a 1) n/\remI .i64 (addI .i64 a 1) n<n:=by rw[q2m (by omega) (by omega),show remI .i64 (a+1) n=(a+1).tmod n from rfl];exact⟨Int.tmod_nonneg n (by omega),Int.tmod_lt_of_pos _ (by omega)⟩
theorem y5z{l:List Int}{i:Int}(h:q0u l i):∃x j,z94 l i=some (x,l,j)/\x.Topic≠5/\q0u l j:=by
 obtain⟨x0,i0,g0,g0',g0'x,g0''⟩:=N_ok (n:=30) (by omega) (by omega) h;by_cases e:x0=29
 .obtain⟨x1,i1,g1,m1,g1'⟩:=qga (ps:=[-1,0,7,8]) (by decide) (by decide) g0'';obtain⟨x2,i2,g2,_,g2'⟩:=qga (ps:=[-1,0,15,16]) (by decide) (by decide) g1';refine⟨⟨x1,x2⟩,i2,ybg _ _ _ ?_,?_,g2'⟩;·rw[g0,bS];dsimp only;rw[e,q0f,cT,g1,bS];dsimp only;rw[g2];rfl
  grind
 .obtain⟨x1,i1,g1,_,m1,g1'⟩:=N_ok (n:=3) (by omega) (by omega) g0'';obtain⟨x2,i2,g2,_,_,g2'⟩:=N_ok (n:=3) (by omega) (by omega) g1';refine⟨⟨x1,x2⟩,i2,ybg _ _ _ ?_,by show x1≠5;omega,g2'⟩;rw[g0,bS];dsimp only;rw[q0i e,cF,g1,bS];simp_all
theorem qnx{l:List Int}:∀(n:Nat)(acc:List Claim)(i:Int),n+acc.length<=1000->(∀x∈acc,x.Topic≠5)->q0u l i->∃k j,z6w acc (n:Int) l i=some (k,l,j)/\k.length<=n+acc.length/\(∀x∈k,x.Topic≠5)/\q0u l j
 |0,acc,i,ha,hx,h=>⟨acc,i,yb5 _ _ _ _ _ (by rfl),by omega,hx,h⟩
 |n+1,acc,i,ha,hx,h=>by obtain⟨x,i1,g1,q1,g1'⟩:=y5z h;obtain⟨k,j,g2,g3,g4,g5⟩:=qnx n (acc++[x]) i1 (by simp;omega) (fun y hy=>by
   rcases List.mem_append.1 hy with hy|hy;·exact hx y hy
   .simp at hy;rw[hy];exact q1) g1';refine⟨k,j,yb5 _ _ _ _ _ ?_,by simp at g3;omega,g4,g5⟩;rw[q03 (by omega),cT,g1,bS,q05 (by simp[q06];omega),q61 (by omega) (by omega),show((n+1:Nat):Int)-1=(n:Int)by omega];omega
theorem y0q{l:List Int}{i:Int}(h:q0u l i):∃k j,z99 3 l i=some (k,l,j)/\k.length<=100/\(∀x∈k,x.Topic≠5)/\q0u l j:=by obtain⟨x0,i0,g0,g0',g0'x,g0''⟩:=N_ok (n:=4) (by omega) (by omega) h;obtain⟨m,rfl⟩:∃m:Nat,x0=m:=⟨x0.toNat,by omega⟩;obtain⟨k,j,g1,g2,g3,g4⟩:=qnx (l:=l) m [] i0 (by simp;omega) (fun _ h=>by cases h) g0'';refine⟨k,j,yj0 _ _ _ _ ?_,by simp at g2;omega,g3,g4⟩;rw[q2m (by omega) (by omega),show(3:Int)+1=4 from rfl,g0,bS];omega
theorem qhm{m:Int}(h1:1<=m)(h2:m<=10){l:List Int}{i:Int}(h:q0u l i):∃t j,z6f m l i=some (t,l,j)/\valid t=true/\q0u l j:=by
 obtain⟨t,j,g1,g2,g3⟩:=y5o h1 h2 h;have hs:=q1l g2;have e0:valid ⟨1,[0],[]⟩=true:=by rfl
 by_cases a1:40<(size t:Int);·refine⟨_,j,y6v _ _ _ _ ?_,e0,g3⟩;rw[g1,bS];dsimp only;rw[qgq t hs,bS,q03 a1];rfl
 .by_cases a2:3<(depth t:Int);·refine⟨_,j,y6v _ _ _ _ ?_,e0,g3⟩;rw[g1,bS];dsimp only;rw[qgq t hs,bS,q00 (by omega),cF,qc6 t hs,bS,q03 a2];rfl
  .refine⟨t,j,y6v _ _ _ _ ?_,g2,g3⟩;rw[g1,bS];dsimp only;rw[qgq t hs,bS,q00 (by omega),cF,qc6 t hs,bS,q00 (by omega),cF,Trust.etaM]
structure DrawnP(N:Nat)(d:Bool)(p:Play):Prop where
 small:SmallP p
 vote:p.Kind=1->p.Claim.Topic≠5
 decl:p.Kind=3->d=true/\valid p.Trust=true
 lie:∀y,y∈p.Message.Votes\/y∈p.Message.Accepts->y.Topic≠5
 fr:0<=p.From/\p.From<(N:Int)
def noT:Trust:=⟨0,[],[]⟩
def noM:Message:=⟨0,0,noT,[],[]⟩
theorem q2t:Small noT:=by unfold Small noT;rw[q9x];simp[sizes]
theorem qkm:SmallM noM:=⟨q2t,by simp[noM],by simp[noM]⟩
theorem q28{N:Nat}{d:Bool}{k f t:Int}{c:Claim}{tr:Trust}(htr:Small tr)(h1:k=1->c.Topic≠5)(h3:k=3->d=true/\valid tr=true)(hf:0<=f/\f<(N:Int)):DrawnP N d ⟨k,f,t,c,tr,noM⟩:=⟨⟨htr,qkm⟩,h1,h3,(fun y hy=>by rcases hy with h|h<;>cases h),hf⟩
theorem y4k(k:Int):Small ⟨1,[k],[]⟩:=by unfold Small;rw[q9x];simp[sizes]
def qqs(N:Nat)(d:Bool)(n:Nat)(l:List Int)(r:Option (List Play×List Int×Int)):Prop:=∃out j,r=some (out,l,j)/\(∀p∈out,DrawnP N d p)/\out.length=n/\q0u l j
theorem qiy{N:Nat}(hN:1<=N)(hN2:N<=10){d:Bool}{l:List Int}{ms:List Member}{n i:Nat}(hi:i<1000){ill:Int}{acc:List Play}(hac:acc.length<1000)(again:∀p j,DrawnP N d p->q0u l j->qqs N d n l (z06 ill (n:Int) d (acc++[p]) (N:Int) (addI .i64 (i:Int) 1) l j ms)):∀(r k:Nat)(f t j:Int),k+r=N->0<=f/\f<(N:Int)->0<=t/\t<(N:Int)->q0u l j->qqs N d n l (z2e ill (n:Int) d acc (N:Int) (i:Int) (k:Int) l j ms 5 f t 0 0 0 [] [] 0 0 0 [] [] [] [])
 |0,k,f,t,j,hk,hf,ht,h=>by
  obtain⟨x0,j0,g0,a0,b0,h0⟩:=N_ok (n:=2) (by decide) (by decide) h;obtain⟨x1,j1,g1,a1,b1,h1⟩:=N_ok (n:=2) (by decide) (by decide) h0;obtain⟨x2,j2,g2,a2,b2,h2⟩:=N_ok (n:=3) (by decide) (by decide) h1;have hrem:=qph ht.1 ht.2 (by omega);have hne:(N:Int)≠0:=by omega
  have mk:∀(T:Int)(A:List Claim),A.length<1000000->(∀y∈A,y.Topic≠5)->DrawnP N d ⟨5,f,T,⟨0,0⟩,⟨0,[],[]⟩,⟨f,mulI .i64 2 (addI .i64 (i:Int) 1),⟨1,[f],[]⟩,[⟨x0,x1⟩],A⟩⟩:=fun T A hA hA5=>⟨⟨q2t,y4k f,by simp,hA⟩,(fun e=>by simp),(fun e=>by cases e),(fun y hy=>by grind),hf⟩;by_cases e2:x2=0
  .obtain⟨x3,j3,g3,l3,q3,h3⟩:=y0q h2;have g4:=qc5 x3 (by omega);have hl4:=q3v x3;have hq4:∀y∈q0o x3,y.Topic≠5:=fun y hy=>q3 y (q1b.1 hy).2;by_cases e:f=t;·obtain⟨out,j',r1,r2⟩:=again _ j3 (mk (remI .i64 (addI .i64 t 1) (N:Int)) (q0o x3) (by omega) hq4) h3;refine⟨out,j',qmk _ _ _ _ _ _ _ _ _ _ _ _ _ _ _ _ _ _ _ _ _ _ _ _ _ _ ?_,r2⟩;rw[q00 (by omega),cF,g0,bS];dsimp only;rw[g1,bS];dsimp only;rw[g2,bS];dsimp only;rw[e2,q0f,cT,g3,bS];dsimp only;rw[g4,bS,e,q0f,cT,q0g hne,q05 (by simp[q06];omega)];simp_all
   .obtain⟨out,j',r1,r2⟩:=again _ j3 (mk t (q0o x3) (by omega) hq4) h3;refine⟨out,j',qmk _ _ _ _ _ _ _ _ _ _ _ _ _ _ _ _ _ _ _ _ _ _ _ _ _ _ ?_,r2⟩;rw[q00 (by omega),cF,g0,bS];dsimp only;rw[g1,bS];dsimp only;rw[g2,bS];dsimp only;rw[e2,q0f,cT,g3,bS];dsimp only;rw[g4,bS,q0i e,cF,q05 (by simp[q06];omega)];omega
  .have hq:∀y∈[(⟨x0,x1⟩:Claim)],y.Topic≠5:=fun y hy=>by grind
   by_cases e:f=t;·obtain⟨out,j',r1,r2⟩:=again _ j2 (mk (remI .i64 (addI .i64 t 1) (N:Int)) [⟨x0,x1⟩] (by simp) hq) h2;refine⟨out,j',qmk _ _ _ _ _ _ _ _ _ _ _ _ _ _ _ _ _ _ _ _ _ _ _ _ _ _ ?_,r2⟩;rw[q00 (by omega),cF,g0,bS];dsimp only;rw[g1,bS];dsimp only;rw[g2,bS];dsimp only;rw[q0i e2,cF,e,q0f,cT,q0g hne,q05 (by simp[q06];omega)];simp_all
   .obtain⟨out,j',r1,r2⟩:=again _ j2 (mk t [⟨x0,x1⟩] (by simp) hq) h2;refine⟨out,j',qmk _ _ _ _ _ _ _ _ _ _ _ _ _ _ _ _ _ _ _ _ _ _ _ _ _ _ ?_,r2⟩;rw[q00 (by omega),cF,g0,bS];dsimp only;rw[g1,bS];dsimp only;rw[g2,bS];dsimp only;rw[q0i e2,cF,q0i e,cF,q05 (by simp[q06];omega)];omega|r+1,k,f,t,j,hk,hf,ht,h=>by
  have hne:(N:Int)≠0:=by omega
  have hrem:=qph hf.1 hf.2 (by omega);cases hb:eqB (andI .i64 (shrI .i64 ill f) 1) 0 with|true=>obtain⟨out,j',r1,r2⟩:=qiy hN hN2 hi hac again r (k+1) (remI .i64 (addI .i64 f 1) (N:Int)) t j (by omega) hrem ht h;refine⟨out,j',qmk _ _ _ _ _ _ _ _ _ _ _ _ _ _ _ _ _ _ _ _ _ _ _ _ _ _ ?_,r2⟩;rw[q03 (by omega),cT,q0g hf.1,hb,cT,q0g hne,q02 (by omega)];omega|false=>obtain⟨out,j',r1,r2⟩:=qiy hN hN2 hi hac again r (k+1) f t j (by omega) hf ht h;refine⟨out,j',qmk _ _ _ _ _ _ _ _ _ _ _ _ _ _ _ _ _ _ _ _ _ _ _ _ _ _ ?_,r2⟩;rw[q03 (by omega),cT,q0g hf.1,hb,cF,q02 (by omega)];omega
theorem qy8{N:Nat}(hN:1<=N)(hN2:N<=10){d:Bool}{l:List Int}{ms:List Member}{ill:Int}{n:Nat}(hn:n<1000):∀(r i:Nat)(acc:List Play)(j:Int),i+r=n->acc.length=i->(∀p∈acc,DrawnP N d p)->q0u l j->qqs N d n l (z06 ill (n:Int) d acc (N:Int) (i:Int) l j ms)
 |0,i,acc,j,hi,ha,hD,h=>⟨acc,j,q6w _ _ _ _ _ _ _ _ _ _ (by rw[q00 (by omega)];rfl),hD,by omega,h⟩|r+1,i,acc,j,hi,ha,hD,h=>by
  have hne:(N:Int)≠0:=by omega
  have again:∀p j,DrawnP N d p->q0u l j->qqs N d n l (z06 ill (n:Int) d (acc++[p]) (N:Int) (addI .i64 (i:Int) 1) l j ms):=fun p j hp ht=>by rw[q02 (by omega)];refine qy8 hN hN2 hn r (i+1) (acc++[p]) j (by omega) (by simp[ha]) (fun x hx=>?_) ht;grind
  obtain⟨f,j0,g0,a0,b0,h0⟩:=N_ok (n:=(N:Int)) (by omega) (by omega) h;obtain⟨t0,j1,g1,a1,b1,h1⟩:=N_ok (n:=(N:Int)) (by omega) (by omega) h0;have hrem:=qph a1 b1 (by omega);obtain⟨k,j2,g2,mk2,h2⟩:=qga (ps:=[1,1,1,2,2,2,2,2,2,5,5,3,4]) (by decide) (by decide) h1;have hcap:∀p:Play,acc.length+[p].length<=100000:=fun p=>by grind
  by_cases e:f=t0
  .skip;by_cases e1:k=1;·obtain⟨x3,j3,g3,a3,b3,h3⟩:=N_ok (n:=2) (by decide) (by decide) h2;obtain⟨x4,j4,g4,a4,b4,h4⟩:=N_ok (n:=2) (by decide) (by decide) h3;obtain⟨out,j',r1,r2⟩:=again ⟨1,f,remI .i64 (addI .i64 t0 1) (N:Int),⟨x3,x4⟩,noT,noM⟩ j4 (q28 q2t (fun _=>by show x3≠5;omega) (fun e=>by cases e) ⟨a0,b0⟩) h4;refine⟨out,j',q6w _ _ _ _ _ _ _ _ _ _ ?_,r2⟩;rw[q03 (by omega),cT,g0,bS];dsimp only;rw[g1,bS];dsimp only;rw[show eqB f t0=true by rw[e];exact q0f _,cT,q0g hne,g2,bS];dsimp only;rw[e1,q0f,cT,g3,bS];dsimp only;rw[g4,bS];dsimp only;rw[q05 (by simp[q06];omega)];exact r1
   by_cases e2:k=2;·obtain⟨out,j',r1,r2⟩:=again ⟨2,f,remI .i64 (addI .i64 t0 1) (N:Int),⟨0,0⟩,noT,noM⟩ j2 (q28 q2t (fun e=>by cases e) (fun e=>by cases e) ⟨a0,b0⟩) h2;refine⟨out,j',q6w _ _ _ _ _ _ _ _ _ _ ?_,r2⟩;rw[q03 (by omega),cT,g0,bS];dsimp only;rw[g1,bS];dsimp only;rw[show eqB f t0=true by rw[e];exact q0f _,cT,q0g hne,g2,bS];dsimp only;rw[q0i e1,cF,e2,q0f,cT,q05 (by simp[q06];omega)];exact r1
   by_cases e3:k=3;·cases hd:d with|false=>rw[hd]at again;obtain⟨out,j',r1,r2⟩:=again ⟨2,f,remI .i64 (addI .i64 t0 1) (N:Int),⟨0,0⟩,noT,noM⟩ j2 (q28 q2t (fun e=>by cases e) (fun e=>by cases e) ⟨a0,b0⟩) h2;refine⟨out,j',q6w _ _ _ _ _ _ _ _ _ _ ?_,r2⟩;rw[q03 (by omega),cT,g0,bS];dsimp only;rw[g1,bS];dsimp only;rw[show eqB f t0=true by rw[e];exact q0f _,cT,q0g hne,g2,bS];dsimp only;rw[q0i e1,cF,q0i e2,cF,e3,q0f,cT,Bool.not_false,cT,q05 (by simp[q06];omega)];exact r1|true=>rw[hd]at again;obtain⟨t5,j5,g5,v5,h5⟩:=qhm (m:=(N:Int)) (by omega) (by omega) h2;obtain⟨out,j',r1,r2⟩:=again ⟨3,f,remI .i64 (addI .i64 t0 1) (N:Int),⟨0,0⟩,t5,noM⟩ j5 (q28 (q1l v5) (fun e=>by cases e) (fun _=>⟨rfl,v5⟩) ⟨a0,b0⟩) h5;refine⟨out,j',q6w _ _ _ _ _ _ _ _ _ _ ?_,r2⟩;rw[q03 (by omega),cT,g0,bS];dsimp only;rw[g1,bS];dsimp only;rw[show eqB f t0=true by rw[e];exact q0f _,cT,q0g hne,g2,bS];dsimp only;rw[q0i e1,cF,q0i e2,cF,e3,q0f,cT,nT,cF,g5,bS];dsimp only;rw[Trust.etaM,q05 (by simp[q06];omega)];exact r1
   by_cases e4:k=4
   .obtain⟨x6,j6,g6,a6,b6,h6⟩:=N_ok (n:=4) (by decide) (by decide) h2;by_cases e6:x6=0;·obtain⟨out,j',r1,r2⟩:=again ⟨4,f,remI .i64 (addI .i64 t0 1) (N:Int),⟨0,0⟩,noT,noM⟩ j6 (q28 q2t (fun e=>by cases e) (fun e=>by cases e) ⟨a0,b0⟩) h6;refine⟨out,j',q6w _ _ _ _ _ _ _ _ _ _ ?_,r2⟩;rw[q03 (by omega),cT,g0,bS];dsimp only;rw[g1,bS];dsimp only;rw[show eqB f t0=true by rw[e];exact q0f _,cT,q0g hne,g2,bS];dsimp only;rw[q0i e1,cF,q0i e2,cF,q0i e3,cF,e4,q0f,cT,g6,bS];dsimp only;rw[e6,q0f,cT,q05 (by simp[q06];omega)];exact r1
    .obtain⟨out,j',r1,r2⟩:=again ⟨2,f,remI .i64 (addI .i64 t0 1) (N:Int),⟨0,0⟩,noT,noM⟩ j6 (q28 q2t (fun e=>by cases e) (fun e=>by cases e) ⟨a0,b0⟩) h6;refine⟨out,j',q6w _ _ _ _ _ _ _ _ _ _ ?_,r2⟩;rw[q03 (by omega),cT,g0,bS];dsimp only;rw[g1,bS];dsimp only;rw[show eqB f t0=true by rw[e];exact q0f _,cT,q0g hne,g2,bS];dsimp only;rw[q0i e1,cF,q0i e2,cF,q0i e3,cF,e4,q0f,cT,g6,bS];dsimp only;rw[q0i e6,cF,q05 (by simp[q06];omega)];exact r1
   obtain⟨out,j',r1,r2⟩:=qiy hN hN2 (i:=i) (by omega) (acc:=acc) (by omega) again N 0 f (remI .i64 (addI .i64 t0 1) (N:Int)) j2 (by omega) ⟨a0,b0⟩ hrem h2;refine⟨out,j',q6w _ _ _ _ _ _ _ _ _ _ ?_,r2⟩;rw[q03 (by omega),cT,g0,bS];dsimp only;rw[g1,bS];dsimp only;rw[show eqB f t0=true by rw[e];exact q0f _,cT,q0g hne,g2,bS];dsimp only;rw[q0i e1,cF,q0i e2,cF,q0i e3,cF,q0i e4,cF];omega
  .skip;by_cases e1:k=1;·obtain⟨x3,j3,g3,a3,b3,h3⟩:=N_ok (n:=2) (by decide) (by decide) h2;obtain⟨x4,j4,g4,a4,b4,h4⟩:=N_ok (n:=2) (by decide) (by decide) h3;obtain⟨out,j',r1,r2⟩:=again ⟨1,f,t0,⟨x3,x4⟩,noT,noM⟩ j4 (q28 q2t (fun _=>by show x3≠5;omega) (fun e=>by cases e) ⟨a0,b0⟩) h4;refine⟨out,j',q6w _ _ _ _ _ _ _ _ _ _ ?_,r2⟩;rw[q03 (by omega),cT,g0,bS];dsimp only;rw[g1,bS];dsimp only;rw[q0i e,cF,g2,bS];dsimp only;rw[e1,q0f,cT,g3,bS];dsimp only;rw[g4,bS];dsimp only;rw[q05 (by simp[q06];omega)];exact r1
   by_cases e2:k=2;·obtain⟨out,j',r1,r2⟩:=again ⟨2,f,t0,⟨0,0⟩,noT,noM⟩ j2 (q28 q2t (fun e=>by cases e) (fun e=>by cases e) ⟨a0,b0⟩) h2;refine⟨out,j',q6w _ _ _ _ _ _ _ _ _ _ ?_,r2⟩;rw[q03 (by omega),cT,g0,bS];dsimp only;rw[g1,bS];dsimp only;rw[q0i e,cF,g2,bS];dsimp only;rw[q0i e1,cF,e2,q0f,cT,q05 (by simp[q06];omega)];exact r1
   by_cases e3:k=3;·cases hd:d with|false=>rw[hd]at again;obtain⟨out,j',r1,r2⟩:=again ⟨2,f,t0,⟨0,0⟩,noT,noM⟩ j2 (q28 q2t (fun e=>by cases e) (fun e=>by cases e) ⟨a0,b0⟩) h2;refine⟨out,j',q6w _ _ _ _ _ _ _ _ _ _ ?_,r2⟩;rw[q03 (by omega),cT,g0,bS];dsimp only;rw[g1,bS];dsimp only;rw[q0i e,cF,g2,bS];dsimp only;rw[q0i e1,cF,q0i e2,cF,e3,q0f,cT,Bool.not_false,cT,q05 (by simp[q06];omega)];exact r1|true=>rw[hd]at again;obtain⟨t5,j5,g5,v5,h5⟩:=qhm (m:=(N:Int)) (by omega) (by omega) h2;obtain⟨out,j',r1,r2⟩:=again ⟨3,f,t0,⟨0,0⟩,t5,noM⟩ j5 (q28 (q1l v5) (fun e=>by cases e) (fun _=>⟨rfl,v5⟩) ⟨a0,b0⟩) h5;refine⟨out,j',q6w _ _ _ _ _ _ _ _ _ _ ?_,r2⟩;rw[q03 (by omega),cT,g0,bS];dsimp only;rw[g1,bS];dsimp only;rw[q0i e,cF,g2,bS];dsimp only;rw[q0i e1,cF,q0i e2,cF,e3,q0f,cT,nT,cF,g5,bS];dsimp only;rw[Trust.etaM,q05 (by simp[q06];omega)];exact r1
   by_cases e4:k=4
   .obtain⟨x6,j6,g6,a6,b6,h6⟩:=N_ok (n:=4) (by decide) (by decide) h2;by_cases e6:x6=0;·obtain⟨out,j',r1,r2⟩:=again ⟨4,f,t0,⟨0,0⟩,noT,noM⟩ j6 (q28 q2t (fun e=>by cases e) (fun e=>by cases e) ⟨a0,b0⟩) h6;refine⟨out,j',q6w _ _ _ _ _ _ _ _ _ _ ?_,r2⟩;rw[q03 (by omega),cT,g0,bS];dsimp only;rw[g1,bS];dsimp only;rw[q0i e,cF,g2,bS];dsimp only;rw[q0i e1,cF,q0i e2,cF,q0i e3,cF,e4,q0f,cT,g6,bS];dsimp only;rw[e6,q0f,cT,q05 (by simp[q06];omega)];exact r1
    .obtain⟨out,j',r1,r2⟩:=again ⟨2,f,t0,⟨0,0⟩,noT,noM⟩ j6 (q28 q2t (fun e=>by cases e) (fun e=>by cases e) ⟨a0,b0⟩) h6;refine⟨out,j',q6w _ _ _ _ _ _ _ _ _ _ ?_,r2⟩;rw[q03 (by omega),cT,g0,bS];dsimp only;rw[g1,bS];dsimp only;rw[q0i e,cF,g2,bS];dsimp only;rw[q0i e1,cF,q0i e2,cF,q0i e3,cF,e4,q0f,cT,g6,bS];dsimp only;rw[q0i e6,cF,q05 (by simp[q06];omega)];exact r1
   obtain⟨out,j',r1,r2⟩:=qiy hN hN2 (i:=i) (by omega) (acc:=acc) (by omega) again N 0 f (t0) j2 (by omega) ⟨a0,b0⟩ ⟨a1,b1⟩ h2;refine⟨out,j',q6w _ _ _ _ _ _ _ _ _ _ ?_,r2⟩;rw[q03 (by omega),cT,g0,bS];dsimp only;rw[g1,bS];dsimp only;rw[q0i e,cF,g2,bS];dsimp only;rw[q0i e1,cF,q0i e2,cF,q0i e3,cF,q0i e4,cF];omega
theorem y97{N:Nat}(hN:1<=N)(hN2:N<=10){d:Bool}{l:List Int}{c:Config}(hc:c.Members.length=N){ill:Int}{n:Nat}(hn:n<1000){j:Int}(h:q0u l j):qqs N d n l (z9b c ill (n:Int) d l j):=by obtain⟨out,j',r1,r2⟩:=qy8 hN hN2 hn (ms:=c.Members) (ill:=ill) (d:=d) n 0 [] j (by omega) rfl (fun _ h=>by cases h) h;refine⟨out,j',yf4 _ _ _ _ _ _ _ ?_,r2⟩;simp_all
def qdl(c:Config)(k:Nat):Voter:=⟨(k:Int),1,tr c k,[],[],[],[]⟩
def q59(c:Config):List Voter:=(List.range c.Members.length).map (qdl c)
theorem qgu(c:Config):(q59 c).length=c.Members.length:=by simp[q59]
theorem qr7(c:Config){k:Nat}(h:k<c.Members.length):atV (q59 c) k=qdl c k:=by
 have:=q2b (S:=q59 c) (b:=k) (by rw[qgu];exact h);have h2:(q59 c)[k]?=some (qdl c k):=by simp[q59,h]
 simp_all
theorem tr_at{c:Config}{i:Nat}{m:Member}(h:c.Members[i]?=some m):tr c i=m.Trust:=by unfold tr;simp_all
theorem que{N:Nat}{c:Config}(hc:ConfOk N c)(hd:∀m∈c.Members,m.Declared=true){k:Nat}(h:k<c.Members.length):valid (tr c k)=true/\uses (tr c k)<2^c.Members.length:=by
 have hget:c.Members[k]?=some c.Members[k]:=by simp
 have hm:=hc.mem _ (List.getElem_mem h);unfold MemOk at hm;rw[if_pos (hd _ (List.getElem_mem h))]at hm;rw[tr_at hget];exact⟨hm.1,qgb _ hm.2⟩
theorem qz9{N:Nat}(hN:N<=10){c:Config}(hc:ConfOk N c)(hd:∀m∈c.Members,m.Declared=true)(a0:Int)(a10:List Member)(a12:List Voter)(a14 a16 a20 a22:Int):∀(r k:Nat),k+r=c.Members.length->z2h a0 c.Members ((c.Members.length:Nat):Int) (k:Int) a10 a12 a14 a16 ((List.range k).map (qdl c)) a20 a22=some (⟨q59 c,a20,a22⟩,0)
 |0,k,h=>by apply yc4;rw[q00 (by omega),cF,show k=c.Members.length by omega];rfl|r+1,k,h=>by
  have hlt:k<c.Members.length:=by omega
  have hl:=hc.le;have hget:c.Members[k]?=some c.Members[k]:=by simp
  have ht:=tr_at hget;obtain⟨hv,hu⟩:=que hc hd hlt;have hk:inR (k:Int)=true:=by simp[inR];omega
  apply yc4;rw[q03 (by omega),cT,q0j (y:=c.Members[k]) (by omega) (by simp),hd _ (List.getElem_mem hlt),nT,cF,<-ht,y1j _ (q1l hv),(qdb hk hv).1,bS,q0x,q05 (by simp[q06];omega),q02 (by omega)];have:=qz9 hN hc hd a0 a10 a12 a14 a16 a20 a22 r (k+1) (by omega);rw[List.range_succ,List.map_append]at this;exact this
theorem y22{N:Nat}(hN:N<=10){c:Config}(hc:ConfOk N c)(hd:∀m∈c.Members,m.Declared=true){ill:Nat}(hill:ill<2^c.Members.length):z7i c (ill:Int)=some (⟨q59 c,0,(ill:Int)⟩,0):=by have hl:=hc.le;have hp:=hc.pos;have hpw:=q68 (n:=c.Members.length) (by omega);have h0:cerr c=0:=q29.2 (hc.valid hN);apply yj1;rw[y7g (hc.smallC hN),bS,h0,q0h,cF,q0i (by omega),cF,q00 (by omega),cF,q0g (by omega),shlN (by omega),q52,decide_eq_true (by omega)];exact qz9 hN hc hd _ _ _ _ _ _ _ c.Members.length 0 (by omega)
theorem qoi(c:Config)(k:Nat):Settled (qdl c k):=⟨fun x hx=>by simp[known,allM,q5t,qdl,say,q1b]at hx,fun y hy=>by cases hy⟩
theorem qz4{N:Nat}(hN:N<=10){c:Config}(hc:ConfOk N c)(hd:∀m∈c.Members,m.Declared=true){P:Lay}(hP:P.N=c.Members.length)(hT:∀b,b<P.N->P.G b->P.T b (tr c b)):MtI P 1 (q59 c):=by
 refine⟨by rw[qgu,hP],fun b hb=>?_⟩;have hb':b<c.Members.length:=by omega
 have hl:=hc.le;obtain⟨hv,hu⟩:=que hc hd hb';have hk:inR (b:Int)=true:=by simp[inR];omega
 rw[show MtB P 1 (q59 c) b=MtB P 1 (q59 c) b from rfl];have e:=qr7 c hb';refine⟨by rw[e];exact(qdb hk hv).2,by rw[e];rfl,fun hg=>by rw[e];exact hT b hb hg,by rw[e,hP];exact hu,by rw[e];show(1:Int)<=_;omega,?_,by rw[e];exact qoi c b,fun m hm=>?_,fun _ y hy=>?_⟩;·rw[e];rintro y(h|h)<;>cases h
 .rw[e]at hm;cases hm
 .rw[e]at hy;cases hy
noncomputable def playM:List Play->Meeting->Meeting×List Int|[],m=>(m,[])|p::r,m=>((playM r (if(stepM m p).2=0 then(stepM m p).1 else m)).1,(stepM m p).2::(playM r (if(stepM m p).2=0 then(stepM m p).1 else m)).2)
def lay0(N:Nat):Lay:=⟨N,fun _=>False,fun _ _=>True,fun _=>True⟩
theorem ok0(N:Nat)(p:Play):PlayOk (lay0 N) p:=⟨fun _=>trivial,fun _=>trivial,fun _ _ _=>trivial⟩
theorem g0(N:Nat)(m:Meeting):∀a:Nat,(lay0 N).G a->has m.Ill.toNat (a:Int)=false:=fun _ h=>h.elim
structure GoodMt(N q:Nat)(m:Meeting):Prop where
 mt:MtI (lay0 N) q m.Voters
 sets:Sets2 N m
theorem GoodMt.small{N q:Nat}(hN:N<=10){m:Meeting}(h:GoodMt N q m):SmallMt m:=by obtain⟨h1,_,h3⟩:=qzm hN h.mt;exact⟨by omega,h1⟩
theorem GoodMt.fresh{N q:Nat}(hN:N<=10){m:Meeting}(h:GoodMt N q m):z5b m=some m:=by obtain⟨_,h2,h3⟩:=qzm hN h.mt;exact y2g (by omega) h2
theorem GoodMt.valid{N q:Nat}(hN:N<=10)(h1:1<=N){m:Meeting}(h:GoodMt N q m):q4f m=true:=y7a (P:=lay0 N) hN h1 h.mt h.sets
theorem GoodMt.len{N q:Nat}{m:Meeting}(h:GoodMt N q m):m.Voters.length=N:=h.mt.len
theorem GoodMt.step{N q:Nat}(hN:N<=10)(hq:q<=100000){m:Meeting}(h:GoodMt N q m){p:Play}(h0:(stepM m p).2=0):GoodMt N (q+1) (stepM m p).1:=⟨(quq (P:=lay0 N) hN hq h.mt (ok0 N p) (g0 N m) h0).1,(qfp h0 h.len h.sets).1⟩
theorem GoodMt.up{N q:Nat}{m:Meeting}(h:GoodMt N q m):GoodMt N (q+1) m:=⟨mt_up h.mt,h.sets⟩
theorem qvy{N:Nat}(hN:N<=10)(l:List Play)(hl:l.length<=400)(hp:∀p∈l,SmallP p)(a10:List Member)(a12:List Voter)(a14 a16:Int):∀(suf:List Play)(i q:Nat)(acc:List Int)(m:Meeting),l.drop i=suf->acc.length<=i->GoodMt N q m->q+suf.length<=1000->z3n acc l ((l.length:Nat):Int) (i:Int) a10 a12 a14 a16 m.Voters m.Stopped m.Ill=some ((playM suf m).1,acc++(playM suf m).2,0)
 |[],i,q,acc,m,h,ha,hm,hq=>by apply y9y;rw[q0d h,cF,show Meeting.mk m.Voters m.Stopped m.Ill=m from rfl,hm.fresh hN,bS,playM,List.append_nil]|p::suf,i,q,acc,m,h,ha,hm,hq=>by
  have hlt:=q09 h;rw[List.length_cons]at hq;have hps:=hp p (List.mem_of_mem_drop (i:=i) (by simp_all));apply y9y;rw[q07 h,cT,q04 h,show Meeting.mk m.Voters m.Stopped m.Ill=m from rfl,qz8 (hm.small hN) hps,bS,q02 (by omega),playM];by_cases h0:(stepM m p).2=0;·have ih:=qvy hN l hl hp a10 a12 a14 a16 suf (i+1) (q+1) (acc++[(stepM m p).2]) (stepM m p).1 (q01 h) (by simp_all) (hm.step hN (by omega) h0) (by omega);simp only[if_pos h0];rw[show eqB (stepM m p).2 0=true by rw[h0];rfl,cT,q05 (by simp[q06];omega),ih];simp
  .have ih:=qvy hN l hl hp a10 a12 a14 a16 suf (i+1) (q+1) (acc++[(stepM m p).2]) m (q01 h) (by simp_all) hm.up (by omega);simp only[if_neg h0];rw[q0i h0,cF,q05 (by simp[q06];omega),ih];simp
theorem qh3{N:Nat}(hN:N<=10){c:Config}(hc:ConfOk N c)(hd:∀m∈c.Members,m.Declared=true){ill:Nat}(hill:ill<2^c.Members.length):GoodMt c.Members.length 1 ⟨q59 c,0,(ill:Int)⟩:=⟨qz4 hN hc hd rfl fun _ _ h=>h.elim,⟨by simp,by grind⟩,⟨by simp,by grind⟩,Nat.and_zero _⟩
noncomputable def runM(c:Config)(ill:Nat)(l:List Play):Meeting×List Int:=playM l ⟨q59 c,0,(ill:Int)⟩
theorem y2b{N:Nat}(hN:N<=10){c:Config}(hc:ConfOk N c)(hd:∀m∈c.Members,m.Declared=true){ill:Nat}(hill:ill<2^c.Members.length){l:List Play}(hl:l.length<=400)(hp:∀p∈l,SmallP p):z4d c (ill:Int) l=some ((runM c ill l).1,(runM c ill l).2,0):=by have hle:=hc.le;apply ygh;rw[y22 hN hc hd hill,bS];dsimp only;rw[q0h,cF,q00 (by omega),cF];exact qvy (N:=c.Members.length) (by omega) l hl hp _ _ _ _ l 0 1 [] ⟨q59 c,0,(ill:Int)⟩ rfl (Nat.le_refl _) (qh3 hN hc hd hill) (by omega)
def sendP(a b:Nat):Play:=⟨2,(a:Int),(b:Int),⟨0,0⟩,noT,noM⟩
theorem qv5(a b:Nat):SmallP (sendP a b):=⟨q2t,qkm⟩
noncomputable def sendM(m:Meeting)(a b:Nat):Meeting:=if(stepM m (sendP a b)).2=0 then(stepM m (sendP a b)).1 else m
def tot(l:List Message):Nat:=(l.map fun m=>m.Seq.toNat).sum
def pot(m:Meeting):Nat:=(m.Voters.map fun v=>tot v.Heard).sum
theorem y4q:∀(l:List Nat)(i:Nat)(x:Nat),i<l.length->(l.set i x).sum+l.getD i 0=l.sum+x|[],i,x,h=>by cases h|y::l,0,x,_=>by grind|y::l,i+1,x,h=>by have:=y4q l i x (by simpa using h);grind
theorem qx0{m:Message}(h1:1<=m.Seq):∀{l:List Message},oldB l m=false->tot l<tot (hearL m l)
 |[],_=>by simp[hearL,tot];omega|x::r,ho=>by
  rw[qfu,Bool.or_eq_false_iff]at ho;rw[hearL];split;·have:=qx0 h1 (l:=r) ho.2;simp only[tot,List.map_cons,List.sum_cons]at this⊢;omega
  .split
   .rename_i hn;have:¬m.Seq<=x.Seq:=by simp_all
    simp only[tot,List.map_cons,List.sum_cons];omega
   .simp only[tot,List.map_cons,List.sum_cons];omega
theorem q86{m:Meeting}{a b:Nat}(h:(stepM m (sendP a b)).2=0):mAsk m (sendP a b)=0/\oldB (atV m.Voters b).Heard (say (atV m.Voters a))=false/\(stepM m (sendP a b)).1=⟨m.Voters.set b (turnV (atV m.Voters b) {atV m.Voters b with Heard:=hearL (say (atV m.Voters a)) (atV m.Voters b).Heard}),m.Stopped,m.Ill⟩/\a<m.Voters.length/\b<m.Voters.length/\a≠b/\m.Ill.toNat.testBit a=false/\(m.Ill.toNat|||m.Stopped.toNat).testBit b=false:=by
 obtain⟨ha,w,e,hw⟩:=qby h;obtain⟨hv,_,_,f1,f2,ht,hi,_⟩:=q3h ha;obtain⟨⟨_,l10,_⟩,_⟩:=q2i.1 hv;obtain⟨t1,t2,t3,t4⟩:=ht rfl;have f2:(a:Int)<(m.Voters.length:Int):=f2;have t2:(b:Int)<(m.Voters.length:Int):=t2;have t3:(b:Int)≠(a:Int):=t3;have hwb:whoP (sendP a b)=b:=tN b;have hi:has m.Ill.toNat (a:Int)=false:=hi;have t4:has (m.Ill.toNat|||m.Stopped.toNat) (b:Int)=false:=t4;rw[q36 (by omega)]at hi t4;rw[hwb]at e hw;rcases hw with⟨_,_,h2,_⟩|⟨u,hu,rfl⟩;·exact absurd rfl h2
 .rcases hu with⟨k,_⟩|⟨_,g1,g2⟩|⟨k,_⟩|⟨k,_⟩;·cases k
  .have e1:(sendP a b).From.toNat=a:=tN a;rw[e1]at g1 g2;refine⟨ha,g1,?_,by omega,by omega,by omega,hi,t4⟩;rw[e,g2];rfl
  .cases k
  .cases k
theorem qng(b u:Voter):(turnV b u).Heard=u.Heard:=by obtain⟨s,_,h2,_⟩:=q3i b u;rw[h2];exact(q20 u).2.2.2.2
theorem qy2{N q:Nat}{m:Meeting}(hm:GoodMt N q m){a b:Nat}(h:(stepM m (sendP a b)).2=0):pot m<pot (stepM m (sendP a b)).1:=by
 obtain⟨_,ho,e,ha,hb,_⟩:=q86 h;rw[e];unfold pot;dsimp only;have hA:=hm.mt.all a (by rw[<-hm.len];exact ha);have h1:=(q0n.1 hA.valid).1.seq.1;have ht:=qx0 (m:=say (atV m.Voters a)) h1 ho;rw[List.map_set];have hs:=y4q (m.Voters.map fun v=>tot v.Heard) b (tot (turnV (atV m.Voters b) {atV m.Voters b with Heard:=hearL (say (atV m.Voters a)) (atV m.Voters b).Heard}).Heard) (by simpa using hb);rw[qng]at hs⊢;have hg:(m.Voters.map fun v=>tot v.Heard).getD b 0=tot (atV m.Voters b).Heard:=by rw[List.getD_eq_getElem?_getD,List.getElem?_map,q2b hb];rfl
 grind
theorem y4x{P:Lay}(hN:P.N<=10){q:Nat}(hq:q<=100000){m:Meeting}(hS:MtI P q m.Voters){a b:Nat}(h:(stepM m (sendP a b)).2=0):MtI P q (stepM m (sendP a b)).1.Voters:=by obtain⟨_,ho,e,ha,hb,hne,_⟩:=q86 h;have hl:=hS.len;have A:=hS.all a (by omega);have hU:=qud hS (b:=b) (by omega) (q0n.1 A.valid).1.say (by show(atV m.Voters a).Node≠_;rw[A.node];omega) (qys hS (a:=a) (by omega));rw[e];exact(y60 hN hS (by omega) hq hU (.inr ⟨rfl,rfl,rfl⟩)).1
theorem GoodMt.send{N q:Nat}(hN:N<=10)(hq:q<=100000){m:Meeting}(hm:GoodMt N q m){a b:Nat}(h:(stepM m (sendP a b)).2=0):GoodMt N q (stepM m (sendP a b)).1:=⟨y4x (P:=lay0 N) hN hq hm.mt h,(qfp h hm.len hm.sets).1⟩
noncomputable def sends(m:Meeting)(l:List (Nat×Nat)):Meeting:=l.foldl (fun m p=>sendM m p.1 p.2) m
structure SendR(m m':Meeting)(l:List (Nat×Nat)):Prop where
 le:pot m<=pot m'
 stay:pot m'=pot m->m'=m/\∀p∈l,(stepM m (sendP p.1 p.2)).2≠0
theorem q4s{N q:Nat}(hN:N<=10)(hq:q<=100000):∀(l:List (Nat×Nat))(m:Meeting),GoodMt N q m->GoodMt N q (sends m l)/\SendR m (sends m l) l
 |[],m,h=>⟨h,Nat.le_refl _,fun _=>⟨rfl,fun _ h=>by cases h⟩⟩|p::r,m,h=>by
  show GoodMt N q (sends (sendM m p.1 p.2) r)/\SendR m (sends (sendM m p.1 p.2) r) (p::r);unfold sendM;by_cases h0:(stepM m (sendP p.1 p.2)).2=0;·rw[if_pos h0];obtain⟨g1,g2⟩:=q4s hN hq r _ (h.send hN hq h0);have:=qy2 h h0;have:=g2.le;exact⟨g1,by omega,fun e=>by omega⟩
  .rw[if_neg h0];obtain⟨g1,g2⟩:=q4s hN hq r m h;refine⟨g1,g2.le,fun e=>⟨(g2.stay e).1,fun x hx=>?_⟩⟩;rcases List.mem_cons.1 hx with e'|hx;·simp_all
   .exact(g2.stay e).2 x hx
theorem qex{K:Meeting->Prop}(hK:∀m a b,K m->(stepM m (sendP a b)).2=0->K (stepM m (sendP a b)).1):∀(l:List (Nat×Nat))(m:Meeting),K m->K (sends m l)|[],_,h=>h|p::r,m,h=>by show K (sends (sendM m p.1 p.2) r);refine qex hK r _ ?_;unfold sendM;grind
theorem qs5(m:Meeting)(l k:List (Nat×Nat)):sends m (l++k)=sends (sends m l) k:=List.foldl_append
def q7a(w:List Nat):List (Nat×Nat):=w.flatMap fun a=>w.map fun b=>(a,b)
theorem qkx{N q:Nat}(hN:N<=10)(hq:q<=100000)(w:List Nat)(hw:w.length<=10)(a:Nat){a8:List Int}{a10 a12:Int}{a26:List Voter}{a28 a30:Int}{R:Option (Meeting×Bool)}:∀(suf:List Nat)(i:Nat)(m:Meeting)(any:Bool),w.drop i=suf->GoodMt N q m->(∀m' any',m'=sends m (suf.map fun b=>(a,b))->any'=(any||decide (pot m<pot m'))->z2l (w.map Int.ofNat) any' a8 a10 (addI .i64 a12 1) m'.Voters m'.Stopped m'.Ill a26 a28 a30=R)->(∃r,R=some r)->z2o (w.map Int.ofNat) any (a:Int) a8 a10 a12 (w.map Int.ofNat) ((w.length:Nat):Int) (i:Int) m.Voters m.Stopped m.Ill a26 a28 a30=R
 |[],i,m,any,h,hm,hR,⟨r,hr⟩=>by rw[hr];apply yb8;rw[q0d h,cF,hR m any rfl (by simp),hr]|b::suf,i,m,any,h,hm,hR,⟨r,hr⟩=>by
  have hlt:=q09 h;have h':(w.map Int.ofNat).drop i=(b:Int)::suf.map Int.ofNat:=by rw[<-List.map_drop,h];rfl
  have hs:=qz8 (hm.small hN) (qv5 a b);have hs:z60 (Meeting.mk m.Voters m.Stopped m.Ill) (Play.mk 2 (a:Int) (b:Int) (Claim.mk 0 0) (Trust.mk 0 [] []) (Message.mk 0 0 (Trust.mk 0 [] []) [] []))=some (stepM m (sendP a b)):=hs;rw[hr];apply yb8;rw[q03 (by omega),cT,q04 h',hs,bS,q02 (by omega),<-hr];by_cases h0:(stepM m (sendP a b)).2=0
  .rw[show eqB (stepM m (sendP a b)).2 0=true by rw[h0];rfl,cT];refine qkx hN hq w hw a suf (i+1) _ true (q01 h) (hm.send hN hq h0) (fun m' any' e1 e2=>?_) ⟨r,hr⟩;have hp:=qy2 hm h0;have hp2:=(q4s hN hq (suf.map fun b=>(a,b)) _ (hm.send hN hq h0)).2.le;refine hR m' any' ?_ ?_;·rw[e1];show _=sends (sendM m a b) _;unfold sendM;rw[if_pos h0]
   grind
  .rw[q0i h0,cF];refine qkx hN hq w hw a suf (i+1) m any (q01 h) hm (fun m' any' e1 e2=>hR m' any' ?_ e2) ⟨r,hr⟩;rw[e1];show _=sends (sendM m a b) _;unfold sendM;simp_all
theorem qsy{N q:Nat}(hN:N<=10)(hq:q<=100000)(w:List Nat)(hw:w.length<=10){a18:List Voter}{a20 a22:Int}:∀(suf:List Nat)(i:Nat)(m:Meeting)(any:Bool),w.drop i=suf->GoodMt N q m->z2l (w.map Int.ofNat) any (w.map Int.ofNat) ((w.length:Nat):Int) (i:Int) m.Voters m.Stopped m.Ill a18 a20 a22=some (sends m (suf.flatMap fun a=>w.map fun b=>(a,b)),any||decide (pot m<pot (sends m (suf.flatMap fun a=>w.map fun b=>(a,b)))))
 |[],i,m,any,h,hm=>by apply yau;rw[q0d h,cF];simp[sends]|a::suf,i,m,any,h,hm=>by
  have hlt:=q09 h;have h':(w.map Int.ofNat).drop i=(a:Int)::suf.map Int.ofNat:=by rw[<-List.map_drop,h];rfl
  apply yau;rw[q03 (by omega),cT,q04 h',List.length_map];refine qkx hN hq w hw a w 0 m any rfl hm (fun m' any' e1 e2=>?_) ⟨_,rfl⟩;obtain⟨g1,g2⟩:=q4s hN hq (w.map fun b=>(a,b)) m hm;rw[<-e1]at g1 g2;rw[q02 (by omega),qsy hN hq w hw suf (i+1) m' any' (q01 h) g1,List.flatMap_cons,qs5,<-e1];have hp1:=g2.le;have hp2:=(q4s hN hq (suf.flatMap fun a=>w.map fun b=>(a,b)) m' g1).2.le;congr 2;grind
def q1z(N:Nat)(m:Meeting):List Nat:=nodes (2^N-1-m.Ill.toNat)
noncomputable def q77(w:List Nat)(m:Meeting):Meeting:=sends m (q7a w)
theorem y3e{N q:Nat}(hN:N<=10)(hq:q<=100000){m:Meeting}(hm:GoodMt N q m):z6m m=some (q77 (q1z N m) m,decide (pot m<pot (q77 (q1z N m) m))):=by
 have hl:=hm.len;obtain⟨⟨s1,s2⟩,_⟩:=hm.sets;have hp:=q68 hN;have hpos:=Nat.two_pow_pos N;have hw:z62 (subI .i64 (subI .i64 (shlI .i64 1 ((m.Voters.length:Nat):Int)) 1) m.Ill)=some ((q1z N m).map Int.ofNat):=by
  have e1:subI .i64 ((2^N:Nat):Int) 1=((2^N:Nat):Int)-1:=q61 (by omega) (by omega);rw[hl,shlN hN,e1,q61 (by omega) (by omega)];have:((2^N:Nat):Int)-1-m.Ill=((2^N-1-m.Ill.toNat:Nat):Int):=by omega
  rw[this];exact qt5 (by omega)
 apply yjj;rw[q0g (by omega),hw,bS];have:=qsy hN hq (q1z N m) (q6s _) (a18:=[]) (a20:=0) (a22:=0) (q1z N m) 0 m false rfl hm;rw[List.length_map];rw[Bool.false_or]at this;exact this
noncomputable def iterM(w:List Nat):Nat->Meeting->Meeting|0,m=>m|n+1,m=>iterM w n (q77 w m)
theorem qqk{w:List Nat}{m:Meeting}(h:q77 w m=m):∀n,iterM w n m=m|0=>rfl|n+1=>by rw[iterM,h];exact qqk h n
theorem qly{K:Meeting->Prop}(hK:∀m a b,K m->(stepM m (sendP a b)).2=0->K (stepM m (sendP a b)).1)(w:List Nat):∀(n:Nat)(m:Meeting),K m->K (iterM w n m)|0,_,h=>h|n+1,m,h=>qly hK w n _ (qex hK _ m h)
def BdM(B:Nat)(m:Meeting):Prop:=∀v∈m.Voters,∀x∈v.Heard,x.Seq.toNat<=B
theorem ybo{l:List Nat}{B:Nat}(h:∀x∈l,x<=B):l.sum<=l.length*B:=by induction l with|nil=>simp|cons y l ih=>have h1:=h y (by simp);have h2:=ih fun x hx=>h x (by grind);rw[List.sum_cons,List.length_cons,Nat.add_mul];omega
theorem yj5{N q B:Nat}(hN:N<=10){m:Meeting}(hm:GoodMt N q m)(hB:BdM B m):pot m<=10*(10*B):=by
 have h1:pot m<=(m.Voters.map fun v=>tot v.Heard).length*(10*B):=ybo fun x hx=>by
  obtain⟨v,hv,rfl⟩:=List.mem_map.1 hx;have h2:tot v.Heard<=(v.Heard.map fun m=>m.Seq.toNat).length*B:=ybo fun y hy=>by obtain⟨k,hk,rfl⟩:=List.mem_map.1 hy;exact hB v hv k hk
  obtain⟨i,hi⟩:=List.getElem?_of_mem hv;have hlt:i<m.Voters.length:=(List.getElem?_eq_some_iff.1 hi).1;have hr:=(q0n.1 (hm.mt.all i (by rw[<-hm.len];exact hlt)).valid).1;rw[q2b hlt]at hi;cases hi;have:=hr.hlen;rw[List.length_map]at h2;exact Nat.le_trans h2 (Nat.mul_le_mul_right B this)
 have hl:=hm.len;rw[List.length_map]at h1;exact Nat.le_trans h1 (Nat.mul_le_mul_right _ (by omega))
theorem BdM.send{N q B:Nat}(hB0:1000000<=B){m:Meeting}(hm:GoodMt N q m)(hB:BdM B m){a b:Nat}(h:(stepM m (sendP a b)).2=0):BdM B (stepM m (sendP a b)).1:=by
 obtain⟨_,_,e,ha,hb,_⟩:=q86 h;rw[e];intro v hv x hx;dsimp only at hv;rcases List.mem_or_eq_of_mem_set hv with g|g;·exact hB v g x hx
 .rw[g,qng]at hx;rcases qkz hx with g|g;·have hA:=hm.mt.all a (by rw[<-hm.len];exact ha);have h1:=(q0n.1 hA.valid).1.seq;rw[g];show(atV m.Voters a).Seq.toNat<=B;omega
  .exact hB _ (List.mem_of_getElem? (q2b hb)) x g
theorem yd8(m:Meeting):∃B,1000000<=B/\BdM B m:=by
 have key:∀{l:List Nat}{x:Nat},x∈l->x<=l.sum:=by intro l;induction l with|nil=>simp|cons y l ih=>grind
 refine⟨1000000+pot m,by omega,fun v hv x hx=>?_⟩;have h1:x.Seq.toNat<=tot v.Heard:=key (List.mem_map_of_mem (f:=fun m:Message=>m.Seq.toNat) hx);have h2:tot v.Heard<=pot m:=key (List.mem_map_of_mem (f:=fun v:Voter=>tot v.Heard) hv);omega
theorem y1i{N q B:Nat}(hN:N<=10)(hq:q<=100000)(hB0:1000000<=B){m:Meeting}(hm:GoodMt N q m)(hB:BdM B m)(w:List Nat):GoodMt N q (q77 w m)/\BdM B (q77 w m):=qex (K:=fun m=>GoodMt N q m/\BdM B m) (fun _m _a _b h h0=>⟨h.1.send hN hq h0,h.2.send hB0 h.1 h0⟩) _ m ⟨hm,hB⟩
theorem y1l{N:Nat}(w:List Nat)(m:Meeting):q1z N (q77 w m)=q1z N m:=qex (K:=fun x=>q1z N x=q1z N m) (fun x a b h h0=>by rw[<-h];unfold q1z;rw[(q86 h0).2.2.1]) _ m rfl
theorem qxi{N q B:Nat}(hN:N<=10)(hq:q<=100000)(hB0:1000000<=B){a10:List Voter}{a12 a14:Int}:∀(n:Nat)(m:Meeting),GoodMt N q m->BdM B m->10*(10*B)-pot m<n->z2x true m.Voters m.Stopped m.Ill a10 a12 a14=some (iterM (q1z N m) n m,0)/\q77 (q1z N m) (iterM (q1z N m) n m)=iterM (q1z N m) n m
 |0,m,hm,hB,hn=>by omega|n+1,m,hm,hB,hn=>by
  obtain⟨g1,g2⟩:=y1i hN hq hB0 hm hB (q1z N m);have hR:=(q4s hN hq (q7a (q1z N m)) m hm).2;have hr:z6m (Meeting.mk m.Voters m.Stopped m.Ill)=_:=y3e hN hq hm;have hp:=hR.le;by_cases h:pot m<pot (q77 (q1z N m) m);·have hb:=yj5 hN g1 g2;obtain⟨i1,i2⟩:=qxi hN hq hB0 (a10:=a10) (a12:=a12) (a14:=a14) n (q77 (q1z N m) m) g1 g2 (by omega);rw[y1l]at i1 i2;refine⟨?_,i2⟩;apply y3k;rw[cT,hr,bS,decide_eq_true h];exact i1
  .have e:q77 (q1z N m) m=m:=(hR.stay (by show pot (q77 (q1z N m) m)=pot m;have:pot m<=pot (q77 (q1z N m) m):=hp;omega)).1;rw[qqk e];refine⟨?_,e⟩;apply y3k;rw[cT,hr,bS,e,decide_eq_false (Nat.lt_irrefl (pot m))];apply y3k;rw[cF,show Meeting.mk m.Voters m.Stopped m.Ill=m from rfl,hm.fresh hN,bS]
def Still(N:Nat)(m:Meeting):Prop:=q77 (q1z N m) m=m
theorem y9j{N q:Nat}(hN:N<=10)(h1:1<=N)(hq:q<=100000){m:Meeting}(hm:GoodMt N q m):∃n,z6x m=some (iterM (q1z N m) n m,0)/\Still N (iterM (q1z N m) n m):=by
 obtain⟨B,hB0,hB⟩:=yd8 m;obtain⟨g1,g2⟩:=qxi hN hq hB0 (a10:=[]) (a12:=0) (a14:=0) (10*(10*B)-pot m+1) m hm hB (by omega);refine⟨10*(10*B)-pot m+1,yg0 _ _ ?_,?_⟩;·rw[qjv (hm.small hN),hm.valid hN h1,bS];grind
 .unfold Still;have:q1z N (iterM (q1z N m) (10*(10*B)-pot m+1) m)=q1z N m:=qly (K:=fun x=>q1z N x=q1z N m) (fun x a b h h0=>by rw[<-h];unfold q1z;rw[(q86 h0).2.2.1]) _ _ m rfl;simp_all
theorem qze{N:Nat}(hN:N<=10){m:Meeting}(hs:Sets2 N m){a:Nat}:a∈q1z N m↔a<N/\m.Ill.toNat.testBit a=false:=by
 obtain⟨⟨s1,s2⟩,_⟩:=hs;have hp:=q68 hN;have hsub:m.Ill.toNat<2^N:=by omega
 unfold q1z;rw[q3s];grind
theorem y72{N q:Nat}(hN:N<=10)(h1:1<=N)(hq:q<=100000){m:Meeting}(hm:GoodMt N q m)(hs:Still N m){a b:Nat}(ha:a<N)(hb:b<N)(hab:a≠b)(hia:m.Ill.toNat.testBit a=false)(hib:(m.Ill.toNat|||m.Stopped.toNat).testBit b=false):oldB (atV m.Voters b).Heard (say (atV m.Voters a))=true:=by
 have hib':=hib;rw[Nat.testBit_or,Bool.or_eq_false_iff]at hib';have wa:=(qze hN hm.sets).2 ⟨ha,hia⟩;have wb:=(qze hN hm.sets).2 ⟨hb,hib'.1⟩;have hR:=(q4s hN hq (q7a (q1z N m)) m hm).2;have hne:=(hR.stay (by show pot (q77 (q1z N m) m)=pot m;rw[hs])).2 (a,b) (List.mem_flatMap.2 ⟨a,wa,List.mem_map.2 ⟨b,wb,rfl⟩⟩);have hne:(stepM m (sendP a b)).2≠0:=hne;have hl:=hm.len;have hv:=hm.valid hN h1;have hask:mAsk m (sendP a b)=0:=by
  unfold mAsk;rw[if_neg,if_neg,if_neg,if_neg];·have:mGone m (sendP a b)=has (m.Ill.toNat|||m.Stopped.toNat) (b:Int):=rfl;rw[this,q36 (by omega),hib];simp
  .show¬(has _ (a:Int)≠false);rw[q36 (by omega),hia];simp
  .rintro⟨_,h⟩;have h:(b:Int)<0\/(m.Voters.length:Int)<=(b:Int)\/(b:Int)=(a:Int):=h;omega
  .rintro(h|h|h|h|h);·simp_all
   .have h:(2:Int)<1:=h;omega
   .have h:(5:Int)<2:=h;omega
   .have h:(a:Int)<0:=h;omega
   .have h:(m.Voters.length:Int)<=(a:Int):=h;omega
 cases ho:oldB (atV m.Voters b).Heard (say (atV m.Voters a))with|true=>rfl|false=>
  exfalso;apply hne;have A:=hm.mt.all a ha;have B:=hm.mt.all b hb;have hh:=qdz B.valid (q0n.1 A.valid).1.say (by show(atV m.Voters a).Node≠(atV m.Voters b).Node;rw[A.node,B.node];show(a:Int)≠(b:Int);omega) ho;have hc:(mChg m (sendP a b)).2.2=0:=by show(hearV (atV m.Voters ((b:Int)).toNat) (say (atV m.Voters ((a:Int)).toNat))).2=0;rw[tN,tN,hh]
  unfold stepM;simp_all
def c3:Config:=⟨[⟨true,⟨2,[0,1,2],[]⟩⟩,⟨true,⟨2,[0,1,2],[]⟩⟩,⟨true,⟨2,[0,1,2],[]⟩⟩]⟩
def t3:Trust:=⟨2,[0,1,2],[]⟩
def x3:Claim:=⟨0,1⟩
def a0:Voter:=⟨0,1,t3,[],[],[],[]⟩
def b0:Voter:=⟨1,1,t3,[],[],[],[]⟩
def d0:Voter:=⟨2,1,t3,[],[],[],[]⟩
def a1:Voter:=⟨0,2,t3,[x3],[],[],[]⟩
def b1:Voter:=⟨1,2,t3,[x3],[],[],[]⟩
def b2:Voter:=⟨1,3,t3,[x3],[x3],[],[say a1]⟩
def a2:Voter:=⟨0,3,t3,[x3],[x3],[x3],[say b2]⟩
def b3:Voter:=⟨1,3,t3,[x3],[x3],[x3],[say a2]⟩
def p3:List Play:=[⟨1,0,0,x3,noT,noM⟩,⟨1,1,0,x3,noT,noM⟩,⟨2,0,1,⟨0,0⟩,noT,noM⟩,⟨2,1,0,⟨0,0⟩,noT,noM⟩,⟨2,0,1,⟨0,0⟩,noT,noM⟩,⟨2,1,0,⟨0,0⟩,noT,noM⟩]
theorem q8x{b u:Voter}{A C:List Claim}{s:Int}(h1:(q0q u).Accepts=A)(h2:(q0q u).Confirms=C)(hs:(b.Trust=u.Trust/\b.Votes=u.Votes/\b.Accepts=A/\s=u.Seq)\/(¬(b.Trust=u.Trust/\b.Votes=u.Votes/\b.Accepts=A)/\s=u.Seq+1)):turnV b u=⟨u.Node,s,u.Trust,u.Votes,A,C,u.Heard⟩:=by
 obtain⟨g1,g2,g3,g4,g5⟩:=q20 u;have e:q0q u=⟨u.Node,u.Seq,u.Trust,u.Votes,A,C,u.Heard⟩:=by rw[<-g1,<-g2,<-g3,<-g4,<-g5,<-h1,<-h2]
 rw[turnV,e];grind
theorem qkg{m:Meeting}{p:Play}{k:Int}{w:Voter}(ha:mAsk m p=0)(hc:mChg m p=(k,w,0))(h4:p.Kind≠4):stepM m p=(⟨m.Voters.set k.toNat w,m.Stopped,m.Ill⟩,0):=by unfold stepM;simp_all
theorem y1z{v w:Voter}{x:Claim}(h1:q24 v=true)(h2:vcl x=true)(h3:(v.Votes++v.Accepts)=[])(hw:turnV v {v with Votes:=q0o (v.Votes++[x])}=w):voteV v x=(w,0):=by have h5:v.Votes=[]:=(List.append_eq_nil_iff.1 h3).1;unfold voteV;simp_all
theorem ex1:stepM ⟨[a0,b0,d0],0,4⟩ ⟨1,0,0,x3,noT,noM⟩=(⟨[a1,b0,d0],0,4⟩,0):=by have hv:voteV a0 x3=(a1,0):=y1z (by rfl) (by rfl) rfl (q8x (A:=[]) (C:=[]) (s:=2) (by rfl) (by rfl) (.inr ⟨fun h=>by have:=h.2.1;revert this;decide+kernel,rfl⟩));exact qkg (k:=0) (w:=a1) (by rfl) (by show((0:Int),(voteV a0 x3).1,(voteV a0 x3).2)=_;rw[hv]) (by decide)
theorem ex2:stepM ⟨[a1,b0,d0],0,4⟩ ⟨1,1,0,x3,noT,noM⟩=(⟨[a1,b1,d0],0,4⟩,0):=by have hv:voteV b0 x3=(b1,0):=y1z (by rfl) (by rfl) rfl (q8x (A:=[]) (C:=[]) (s:=2) (by rfl) (by rfl) (.inr ⟨fun h=>by have:=h.2.1;revert this;decide+kernel,rfl⟩));exact qkg (k:=1) (w:=b1) (by rfl) (by show((1:Int),(voteV b0 x3).1,(voteV b0 x3).2)=_;rw[hv]) (by decide)
theorem ex3:stepM ⟨[a1,b1,d0],0,4⟩ ⟨2,0,1,⟨0,0⟩,noT,noM⟩=(⟨[a1,b2,d0],0,4⟩,0):=by
 have hv:hearV b1 (say a1)=(b2,0):=by rw[qdz (by rfl) (by rfl) (by decide+kernel) (by rfl),q8x (A:=[x3]) (C:=[]) (s:=3) (by rfl) (by rfl) (.inr ⟨fun h=>by have:=h.2.2;revert this;decide+kernel,rfl⟩)];rfl
 exact qkg (k:=1) (w:=b2) (by rfl) (by show((1:Int),(hearV b1 (say a1)).1,(hearV b1 (say a1)).2)=_;rw[hv]) (by decide)
theorem ex4:stepM ⟨[a1,b2,d0],0,4⟩ ⟨2,1,0,⟨0,0⟩,noT,noM⟩=(⟨[a2,b2,d0],0,4⟩,0):=by
 have hv:hearV a1 (say b2)=(a2,0):=by rw[qdz (by rfl) (by rfl) (by decide+kernel) (by rfl),q8x (A:=[x3]) (C:=[x3]) (s:=3) (by rfl) (by rfl) (.inr ⟨fun h=>by have:=h.2.2;revert this;decide+kernel,rfl⟩)];rfl
 exact qkg (k:=0) (w:=a2) (by rfl) (by show((0:Int),(hearV a1 (say b2)).1,(hearV a1 (say b2)).2)=_;rw[hv]) (by decide)
theorem ex5:stepM ⟨[a2,b2,d0],0,4⟩ ⟨2,0,1,⟨0,0⟩,noT,noM⟩=(⟨[a2,b3,d0],0,4⟩,0):=by
 have hv:hearV b2 (say a2)=(b3,0):=by rw[qdz (by rfl) (by rfl) (by decide+kernel) (by rfl),q8x (b:=b2) (u:={b2 with Heard:=hearL (say a2) b2.Heard}) (A:=[x3]) (C:=[x3]) (s:=3) (by rfl) (by rfl) (.inl ⟨rfl,rfl,rfl,rfl⟩)];rfl
 exact qkg (k:=1) (w:=b3) (by rfl) (by show((1:Int),(hearV b2 (say a2)).1,(hearV b2 (say a2)).2)=_;rw[hv]) (by decide)
theorem ex6:stepM ⟨[a2,b3,d0],0,4⟩ ⟨2,1,0,⟨0,0⟩,noT,noM⟩=(ql0,9):=by rfl
theorem ydl:playM p3 ⟨[a0,b0,d0],0,4⟩=(⟨[a2,b3,d0],0,4⟩,[0,0,0,0,0,9]):=by simp only[p3,playM,ex1,ex2,ex3,ex4,ex5,ex6,if_true];rfl
theorem qun:law20_awake=some true:=by
 have hc:ConfOk 3 c3:=(q29.1 (by decide+kernel)).conf (by decide) (by decide);have hd:∀m∈c3.Members,m.Declared=true:=fun m hm=>by simp[c3]at hm;rw[hm]
 have hr:=y2b (N:=3) (by decide) hc hd (ill:=4) (by decide) (l:=p3) (by decide) (fun p hp=>by simp only[p3,List.mem_cons,List.not_mem_nil,or_false]at hp;rcases hp with rfl|rfl|rfl|rfl|rfl|rfl<;>exact⟨q2t,qkm⟩);have hs:q59 c3=[a0,b0,d0]:=rfl;have he:runM c3 4 p3=(⟨[a2,b3,d0],0,4⟩,[0,0,0,0,0,9]):=by unfold runM;rw[hs];exact ydl
 rw[he]at hr;apply law20_awake_le;have h3:law20_three=some c3:=law20_three_le _ rfl;have hr':z4d c3 4 p3=some (⟨[a2,b3,d0],0,4⟩,[0,0,0,0,0,9],0):=hr;rw[h3,bS];show(z4d c3 4 p3).bind _=_;rw[hr',bS];have q1:z2u [x3] x3=some true:=by rw[qb4 _ (by decide)];rfl
 show((z2u [x3] x3).bind fun r=>bif r then(z2u [x3] x3).bind fun z=>some z else some false)=some true;simp_all
structure Party(n k:Nat)(d:Bool)(c:Config)(ill:Nat)(l:List Play):Prop where
 conf:ConfOk n c
 decl:∀m∈c.Members,m.Declared=true
 ill:ill<2^c.Members.length
 len:l.length=k
 plays:∀p∈l,DrawnP c.Members.length d p
theorem y9f{n k:Nat}(h1:2<=n)(hn:n<=6)(hk:k<1000){d:Bool}{tl:List Int}{i:Int}(h:q0u tl i):∃c ill l j,law20_party (n:Int) (k:Int) d tl i=some (c,((ill:Nat):Int),l,tl,j)/\Party n k d c ill l/\q0u tl j:=by
 obtain⟨c,j0,g0,c1,c2,t0⟩:=yeu h1 (by omega) h;have hle:=c1.le;have hpos:=c1.pos;have hp:=q68 (n:=c.Members.length) (by omega);have hp0:=Nat.two_pow_pos c.Members.length;obtain⟨x1,j1,g1,a1,b1,t1⟩:=N_ok (n:=((2^c.Members.length:Nat):Int)) (by omega) (by omega) t0;obtain⟨x2,j2,g2,m2,t2⟩:=qga (ps:=[0,1,2,x1]) (by simp) (by simp) t1;have hx2:0<=x2/\x2<=2000:=by grind
 have hand:andI .i64 x2 (subI .i64 ((2^c.Members.length:Nat):Int) 1)=((x2.toNat&&&(2^c.Members.length-1):Nat):Int):=by
  have e:subI .i64 ((2^c.Members.length:Nat):Int) 1=((2^c.Members.length-1:Nat):Int):=by rw[q61 (by omega) (by omega)];omega
  rw[e];have:=q3r (a:=x2.toNat) (b:=2^c.Members.length-1) (by omega) (by omega);grind
 obtain⟨l,j3,g3,q1,q2,t3⟩:=y97 (N:=c.Members.length) hpos (by omega) (d:=d) (c:=c) rfl (ill:=((x2.toNat&&&(2^c.Members.length-1):Nat):Int)) hk t2;refine⟨c,x2.toNat&&&(2^c.Members.length-1),l,j3,law20_party_le _ _ _ _ _ _ ?_,⟨c1,c2,?_,q2,q1⟩,t3⟩;·rw[g0,bS];dsimp only;rw[q0g (by omega),q0g (by omega),shlN (by omega),g1,bS];simp_all
 .have:=Nat.and_le_right (n:=x2.toNat) (m:=2^c.Members.length-1);omega
structure Kept(v w:Voter):Prop where
 votes:w.Votes=v.Votes
 tr:w.Trust=v.Trust
 accs:SubC v.Accepts w.Accepts
 confs:SubC v.Confirms w.Confirms
theorem Kept.refl(v:Voter):Kept v v:=⟨rfl,rfl,fun _ h=>h,fun _ h=>h⟩
theorem y57{a b:List Claim}(hb:plainC b=true)(h:SubC a b):q0o (a++b)=b:=by
 refine q8l (q2c _) hb fun x=>?_;rw[q1b,List.mem_append];constructor
 .rintro⟨_,h1|h1⟩;·exact h x h1
  omega
 .exact fun hx=>⟨(q0y.1 hb).1 x hx,.inr hx⟩
theorem quk{m:Meeting}(hl:m.Voters.length<1000000){v:Voter}{k:Nat}(hk:v.Node=(k:Int))(hlt:k<m.Voters.length):z5q m v=some ⟨m.Voters.set k v,m.Stopped,m.Ill⟩:=by apply ykm;rw[q05 (by simp[q06];omega),List.nil_append,hk,q0j (y:=atV m.Voters k) (by omega) (by rw[tN];exact q2b hlt)];simp only[nthN,tN,q2b hlt];rw[<-hk,q0x]
section
variable {m : Meeting} (hl : m.Voters.length < 1000000)
def outR(m:Meeting)(e:Int)(v:Voter):Meeting×Int:=if e≠0 then(ql0,e)else(⟨m.Voters.set v.Node.toNat v,m.Stopped,m.Ill⟩,0)
include hl in
theorem rfin6 {e : Int} {v : Voter} (hv : e = 0 -> 0 <= v.Node /\ v.Node.toNat < m.Voters.length) {k f t c1 c2 t1 : Int} {t2 : List Int} {t3 : List Trust} {n s m1 : Int} {m2 : List Int} {m3 : List Trust} {m4 m5 : List Claim} {o1 : List Voter} {o2 o3 : Int} :
  z13 e m.Voters m.Stopped m.Ill k f t c1 c2 t1 t2 t3 n s m1 m2 m3 m4 m5 o1 o2 o3 v.Node v.Seq v.Trust.Threshold v.Trust.Nodes v.Trust.Inner v.Votes v.Accepts v.Confirms v.Heard = some (outR m e v) := by
 apply yk3;unfold outR;by_cases h0 : e = 0
 .obtain ⟨h1, h2⟩ := hv h0;rw [h0, q0h, cF, if_neg (by simp), q0x];have := quk (m := m) hl (v := v) (k := v.Node.toNat) (by omega) h2;have this' : z5q ⟨m.Voters, m.Stopped, m.Ill⟩ v = _ := this;rw [this']; rfl
 .rw [q0w h0, cT, if_pos h0]; rfl
include hl in
theorem rfin9 {e : Int} {v : Voter} (hv : e = 0 -> 0 <= v.Node /\ v.Node.toNat < m.Voters.length) {k f t c1 c2 t1 : Int} {t2 : List Int} {t3 : List Trust} {n s m1 : Int} {m2 : List Int} {m3 : List Trust} {m4 m5 : List Claim} {o1 : List Voter} {o2 o3 : Int} :
  z1e e m.Voters m.Stopped m.Ill k f t c1 c2 t1 t2 t3 n s m1 m2 m3 m4 m5 o1 o2 o3 v.Node v.Seq v.Trust.Threshold v.Trust.Nodes v.Trust.Inner v.Votes v.Accepts v.Confirms v.Heard = some (outR m e v) := by
 apply yhu;unfold outR;by_cases h0 : e = 0
 .obtain ⟨h1, h2⟩ := hv h0;rw [h0, q0h, cF, if_neg (by simp), q0x];have := quk (m := m) hl (v := v) (k := v.Node.toNat) (by omega) h2;have this' : z5q ⟨m.Voters, m.Stopped, m.Ill⟩ v = _ := this;rw [this']; rfl
 .rw [q0w h0, cT, if_pos h0]; rfl
include hl in
theorem qnt {e : Int} {v : Voter} (hv : e = 0 -> 0 <= v.Node /\ v.Node.toNat < m.Voters.length) {b : Bool} {k f t c1 c2 t1 : Int} {t2 : List Int} {t3 : List Trust} {n s m1 : Int} {m2 : List Int} {m3 : List Trust} {m4 m5 : List Claim} {o1 : List Voter} {o2 o3 : Int} :
  z6p e b m.Voters m.Stopped m.Ill k f t c1 c2 t1 t2 t3 n s m1 m2 m3 m4 m5 o1 o2 o3 v.Node v.Seq v.Trust.Threshold v.Trust.Nodes v.Trust.Inner v.Votes v.Accepts v.Confirms v.Heard = some (outR m e v) := by
 apply yf6;unfold outR;by_cases h0 : e = 0
 .obtain ⟨h1, h2⟩ := hv h0;rw [h0, q0h, cF, if_neg (by simp), q0x];have := quk (m := m) hl (v := v) (k := v.Node.toNat) (by omega) h2;have this' : z5q ⟨m.Voters, m.Stopped, m.Ill⟩ v = _ := this;rw [this']; rfl
 .rw [q0w h0, cT, if_pos h0]; rfl
end
noncomputable def chgR(m:Meeting)(p:Play):Meeting×Int:=if(mChg m p).2.2≠0 then(ql0,(mChg m p).2.2)else(⟨m.Voters.set (mChg m p).1.toNat (mChg m p).2.1,if p.Kind=4 then((m.Stopped.toNat|||2^p.From.toNat:Nat):Int)else m.Stopped,m.Ill⟩,0)
theorem qlf{t:Trust}(ht:Small t):z0s t=some (verr t):=q7j _ ht
theorem q88{v:Voter}(hv:q24 v=true){x:Claim}(h:(voteV v x).2=0):(voteV v x).1.Node=v.Node:=(y4d hv h).1.node
theorem q8e{v:Voter}(hv:q24 v=true){t:Trust}(h:(declV v t).2=0):(declV v t).1.Node=v.Node:=(y5f hv h).1.node
theorem q3e{v:Voter}(hv:q24 v=true){m:Message}(h:(hearV v m).2=0):(hearV v m).1.Node=v.Node:=(y37 hv h).1.node
theorem qh6{t:Trust}{n:Nat}:leB ((2^n:Nat):Int) ((uses t:Nat):Int)=!insB t n:=by rw[q52];unfold insB;grind
theorem rchg3{m:Meeting}(h:SmallMt m){p:Play}(hp:SmallP p)(ha:mAsk m p=0):z85 ((m.Voters.length:Nat):Int) false m.Voters m.Stopped m.Ill p.Kind p.From p.To p.Claim.Topic p.Claim.Value p.Trust.Threshold p.Trust.Nodes p.Trust.Inner p.Message.Node p.Message.Seq p.Message.Trust.Threshold p.Message.Trust.Nodes p.Message.Trust.Inner p.Message.Votes p.Message.Accepts [] 0 0=some (chgR m p):=by
 obtain⟨hv,k1,k2,f1,f2,ht,_,_⟩:=q3h ha;obtain⟨⟨_,h2,_,⟨h5,h6⟩,_⟩,hvs⟩:=q2i.1 hv;have hpw:=q68 h2;have gf:m.Voters[p.From.toNat]?=some (atV m.Voters p.From.toNat):=q2b (by omega);have vf:=q1k.1 hvs p.From.toNat (by omega);have sf:=h.voters _ (List.mem_of_getElem? gf);have nf:(atV m.Voters p.From.toNat).Node=p.From:=by omega
 have ec:Claim.mk p.Claim.Topic p.Claim.Value=p.Claim:=rfl;apply yhd;unfold chgR mChg;by_cases e1:p.Kind=1
 .rw[if_pos e1,e1,q0f,cT,q0j f1 gf,ec,qjg sf,bS];rw[rfin6 h.len (fun e=>by rw[q88 vf.2.1 e,nf];omega)];unfold outR;by_cases e0:(voteV (atV m.Voters p.From.toNat) p.Claim).2=0;·rw[if_neg (by simpa using e0),if_neg (by simpa using e0),q88 vf.2.1 e0,nf];rfl
  grind
 rw[if_neg e1,q0i e1,cF];by_cases e2:p.Kind=2
 .have ht:=ht (by rw[e2];rfl);have gt:m.Voters[p.To.toNat]?=some (atV m.Voters p.To.toNat):=q2b (by omega);have vt:=q1k.1 hvs p.To.toNat (by omega);have st:=h.voters _ (List.mem_of_getElem? gt);have nt:(atV m.Voters p.To.toNat).Node=p.To:=by rw[vt.1];omega
  rw[if_pos e2,e2,q0f,cT,q0j ht.1 gt,q0j f1 gf,qpi,bS,q8z st (q13 (q0n.1 vf.2.1).1.say),bS];rw[rfin6 h.len (fun e=>by rw[q3e vt.2.1 e,nt];omega)];unfold outR;by_cases e0:(hearV (atV m.Voters p.To.toNat) (say (atV m.Voters p.From.toNat))).2=0;·rw[if_neg (by simpa using e0),if_neg (by simpa using e0),q3e vt.2.1 e0,nt];rfl
  grind
 rw[if_neg e2,q0i e2,cF];by_cases e3:p.Kind=3
 .rw[if_pos e3,e3,q0f,cT,Trust.etaM,qlf hp.tr,bS];by_cases z:verr p.Trust=0;·rw[z,q0f,cT,q0g (by omega),q9s _ hp.tr,bS,shlN h2,qh6,if_neg (show¬((0:Int)≠0)by simp)];cases hi:insB p.Trust m.Voters.length with|false=>rw[Bool.not_false,cT,if_pos (show false=false from rfl)];apply y6w;rw[show eqB (5:Int) 0=false from rfl,cF];have:=qnt (m:=m) h.len (e:=5) (v:=q4y) (fun e=>by cases e) (k:=3) (f:=p.From) (t:=p.To) (c1:=p.Claim.Topic) (c2:=p.Claim.Value) (t1:=p.Trust.Threshold) (t2:=p.Trust.Nodes) (t3:=p.Trust.Inner) (n:=p.Message.Node) (s:=p.Message.Seq) (m1:=p.Message.Trust.Threshold) (m2:=p.Message.Trust.Nodes) (m3:=p.Message.Trust.Inner) (m4:=p.Message.Votes) (m5:=p.Message.Accepts) (o1:=[]) (o2:=0) (o3:=0) (b:=false);exact this|true=>
    rw[nT,cF,if_neg (show¬(true=false)by simp)];apply qmq;rw[q0f,cT,q0j f1 gf,Trust.etaM,qjp sf hp.tr,bS];rw[rfin6 h.len (fun e=>by rw[q8e vf.2.1 e,nf];omega)];unfold outR;by_cases e0:(declV (atV m.Voters p.From.toNat) p.Trust).2=0;·rw[if_neg (by simpa using e0),if_neg (by simpa using e0),q8e vf.2.1 e0,nf];rfl
    grind
  .rw[q0i z,cF,if_pos z];apply qmq;rw[q0i z,cF];have:=qnt (m:=m) h.len (e:=verr p.Trust) (v:=q4y) (fun e=>absurd e z) (k:=3) (f:=p.From) (t:=p.To) (c1:=p.Claim.Topic) (c2:=p.Claim.Value) (t1:=p.Trust.Threshold) (t2:=p.Trust.Nodes) (t3:=p.Trust.Inner) (n:=p.Message.Node) (s:=p.Message.Seq) (m1:=p.Message.Trust.Threshold) (m2:=p.Message.Trust.Nodes) (m3:=p.Message.Trust.Inner) (m4:=p.Message.Votes) (m5:=p.Message.Accepts) (o1:=[]) (o2:=0) (o3:=0) (b:=false);have this':=this;unfold outR at this';rw[if_pos z]at this';dsimp only;rw[if_pos z];exact this'
 rw[if_neg e3,q0i e3,cF];by_cases e5:p.Kind=5
 .have ht:=ht (by rw[e5];rfl);have gt:m.Voters[p.To.toNat]?=some (atV m.Voters p.To.toNat):=q2b (by omega);have vt:=q1k.1 hvs p.To.toNat (by omega);have st:=h.voters _ (List.mem_of_getElem? gt);have nt:(atV m.Voters p.To.toNat).Node=p.To:=by omega
  rw[if_pos e5,e5,show eqB (5:Int) 4=false from rfl,cF];have fin9:=fun(e:Int)(he:e≠0)=>rfin9 (m:=m) h.len (e:=e) (v:=q4y) (fun e0=>absurd e0 he) (k:=5) (f:=p.From) (t:=p.To) (c1:=p.Claim.Topic) (c2:=p.Claim.Value) (t1:=p.Trust.Threshold) (t2:=p.Trust.Nodes) (t3:=p.Trust.Inner) (n:=p.Message.Node) (s:=p.Message.Seq) (m1:=p.Message.Trust.Threshold) (m2:=p.Message.Trust.Nodes) (m3:=p.Message.Trust.Inner) (m4:=p.Message.Votes) (m5:=p.Message.Accepts) (o1:=[]) (o2:=0) (o3:=0);by_cases z:p.Message.Node=p.From;·rw[show neB p.Message.Node p.From=false by rw[z];exact q0h _,cF,q8y,qa3 hp.msg,bS,if_neg (show¬(p.Message.Node≠p.From)by omega)];cases hm:msgB p.Message with|false=>rw[Bool.not_false,cT,if_pos (show false=false from rfl)];exact fin9 1 (by decide)|true=>rw[nT,cF,if_neg (show¬(true=false)by simp),q0g (by omega),Trust.etaM,q9s _ hp.msg.tr,bS,shlN h2,qh6];cases hi:insB p.Message.Trust m.Voters.length with|false=>rw[Bool.not_false,cT,if_pos (show false=false from rfl)];exact fin9 5 (by decide)|true=>
     rw[nT,cF,if_neg (show¬(true=false)by simp),q0j ht.1 gt,q8z st hp.msg,bS];rw[rfin6 h.len (fun e=>by rw[q3e vt.2.1 e,nt];omega)];unfold outR;by_cases e0:(hearV (atV m.Voters p.To.toNat) p.Message).2=0;·rw[if_neg (by simpa using e0),if_neg (by simpa using e0),q3e vt.2.1 e0,nt];rfl
     grind
  .rw[q0w z,cT,if_pos z];exact fin9 8 (by decide)
 rw[if_neg e5];have e4:p.Kind=4:=by omega
 have hpf:2^p.From.toNat<=2^10:=Nat.pow_le_pow_right (by decide) (by omega);have ho:orI .i64 m.Stopped ((2^p.From.toNat:Nat):Int)=((m.Stopped.toNat|||2^p.From.toNat:Nat):Int):=by have:=q2y (a:=m.Stopped.toNat) (b:=2^p.From.toNat) (by omega) (by omega);grind
 rw[e4,q0f,cT,q0g f1,shl1 (by omega) (by omega),ho];dsimp only;rw[if_neg (by simp),if_pos rfl,qiw (by omega)]
theorem rchg4{m:Meeting}(h:SmallMt m){p:Play}(hp:SmallP p)(ha:mAsk m p=0):z86 ((m.Voters.length:Nat):Int) false m.Voters m.Stopped m.Ill p.Kind p.From p.To p.Claim.Topic p.Claim.Value p.Trust.Threshold p.Trust.Nodes p.Trust.Inner p.Message.Node p.Message.Seq p.Message.Trust.Threshold p.Message.Trust.Nodes p.Message.Trust.Inner p.Message.Votes p.Message.Accepts [] 0 0=some (chgR m p):=by
 obtain⟨hv,k1,k2,f1,f2,ht,_,_⟩:=q3h ha;obtain⟨⟨_,h2,_,⟨h5,h6⟩,_⟩,hvs⟩:=q2i.1 hv;have hpw:=q68 h2;have gf:m.Voters[p.From.toNat]?=some (atV m.Voters p.From.toNat):=q2b (by omega);have vf:=q1k.1 hvs p.From.toNat (by omega);have sf:=h.voters _ (List.mem_of_getElem? gf);have nf:(atV m.Voters p.From.toNat).Node=p.From:=by omega
 have ec:Claim.mk p.Claim.Topic p.Claim.Value=p.Claim:=rfl;apply ykh;unfold chgR mChg;by_cases e1:p.Kind=1
 .rw[if_pos e1,e1,q0f,cT,q0j f1 gf,ec,qjg sf,bS];rw[rfin6 h.len (fun e=>by rw[q88 vf.2.1 e,nf];omega)];unfold outR;by_cases e0:(voteV (atV m.Voters p.From.toNat) p.Claim).2=0;·rw[if_neg (by simpa using e0),if_neg (by simpa using e0),q88 vf.2.1 e0,nf];rfl
  grind
 rw[if_neg e1,q0i e1,cF];by_cases e2:p.Kind=2
 .have ht:=ht (by rw[e2];rfl);have gt:m.Voters[p.To.toNat]?=some (atV m.Voters p.To.toNat):=q2b (by omega);have vt:=q1k.1 hvs p.To.toNat (by omega);have st:=h.voters _ (List.mem_of_getElem? gt);have nt:(atV m.Voters p.To.toNat).Node=p.To:=by rw[vt.1];omega
  rw[if_pos e2,e2,q0f,cT,q0j ht.1 gt,q0j f1 gf,qpi,bS,q8z st (q13 (q0n.1 vf.2.1).1.say),bS];rw[rfin6 h.len (fun e=>by rw[q3e vt.2.1 e,nt];omega)];unfold outR;by_cases e0:(hearV (atV m.Voters p.To.toNat) (say (atV m.Voters p.From.toNat))).2=0;·rw[if_neg (by simpa using e0),if_neg (by simpa using e0),q3e vt.2.1 e0,nt];rfl
  grind
 rw[if_neg e2,q0i e2,cF];by_cases e3:p.Kind=3
 .rw[if_pos e3,e3,q0f,cT,Trust.etaM,qlf hp.tr,bS];by_cases z:verr p.Trust=0;·rw[z,q0f,cT,q0g (by omega),q9s _ hp.tr,bS,shlN h2,qh6,if_neg (show¬((0:Int)≠0)by simp)];cases hi:insB p.Trust m.Voters.length with|false=>rw[Bool.not_false,cT,if_pos (show false=false from rfl)];apply y6w;rw[show eqB (5:Int) 0=false from rfl,cF];have:=qnt (m:=m) h.len (e:=5) (v:=q4y) (fun e=>by cases e) (k:=3) (f:=p.From) (t:=p.To) (c1:=p.Claim.Topic) (c2:=p.Claim.Value) (t1:=p.Trust.Threshold) (t2:=p.Trust.Nodes) (t3:=p.Trust.Inner) (n:=p.Message.Node) (s:=p.Message.Seq) (m1:=p.Message.Trust.Threshold) (m2:=p.Message.Trust.Nodes) (m3:=p.Message.Trust.Inner) (m4:=p.Message.Votes) (m5:=p.Message.Accepts) (o1:=[]) (o2:=0) (o3:=0) (b:=false);exact this|true=>
    rw[nT,cF,if_neg (show¬(true=false)by simp)];apply qmq;rw[q0f,cT,q0j f1 gf,Trust.etaM,qjp sf hp.tr,bS];rw[rfin6 h.len (fun e=>by rw[q8e vf.2.1 e,nf];omega)];unfold outR;by_cases e0:(declV (atV m.Voters p.From.toNat) p.Trust).2=0;·rw[if_neg (by simpa using e0),if_neg (by simpa using e0),q8e vf.2.1 e0,nf];rfl
    grind
  .rw[q0i z,cF,if_pos z];apply qmq;rw[q0i z,cF];have:=qnt (m:=m) h.len (e:=verr p.Trust) (v:=q4y) (fun e=>absurd e z) (k:=3) (f:=p.From) (t:=p.To) (c1:=p.Claim.Topic) (c2:=p.Claim.Value) (t1:=p.Trust.Threshold) (t2:=p.Trust.Nodes) (t3:=p.Trust.Inner) (n:=p.Message.Node) (s:=p.Message.Seq) (m1:=p.Message.Trust.Threshold) (m2:=p.Message.Trust.Nodes) (m3:=p.Message.Trust.Inner) (m4:=p.Message.Votes) (m5:=p.Message.Accepts) (o1:=[]) (o2:=0) (o3:=0) (b:=false);have this':=this;unfold outR at this';rw[if_pos z]at this';dsimp only;rw[if_pos z];exact this'
 rw[if_neg e3,q0i e3,cF];by_cases e5:p.Kind=5
 .have ht:=ht (by rw[e5];rfl);have gt:m.Voters[p.To.toNat]?=some (atV m.Voters p.To.toNat):=q2b (by omega);have vt:=q1k.1 hvs p.To.toNat (by omega);have st:=h.voters _ (List.mem_of_getElem? gt);have nt:(atV m.Voters p.To.toNat).Node=p.To:=by omega
  rw[if_pos e5,e5,show eqB (5:Int) 4=false from rfl,cF];have fin9:=fun(e:Int)(he:e≠0)=>rfin9 (m:=m) h.len (e:=e) (v:=q4y) (fun e0=>absurd e0 he) (k:=5) (f:=p.From) (t:=p.To) (c1:=p.Claim.Topic) (c2:=p.Claim.Value) (t1:=p.Trust.Threshold) (t2:=p.Trust.Nodes) (t3:=p.Trust.Inner) (n:=p.Message.Node) (s:=p.Message.Seq) (m1:=p.Message.Trust.Threshold) (m2:=p.Message.Trust.Nodes) (m3:=p.Message.Trust.Inner) (m4:=p.Message.Votes) (m5:=p.Message.Accepts) (o1:=[]) (o2:=0) (o3:=0);by_cases z:p.Message.Node=p.From;·rw[show neB p.Message.Node p.From=false by rw[z];exact q0h _,cF,q8y,qa3 hp.msg,bS,if_neg (show¬(p.Message.Node≠p.From)by omega)];cases hm:msgB p.Message with|false=>rw[Bool.not_false,cT,if_pos (show false=false from rfl)];exact fin9 1 (by decide)|true=>rw[nT,cF,if_neg (show¬(true=false)by simp),q0g (by omega),Trust.etaM,q9s _ hp.msg.tr,bS,shlN h2,qh6];cases hi:insB p.Message.Trust m.Voters.length with|false=>rw[Bool.not_false,cT,if_pos (show false=false from rfl)];exact fin9 5 (by decide)|true=>
     rw[nT,cF,if_neg (show¬(true=false)by simp),q0j ht.1 gt,q8z st hp.msg,bS];rw[rfin6 h.len (fun e=>by rw[q3e vt.2.1 e,nt];omega)];unfold outR;by_cases e0:(hearV (atV m.Voters p.To.toNat) p.Message).2=0;·rw[if_neg (by simpa using e0),if_neg (by simpa using e0),q3e vt.2.1 e0,nt];rfl
     grind
  .rw[q0w z,cT,if_pos z];exact fin9 8 (by decide)
 rw[if_neg e5];have e4:p.Kind=4:=by omega
 have hpf:2^p.From.toNat<=2^10:=Nat.pow_le_pow_right (by decide) (by omega);have ho:orI .i64 m.Stopped ((2^p.From.toNat:Nat):Int)=((m.Stopped.toNat|||2^p.From.toNat:Nat):Int):=by have:=q2y (a:=m.Stopped.toNat) (b:=2^p.From.toNat) (by omega) (by omega);grind
 rw[e4,q0f,cT,q0g f1,shl1 (by omega) (by omega),ho];dsimp only;rw[if_neg (by simp),if_pos rfl,qiw (by omega)]
theorem rchg5{m:Meeting}(h:SmallMt m){p:Play}(hp:SmallP p)(ha:mAsk m p=0):z87 ((m.Voters.length:Nat):Int) false m.Voters m.Stopped m.Ill p.Kind p.From p.To p.Claim.Topic p.Claim.Value p.Trust.Threshold p.Trust.Nodes p.Trust.Inner p.Message.Node p.Message.Seq p.Message.Trust.Threshold p.Message.Trust.Nodes p.Message.Trust.Inner p.Message.Votes p.Message.Accepts [] 0 0=some (chgR m p):=by
 obtain⟨hv,k1,k2,f1,f2,ht,_,_⟩:=q3h ha;obtain⟨⟨_,h2,_,⟨h5,h6⟩,_⟩,hvs⟩:=q2i.1 hv;have hpw:=q68 h2;have gf:m.Voters[p.From.toNat]?=some (atV m.Voters p.From.toNat):=q2b (by omega);have vf:=q1k.1 hvs p.From.toNat (by omega);have sf:=h.voters _ (List.mem_of_getElem? gf);have nf:(atV m.Voters p.From.toNat).Node=p.From:=by omega
 have ec:Claim.mk p.Claim.Topic p.Claim.Value=p.Claim:=rfl;apply ygs;unfold chgR mChg;by_cases e1:p.Kind=1
 .rw[if_pos e1,e1,q0f,cT,q0j f1 gf,ec,qjg sf,bS];rw[rfin6 h.len (fun e=>by rw[q88 vf.2.1 e,nf];omega)];unfold outR;by_cases e0:(voteV (atV m.Voters p.From.toNat) p.Claim).2=0;·rw[if_neg (by simpa using e0),if_neg (by simpa using e0),q88 vf.2.1 e0,nf];rfl
  grind
 rw[if_neg e1,q0i e1,cF];by_cases e2:p.Kind=2
 .have ht:=ht (by rw[e2];rfl);have gt:m.Voters[p.To.toNat]?=some (atV m.Voters p.To.toNat):=q2b (by omega);have vt:=q1k.1 hvs p.To.toNat (by omega);have st:=h.voters _ (List.mem_of_getElem? gt);have nt:(atV m.Voters p.To.toNat).Node=p.To:=by rw[vt.1];omega
  rw[if_pos e2,e2,q0f,cT,q0j ht.1 gt,q0j f1 gf,qpi,bS,q8z st (q13 (q0n.1 vf.2.1).1.say),bS];rw[rfin6 h.len (fun e=>by rw[q3e vt.2.1 e,nt];omega)];unfold outR;by_cases e0:(hearV (atV m.Voters p.To.toNat) (say (atV m.Voters p.From.toNat))).2=0;·rw[if_neg (by simpa using e0),if_neg (by simpa using e0),q3e vt.2.1 e0,nt];rfl
  grind
 rw[if_neg e2,q0i e2,cF];by_cases e3:p.Kind=3
 .rw[if_pos e3,e3,q0f,cT,Trust.etaM,qlf hp.tr,bS];by_cases z:verr p.Trust=0;·rw[z,q0f,cT,q0g (by omega),q9s _ hp.tr,bS,shlN h2,qh6,if_neg (show¬((0:Int)≠0)by simp)];cases hi:insB p.Trust m.Voters.length with|false=>rw[Bool.not_false,cT,if_pos (show false=false from rfl)];apply y6w;rw[show eqB (5:Int) 0=false from rfl,cF];have:=qnt (m:=m) h.len (e:=5) (v:=q4y) (fun e=>by cases e) (k:=3) (f:=p.From) (t:=p.To) (c1:=p.Claim.Topic) (c2:=p.Claim.Value) (t1:=p.Trust.Threshold) (t2:=p.Trust.Nodes) (t3:=p.Trust.Inner) (n:=p.Message.Node) (s:=p.Message.Seq) (m1:=p.Message.Trust.Threshold) (m2:=p.Message.Trust.Nodes) (m3:=p.Message.Trust.Inner) (m4:=p.Message.Votes) (m5:=p.Message.Accepts) (o1:=[]) (o2:=0) (o3:=0) (b:=false);exact this|true=>
    rw[nT,cF,if_neg (show¬(true=false)by simp)];apply qmq;rw[q0f,cT,q0j f1 gf,Trust.etaM,qjp sf hp.tr,bS];rw[rfin6 h.len (fun e=>by rw[q8e vf.2.1 e,nf];omega)];unfold outR;by_cases e0:(declV (atV m.Voters p.From.toNat) p.Trust).2=0;·rw[if_neg (by simpa using e0),if_neg (by simpa using e0),q8e vf.2.1 e0,nf];rfl
    grind
  .rw[q0i z,cF,if_pos z];apply qmq;rw[q0i z,cF];have:=qnt (m:=m) h.len (e:=verr p.Trust) (v:=q4y) (fun e=>absurd e z) (k:=3) (f:=p.From) (t:=p.To) (c1:=p.Claim.Topic) (c2:=p.Claim.Value) (t1:=p.Trust.Threshold) (t2:=p.Trust.Nodes) (t3:=p.Trust.Inner) (n:=p.Message.Node) (s:=p.Message.Seq) (m1:=p.Message.Trust.Threshold) (m2:=p.Message.Trust.Nodes) (m3:=p.Message.Trust.Inner) (m4:=p.Message.Votes) (m5:=p.Message.Accepts) (o1:=[]) (o2:=0) (o3:=0) (b:=false);have this':=this;unfold outR at this';rw[if_pos z]at this';dsimp only;rw[if_pos z];exact this'
 rw[if_neg e3,q0i e3,cF];by_cases e5:p.Kind=5
 .have ht:=ht (by rw[e5];rfl);have gt:m.Voters[p.To.toNat]?=some (atV m.Voters p.To.toNat):=q2b (by omega);have vt:=q1k.1 hvs p.To.toNat (by omega);have st:=h.voters _ (List.mem_of_getElem? gt);have nt:(atV m.Voters p.To.toNat).Node=p.To:=by omega
  rw[if_pos e5,e5,show eqB (5:Int) 4=false from rfl,cF];have fin9:=fun(e:Int)(he:e≠0)=>rfin9 (m:=m) h.len (e:=e) (v:=q4y) (fun e0=>absurd e0 he) (k:=5) (f:=p.From) (t:=p.To) (c1:=p.Claim.Topic) (c2:=p.Claim.Value) (t1:=p.Trust.Threshold) (t2:=p.Trust.Nodes) (t3:=p.Trust.Inner) (n:=p.Message.Node) (s:=p.Message.Seq) (m1:=p.Message.Trust.Threshold) (m2:=p.Message.Trust.Nodes) (m3:=p.Message.Trust.Inner) (m4:=p.Message.Votes) (m5:=p.Message.Accepts) (o1:=[]) (o2:=0) (o3:=0);by_cases z:p.Message.Node=p.From;·rw[show neB p.Message.Node p.From=false by rw[z];exact q0h _,cF,q8y,qa3 hp.msg,bS,if_neg (show¬(p.Message.Node≠p.From)by omega)];cases hm:msgB p.Message with|false=>rw[Bool.not_false,cT,if_pos (show false=false from rfl)];exact fin9 1 (by decide)|true=>rw[nT,cF,if_neg (show¬(true=false)by simp),q0g (by omega),Trust.etaM,q9s _ hp.msg.tr,bS,shlN h2,qh6];cases hi:insB p.Message.Trust m.Voters.length with|false=>rw[Bool.not_false,cT,if_pos (show false=false from rfl)];exact fin9 5 (by decide)|true=>
     rw[nT,cF,if_neg (show¬(true=false)by simp),q0j ht.1 gt,q8z st hp.msg,bS];rw[rfin6 h.len (fun e=>by rw[q3e vt.2.1 e,nt];omega)];unfold outR;by_cases e0:(hearV (atV m.Voters p.To.toNat) p.Message).2=0;·rw[if_neg (by simpa using e0),if_neg (by simpa using e0),q3e vt.2.1 e0,nt];rfl
     grind
  .rw[q0w z,cT,if_pos z];exact fin9 8 (by decide)
 rw[if_neg e5];have e4:p.Kind=4:=by omega
 have hpf:2^p.From.toNat<=2^10:=Nat.pow_le_pow_right (by decide) (by omega);have ho:orI .i64 m.Stopped ((2^p.From.toNat:Nat):Int)=((m.Stopped.toNat|||2^p.From.toNat:Nat):Int):=by have:=q2y (a:=m.Stopped.toNat) (b:=2^p.From.toNat) (by omega) (by omega);grind
 rw[e4,q0f,cT,q0g f1,shl1 (by omega) (by omega),ho];dsimp only;rw[if_neg (by simp),if_pos rfl,qiw (by omega)]
theorem ykk{m:Meeting}(h:SmallMt m){p:Play}(hp:SmallP p)(hv:q4f m=true)(k1:¬p.Kind<1)(k2:¬5<p.Kind)(f1:¬p.From<0)(f2:¬(m.Voters.length:Int)<=p.From)(ht:pairK p.Kind=true->0<=p.To/\p.To<(m.Voters.length:Int)/\p.To≠p.From){a7:Bool}(h7:pairK p.Kind=false->has m.Ill.toNat p.From=false->a7=!has m.Stopped.toNat p.From){a9:Bool}(h9:pairK p.Kind=true->a9=!has (m.Ill.toNat|||m.Stopped.toNat) p.To)(h7':pairK p.Kind=false->has m.Ill.toNat p.From=true->a7=false):z4z ((m.Voters.length:Nat):Int) (has m.Ill.toNat p.From) a7 a9 m.Voters m.Stopped m.Ill p.Kind p.From p.To p.Claim.Topic p.Claim.Value p.Trust.Threshold p.Trust.Nodes p.Trust.Inner p.Message.Node p.Message.Seq p.Message.Trust.Threshold p.Message.Trust.Nodes p.Message.Trust.Inner p.Message.Votes p.Message.Accepts [] 0 0=some (stepM m p):=by
 have fin:∀{N:Option (Meeting×Int)},(mAsk m p=0->N=some (chgR m p))->mAsk m p=0->N=some (stepM m p):=fun hN ha=>by rw[hN ha];unfold stepM chgR;simp_all
 have bad:mAsk m p=13->some ((⟨[],0,0⟩:Meeting),(13:Int))=some (stepM m p):=fun ha=>by unfold stepM;rw[if_pos (by omega),ha];rfl
 have base:∀e:Int,(has m.Ill.toNat p.From≠decide (p.Kind=5)->e=13)->(has m.Ill.toNat p.From=decide (p.Kind=5)->e=(if mGone m p=true then 13 else 0))->mAsk m p=e:=fun e g1 g2=>by unfold mAsk;grind
 apply yfc;by_cases e2:p.Kind=2
 .have hk:pairK p.Kind=true:=by rw[e2];rfl
  have hd:decide (p.Kind=5)=false:=by simp_all
  have hg:mGone m p=has (m.Ill.toNat|||m.Stopped.toNat) p.To:=by unfold mGone;simp_all
  rw[show eqB p.Kind 2=true by rw[e2];rfl,cT,h9 hk];cases hi:has m.Ill.toNat p.From with|true=>simp_all|false=>rw[cF];cases hr:has (m.Ill.toNat|||m.Stopped.toNat) p.To with|true=>simp_all|false=>exact fin (fun ha=>rchg3 h hp ha) (base 0 (fun g=>by simp_all) (fun _=>by simp_all))
 rw[q0i e2,cF];by_cases e5:p.Kind=5
 .have hk:pairK p.Kind=true:=by rw[e5];rfl
  have hd:decide (p.Kind=5)=true:=by simp_all
  have hg:mGone m p=has (m.Ill.toNat|||m.Stopped.toNat) p.To:=by unfold mGone;simp_all
  rw[show eqB p.Kind 5=true by rw[e5];rfl,cT,h9 hk];cases hi:has m.Ill.toNat p.From with|false=>simp_all|true=>rw[nT,cF];cases hr:has (m.Ill.toNat|||m.Stopped.toNat) p.To with|true=>simp_all|false=>exact fin (fun ha=>rchg4 h hp ha) (base 0 (fun g=>by simp_all) (fun _=>by simp_all))
 rw[q0i e5,cF];have hk:pairK p.Kind=false:=by unfold pairK;simp_all
 have hd:decide (p.Kind=5)=false:=decide_eq_false e5;have hg:mGone m p=has m.Stopped.toNat p.From:=by unfold mGone;simp_all
 cases hi:has m.Ill.toNat p.From with|true=>simp_all|false=>rw[h7 hk hi];cases hr:has m.Stopped.toNat p.From with|true=>simp_all|false=>exact fin (fun ha=>rchg5 h hp ha) (base 0 (fun g=>by simp_all) (fun _=>by simp_all))
theorem ykw{m:Meeting}(h:SmallMt m){p:Play}(hp:SmallP p)(hv:q4f m=true)(k1:¬p.Kind<1)(k2:¬5<p.Kind)(f1:¬p.From<0)(f2:¬(m.Voters.length:Int)<=p.From)(ht:pairK p.Kind=true->0<=p.To/\p.To<(m.Voters.length:Int)/\p.To≠p.From):z64 ((m.Voters.length:Nat):Int) (pairK p.Kind) false m.Voters m.Stopped m.Ill p.Kind p.From p.To p.Claim.Topic p.Claim.Value p.Trust.Threshold p.Trust.Nodes p.Trust.Inner p.Message.Node p.Message.Seq p.Message.Trust.Threshold p.Message.Trust.Nodes p.Message.Trust.Inner p.Message.Votes p.Message.Accepts [] 0 0=some (stepM m p):=by
 obtain⟨⟨_,l10,⟨h3,h4⟩,⟨h5,h6⟩,_⟩,_⟩:=q2i.1 hv;have hpw:=q68 l10;have e1:z1d m.Ill p.From=some (has m.Ill.toNat p.From):=by have:=q1g (s:=m.Ill.toNat) (by omega) p.From;rw[Int.toNat_of_nonneg h3]at this;exact this
 have e2:z1d m.Stopped p.From=some (has m.Stopped.toNat p.From):=by have:=q1g (s:=m.Stopped.toNat) (by omega) p.From;rw[Int.toNat_of_nonneg h5]at this;exact this
 have e3:z1d (orI .i64 m.Ill m.Stopped) p.To=some (has (m.Ill.toNat|||m.Stopped.toNat) p.To):=by have ho:=q2y (a:=m.Ill.toNat) (b:=m.Stopped.toNat) (by omega) (by omega);rw[Int.toNat_of_nonneg h3,Int.toNat_of_nonneg h5]at ho;rw[ho];exact q1g (Nat.or_lt_two_pow (n:=10) (by omega) (by omega)) p.To
 apply yk7;rw[e1,bS,e2,e3];have go:=fun(a7 a9:Bool)g7 g9 g7'=>ykk h hp hv k1 k2 f1 f2 ht (a7:=a7) g7 (a9:=a9) g9 g7';grind
theorem y92{m:Meeting}(h:SmallMt m){p:Play}(hp:SmallP p):z92 m p=some (stepM m p):=by
 have bad:mAsk m p=1->some ((⟨[],0,0⟩:Meeting),(1:Int))=some (stepM m p):=fun ha=>by unfold stepM;rw[if_pos (by omega),ha];rfl
 have b1:(q4f m=false\/p.Kind<1\/5<p.Kind\/p.From<0\/(m.Voters.length:Int)<=p.From)->mAsk m p=1:=fun g=>by unfold mAsk;simp_all
 have b2:pairK p.Kind=true->(p.To<0\/(m.Voters.length:Int)<=p.To\/p.To=p.From)->mAsk m p=1:=fun g g'=>by unfold mAsk;simp_all
 apply ygm;rw[qvb h,bS];cases hv:q4f m with|false=>simp_all|true=>
  rw[nT];by_cases k1:p.Kind<1;·have:=bad (b1 (.inr (.inl k1)));rw[q03 k1];cases eqB p.Kind 2<;>exact this
  by_cases k2:5<p.Kind;·have:=bad (b1 (.inr (.inr (.inl k2))));rw[q00 (by omega),q03 k2];cases eqB p.Kind 2<;>exact this
  by_cases f1:p.From<0;·have:=bad (b1 (.inr (.inr (.inr (.inl f1)))));rw[q00 (by omega),q00 (by omega),q03 f1];cases eqB p.Kind 2<;>exact this
  by_cases f2:(m.Voters.length:Int)<=p.From;·have:=bad (b1 (.inr (.inr (.inr (.inr f2)))));rw[q00 (by omega),q00 (by omega),q00 (by omega),show leB ((m.Voters.length:Nat):Int) p.From=true by unfold leB;simp_all];cases eqB p.Kind 2<;>exact this
  rw[q00 (by omega),q00 (by omega),q00 (by omega),show leB ((m.Voters.length:Nat):Int) p.From=false by unfold leB;simp_all];simp only[cF];have go:=fun ht=>ykw h hp hv k1 k2 f1 f2 ht
  cases hk:pairK p.Kind with|true=>
   rw[hk]at go;have h25:eqB p.Kind 2=true\/eqB p.Kind 2=false/\eqB p.Kind 5=true:=by
    unfold pairK at hk;rw[dT']at hk;rcases hk with e|e;·left;rw[e];rfl
    .right;rw[e];exact⟨rfl,rfl⟩
   by_cases t1:p.To<0
   .have:=bad (b2 hk (.inl t1));rcases h25 with e|⟨e,e'⟩;·rw[e,q03 t1];grind
    .rw[e,e',q03 t1];grind
   by_cases t2:(m.Voters.length:Int)<=p.To
   .have:=bad (b2 hk (.inr (.inl t2)));have l2:leB ((m.Voters.length:Nat):Int) p.To=true:=by unfold leB;simp;omega
    grind
   have l2:leB ((m.Voters.length:Nat):Int) p.To=false:=by unfold leB;simp_all
   by_cases t3:p.To=p.From
   .have:=bad (b2 hk (.inr (.inr t3)));have l3:eqB p.To p.From=true:=by rw[t3];exact q0f _
    grind
   have:=go (fun _=>⟨by omega,by omega,t3⟩);rcases h25 with e|⟨e,e'⟩;·rw[e,q00 (by omega),l2,q0i t3];grind
   .rw[e,e',q00 (by omega),l2,q0i t3];grind|false=>
   rw[hk]at go;have h2:eqB p.Kind 2=false:=by unfold pairK at hk;rw[decide_eq_false_iff_not]at hk;exact q0i (fun e=>hk (.inl e))
   have h5:eqB p.Kind 5=false:=by unfold pairK at hk;rw[decide_eq_false_iff_not]at hk;exact q0i (fun e=>hk (.inr e))
   simp_all
theorem qrv{N:Nat}(hN:N<=10){c:Config}(hc:ConfOk N c)(hd:∀m∈c.Members,m.Declared=true)(a0:Int)(a10:List Member)(a12:List Voter)(a14 a16 a20 a22:Int):∀(r k:Nat),k+r=c.Members.length->z44 a0 c.Members ((c.Members.length:Nat):Int) (k:Int) a10 a12 a14 a16 ((List.range k).map (qdl c)) a20 a22=some (⟨q59 c,a20,a22⟩,0)
 |0,k,h=>by apply ybj;rw[q00 (by omega),cF,show k=c.Members.length by omega];rfl|r+1,k,h=>by
  have hlt:k<c.Members.length:=by omega
  have hl:=hc.le;have hget:c.Members[k]?=some c.Members[k]:=by simp
  have ht:=tr_at hget;obtain⟨hv,hu⟩:=que hc hd hlt;have hk:inR (k:Int)=true:=by simp[inR];omega
  apply ybj;rw[q03 (by omega),cT,q0j (y:=c.Members[k]) (by omega) (by simp),hd _ (List.getElem_mem hlt),nT,cF,<-ht,y0s _ (q1l hv),(qdb hk hv).1,bS,q0x,q05 (by simp[q06];omega),q02 (by omega)];have:=qrv hN hc hd a0 a10 a12 a14 a16 a20 a22 r (k+1) (by omega);rw[List.range_succ,List.map_append]at this;exact this
theorem qtq{N:Nat}(hN:N<=10){c:Config}(hc:ConfOk N c)(hd:∀m∈c.Members,m.Declared=true){ill:Nat}(hill:ill<2^c.Members.length):z8s c (ill:Int)=some (⟨q59 c,0,(ill:Int)⟩,0):=by have hl:=hc.le;have hp:=hc.pos;have hpw:=q68 (n:=c.Members.length) (by omega);have h0:cerr c=0:=q29.2 (hc.valid hN);apply ykp;rw[q6d (hc.smallC hN),bS,h0,q0h,cF,q0i (by omega),cF,q00 (by omega),cF,q0g (by omega),shlN (by omega),q52,decide_eq_true (by omega)];exact qrv hN hc hd _ _ _ _ _ _ _ c.Members.length 0 (by omega)
theorem qtf{N:Nat}(hN:N<=10)(l:List Play)(hl:l.length<=400)(hp:∀p∈l,SmallP p)(a10:List Member)(a12:List Voter)(a14 a16:Int):∀(suf:List Play)(i q:Nat)(acc:List Int)(m:Meeting),l.drop i=suf->acc.length<=i->GoodMt N q m->q+suf.length<=1000->z5u acc l ((l.length:Nat):Int) (i:Int) a10 a12 a14 a16 m.Voters m.Stopped m.Ill=some ((playM suf m).1,acc++(playM suf m).2,0)
 |[],i,q,acc,m,h,ha,hm,hq=>by apply ycw;rw[q0d h,cF,playM,List.append_nil]|p::suf,i,q,acc,m,h,ha,hm,hq=>by
  have hlt:=q09 h;rw[List.length_cons]at hq;have hps:=hp p (List.mem_of_mem_drop (i:=i) (by simp_all));apply ycw;rw[q07 h,cT,q04 h,show Meeting.mk m.Voters m.Stopped m.Ill=m from rfl,y92 (hm.small hN) hps,bS,q02 (by omega),playM];by_cases h0:(stepM m p).2=0;·have ih:=qtf hN l hl hp a10 a12 a14 a16 suf (i+1) (q+1) (acc++[(stepM m p).2]) (stepM m p).1 (q01 h) (by simp_all) (hm.step hN (by omega) h0) (by omega);simp only[if_pos h0];rw[show eqB (stepM m p).2 0=true by rw[h0];rfl,cT,q05 (by simp[q06];omega),ih];simp
  .have ih:=qtf hN l hl hp a10 a12 a14 a16 suf (i+1) (q+1) (acc++[(stepM m p).2]) m (q01 h) (by simp_all) hm.up (by omega);simp only[if_neg h0];rw[q0i h0,cF,q05 (by simp[q06];omega),ih];simp
theorem ydo{N:Nat}(hN:N<=10){c:Config}(hc:ConfOk N c)(hd:∀m∈c.Members,m.Declared=true){ill:Nat}(hill:ill<2^c.Members.length){l:List Play}(hl:l.length<=400)(hp:∀p∈l,SmallP p):z97 c (ill:Int) l=some ((runM c ill l).1,(runM c ill l).2,0):=by have hle:=hc.le;apply yh2;rw[qtq hN hc hd hill,bS];dsimp only;rw[q0h,cF,q00 (by omega),cF];exact qtf (N:=c.Members.length) (by omega) l hl hp _ _ _ _ l 0 1 [] ⟨q59 c,0,(ill:Int)⟩ rfl (Nat.le_refl _) (qh3 hN hc hd hill) (by omega)
end Go.Proofs.YtdmfjabikomgiaaGreat
namespace Go.Proofs.YtdmfjabikomgiaaGreat
open Go Go.Ab
end Go.Proofs.YtdmfjabikomgiaaGreat
namespace Go.Proofs.YtdmfjabikomgiaaGreat
open Go Go.Ab
noncomputable def tryM(s:Meeting×List Play)(p:Play):Meeting×List Play:=if(stepM s.1 p).2=0 then((stepM s.1 p).1,s.2++[p])else s
noncomputable def tries(s:Meeting×List Play)(l:List Play):Meeting×List Play:=l.foldl tryM s
def GoodT(N z r:Nat)(s:Meeting×List Play):Prop:=s.1.Ill=(z:Int)/\∃q,GoodMt N q s.1/\q+r<=100000/\s.2.length+r<=100000
theorem GoodT.le{N z r r':Nat}{s:Meeting×List Play}(h:GoodT N z r s)(hr:r'<=r):GoodT N z r' s:=by obtain⟨h0,q,h1,h2,h3⟩:=h;exact⟨h0,q,h1,by omega,by omega⟩
theorem GoodT.try{N z r:Nat}(hN:N<=10){s:Meeting×List Play}(h:GoodT N z (r+1) s)(p:Play):GoodT N z r (tryM s p):=by
 unfold tryM;by_cases h0:(stepM s.1 p).2=0
 .rw[if_pos h0];obtain⟨h4,q,h1,h2,h3⟩:=h;refine⟨?_,q+1,h1.step hN (by omega) h0,by omega,?_⟩;·exact(qfp h0 h1.len h1.sets).2.1.trans h4
  .simp only[List.length_append,List.length_cons,List.length_nil];omega
 .rw[if_neg h0];exact h.le (by omega)
theorem GoodT.tries{N z r:Nat}(hN:N<=10):∀(l:List Play){s:Meeting×List Play},GoodT N z (r+l.length) s->GoodT N z r (tries s l)|[],_,h=>h|p::l,_,h=>GoodT.tries hN l (GoodT.try hN (by rw[List.length_cons]at h;exact h.le (by omega)) p)
end Go.Proofs.YtdmfjabikomgiaaGreat
