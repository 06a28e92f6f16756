/- Laws of the printed functions. -/
import Derived.Test.YtglokalgdbegeaaGreatN22SegB
import Derived.Test.YtglokalgdbegeaaGreatN22SegA
namespace Go.Proofs.YtglokalgdbegeaaGreat
open Go Go.Ab Go.Sort
variable {l : List Val} {x : Val}
theorem qky(x:Val):z5g x=some (vvl x):=by
 apply yd6;unfold leB vvl;by_cases h:1<=x.length
 .have:(1:Int)<=((x.length:Nat):Int):=by omega
  simp only[h,this,decide_true,cT,tA'];congr 1;by_cases h2:x.length<=200
  .have:((x.length:Nat):Int)<=200:=by omega
   simp[h2,this]
  .have:¬((x.length:Nat):Int)<=200:=by omega
   simp[h2,this]
 .have:¬(1:Int)<=((x.length:Nat):Int):=by omega
  simp only[h,this,decide_false,cF,Bool.false_and]
theorem y1x(a b:Val):z5d a b=some (if a<b then-1 else if a=b then 0 else 1):=by
 have hn:∀z,z54 z=some false:=fun z=>yde _ _ (by simp[eqS]);apply ydq;rw[hn,hn];simp only[bS,cF,quv,leS];have h1:Op.bytesLess a b=decide (a<b):=quv a b;rw[h1];by_cases h:a<b;·simp[h]
 .by_cases h':a=b;·subst h';simp[qlp]
  .simp[h,h']
theorem qbe(a b:Val):z06 a b=some (cmpv a b):=by
 apply yf0;rw[qdw,y1x];simp only[bS,qvv];congr 1;unfold cmpv ltv;by_cases h1:a.length<b.length
 .have:((a.length:Nat):Int)<((b.length:Nat):Int):=by omega
  simp[h1]
 .by_cases h2:b.length<a.length
  .have hne:a.length≠b.length:=by omega
   have hab:a≠b:=fun e=>hne (by rw[e]);simp[h1,h2,hne,hab]
  .have he:a.length=b.length:=by omega
   simp[he]
theorem qwu(l:List Val)(hl:l.length<1152921504606846976):∀(suf:List Val)(i:Nat)(z:Val),l[i]?=some z->l.drop (i+1)=suf->z29 l l ((l.length:Nat):Int) ((i+1:Nat):Int)=some (plV (some z) suf&&decide (l.length<=40))
 |[],i,z,hz,h=>by
  apply qvl;rw[q0c h,cF];unfold leB plV;congr 1;by_cases h2:l.length<=40
  .have:((l.length:Nat):Int)<=40:=by omega
   simp[h2,this]
  .have:¬((l.length:Nat):Int)<=40:=by omega
   simp[h2,this]|y::suf,i,z,hz,h=>by have hlt:=q09 h;apply qvl;rw[q05 h,cT,q04 h,qky,bS,q03 (by omega),cT,q22 (by omega) (by omega),q0s (y:=z) (by omega) (by rw[show(((i+1:Nat):Int)-1).toNat=i by omega];exact hz),qbe,bS,y05,q01 (by omega),qwu l hl suf (i+1) y (by have:=congrArg (·[0]?) h;simpa using this) (q02 h)];rw[plV];cases vvl y<;>by_cases hc:ltv z y<;>simp[hc]
theorem qde(l:List Val)(hl:l.length<1152921504606846976):z3h l=some (q0x l):=by apply ybc;unfold q0x;cases l with|nil=>apply qvl;simp[ltB,plV,leB]|cons y r=>apply qvl;have h0:ltB 0 (((y::r).length:Nat):Int)=true:=q03 (by rw[List.length_cons];omega);rw[h0,cT,q0s (y:=y) (by omega) rfl,qky,bS,q00 (by omega),cF,show addI .i64 0 1=((0+1:Nat):Int)from rfl,qwu (y::r) hl r 0 y rfl rfl,plV];cases vvl y<;>simp
theorem qvm(l:List Val)(hl:l.length<1152921504606846976)(x:Val):∀(suf:List Val)(i:Nat),l.drop i=suf->∃r:Int,z1k l x ((l.length:Nat):Int) (i:Int)=some r/\leB 0 r=decide (x∈suf)
 |[],i,h=>by refine⟨-1,y08 _ _ _ _ _ ?_,by simp[leB]⟩;rw[q0c h];simp|y::suf,i,h=>by
  have hlt:=q09 h;obtain⟨r,h1,h2⟩:=qvm l hl x suf (i+1) (q02 h);by_cases hx:x=y;·refine⟨i,y08 _ _ _ _ _ ?_,by simp[leB,hx]⟩;rw[q05 h,cT,q04 h];simp[eqS,hx]
  .refine⟨r,y08 _ _ _ _ _ ?_,by rw[h2];simp[hx]⟩;rw[q05 h,cT,q04 h,q01 (by omega),show eqS x y=false by simp[eqS,hx],cF,h1]
theorem qib(l:List Val)(hl:l.length<1152921504606846976)(x:Val):z42 l x=some (decide (x∈l)):=by
 obtain⟨r,h1,h2⟩:=qvm l hl x l 0 rfl;apply yb4;have h3:z2t l x=some r:=yfr _ _ _ h1;have:z2h l x=some (decide (x∈l)):=by apply yab;rw[h3,bS,h2]
 rw[this];rfl
theorem q85(l:List Val)(hl:l.length<1000000):z1f l=some ((),l):=ye8 _ _ (by rw[q07 (by simp[q0a];omega)];rfl)
theorem qkg(l:LN)(hl:l.length<1000000):z1o l=some ((),l):=ybn _ _ (by rw[q07 (by simp[q0a];omega)];rfl)
def posV(x:Val):List Val->Nat|[]=>0|y::r=>if ltv y x then posV x r+1 else 0
theorem qnl(x:Val):∀l:List Val,posV x l<=l.length
 |[]=>Nat.le_refl _|y::r=>by
  rw[posV];split;·simp;exact qnl x r
  .simp
theorem qfo{x:Val}:∀{l:List Val},Asc l->∀(i:Nat)(y:Val),l[i]?=some y->(ltv y x↔i<posV x l)|[],_,i,y,h=>by simp at h|z::r,hp,i,y,h=>by have hp:=List.pairwise_cons.1 hp;rw[posV];cases i with|zero=>simp at h;subst h;split<;>simp_all|succ i=>
   have h':r[i]?=some y:=by simpa using h
   have hzy:=hp.1 y (List.mem_of_getElem? h');split;·rw[qfo hp.2 i y h'];omega
   .rename_i hz;constructor;·intro g;exact absurd (q4i hzy g) hz
    .intro g;omega
theorem qw6(h:Asc l):x∈l↔∃y,l[posV x l]?=some y/\y=x:=by
 constructor
 .intro hx;obtain⟨i,hi⟩:=List.getElem?_of_mem hx;have h1:=qfo (x:=x) h i x hi;have hge:posV x l<=i:=by have:¬i<posV x l:=fun e=>q2e x (h1.2 e);omega
  have hil:i<l.length:=(List.getElem?_eq_some_iff.1 hi).1;have hpl:posV x l<l.length:=by omega
  refine⟨l[posV x l],List.getElem?_eq_getElem hpl,?_⟩;have h2:=qfo (x:=x) h _ l[posV x l] (List.getElem?_eq_getElem hpl);have h3:¬ltv l[posV x l] x:=fun e=>by have:=h2.1 e;omega
  by_cases e:posV x l=i;·rw[<-e]at hi;rw[List.getElem?_eq_getElem hpl]at hi;exact Option.some.inj hi
  .have:=List.pairwise_iff_getElem.1 h _ _ hpl hil (by omega);have hxe:l[i]=x:=(List.getElem?_eq_some_iff.1 hi).2;rw[hxe]at this;exact absurd this h3
 .rintro⟨y,hy,rfl⟩;exact List.mem_of_getElem? hy
theorem qzo:∀i:Fin 41,∀j:Fin 41,IntKind.wrap .i64 (shrI .u64 (IntKind.wrap .u64 (addI .i64 ((i.val:Nat):Int) ((j.val:Nat):Int))) 1)=(((i.val+j.val)/2:Nat):Int):=by decide+kernel
theorem qua{l:List Val}(hl:l.length<=40)(hp:Asc l)(x:Val):∀(n i j:Nat),j-i<=n->i<=posV x l->posV x l<=j->j<=l.length->z0d l x ((l.length:Nat):Int) (i:Int) (j:Int)=some (((posV x l:Nat):Int),decide (x∈l))
 |n,i,j,hn,hi,hj,hjl=>by
  apply ybd;by_cases hij:i<j
  .obtain⟨n,rfl⟩:∃m,n=m+1:=⟨n-1,by omega⟩;have hmid:=qzo ⟨i,by omega⟩ ⟨j,by omega⟩;dsimp only at hmid;have hml:(i+j)/2<l.length:=by omega
   have hg:l[(i+j)/2]?=some l[(i+j)/2]:=by simp[hml]
   have hpl:=qfo (x:=x) hp _ _ hg;rw[q03 (by omega),cT,hmid,q0s (by omega) (by rw[tN];exact hg),qbe,bS,qjr];by_cases h1:ltv l[(i+j)/2] x;·rw[decide_eq_true h1,cT,q01 (by omega)];exact qua hl hp x n ((i+j)/2+1) j (by omega) (by have:=hpl.1 h1;omega) hj hjl
   .rw[decide_eq_false h1,cF];exact qua hl hp x n i ((i+j)/2) (by omega) hi (by have:¬(i+j)/2<posV x l:=fun h=>h1 (hpl.2 h);omega) (by omega)
  .have hij':i=posV x l:=by omega
   subst hij';rw[q00 (by omega),cF];by_cases he:posV x l<l.length
   .have hg:l[posV x l]?=some l[posV x l]:=List.getElem?_eq_getElem he;rw[q03 (by omega),cT,q0s (by omega) (by rw[tN];exact hg),qbe,bS,y9z];have:(l[posV x l]=x)↔x∈l:=by rw[qw6 hp,hg];simp
    rw[decide_eq_decide.2 this]
   .rw[q00 (by omega),cF];have:x∉l:=fun e=>by obtain⟨y,hy,_⟩:=(qw6 hp).1 e;rw[List.getElem?_eq_none (by omega)]at hy;cases hy
    rw[decide_eq_false this]
def encV(x:Val):D:=.v (.string ⟨⟨x⟩⟩)
theorem y0m(l:List Val):(l.map encV).all (q7c 1)=true:=by rw[List.all_eq_true];intro x hx;obtain⟨y,_,rfl⟩:=List.mem_map.1 hx;rfl
theorem qt1(l:List Val)(hl:l.length<1000000)(m:Val)(i:Nat)(hi:i<=l.length):z6q (i:Int) [m] l=some (l.take i++m::l.drop i,()):=by
 refine qjn (T:=tn) (m:=q35 1) sigOk (by kernel_rfl) rfl ?_;show libA (q35 1) [.ref 0,.d (.v (.int .i64 i)),.d (.list [encV m])] [[.own (l.map encV) false]]=some (.d (.list ((l.take i++m::l.drop i).map encV)),[[.undef]]);unfold libA q35;have h1:(i:Int)<=((l.map encV).length:Int):=by simp;omega
 have h2:(l.map encV).length<q0a:=by simp[q0a];omega
 have h3:q7c 1 (encV m)=true:=rfl;simp only[Int.natCast_nonneg,h1,h2,h3,y0m,and_self,if_true,tN];simp only[List.map_append,List.map_cons,List.map_take,List.map_drop];rfl
theorem qia(hl:q0x l=true):z4l l x=some (putV l x):=by
 obtain⟨_,ha,hlen⟩:=q0l.1 hl;apply ycd;have h1:z0z l x=some (((posV x l:Nat):Int),decide (x∈l)):=ydk _ _ _ (qua hlen ha x l.length 0 l.length (by omega) (by omega) (qnl x l) (Nat.le_refl _));rw[h1,bS];unfold putV;by_cases hx:x∈l;·simp[hx]
 .simp only[hx,decide_false,cF,false_or];by_cases h40:40<=l.length;·rw[if_pos h40,show leB 40 ((l.length:Nat):Int)=true by unfold leB;simp;omega,cT]
  .rw[if_neg h40,show leB 40 ((l.length:Nat):Int)=false by unfold leB;simp;omega,cF,q85 l (by omega),bS];dsimp only;rw[qt1 l (by omega) x _ (qnl x l),bS];congr 1;refine(y1z ha (qnl x l) (fun y hy=>?_) (fun y hy=>?_)).symm
   .obtain⟨i,hi⟩:=List.getElem?_of_mem hy;rw[List.getElem?_take]at hi;split at hi;·exact(qfo ha i y hi).2 (by assumption)
    .cases hi
   .obtain⟨i,hi⟩:=List.getElem?_of_mem hy;rw[List.getElem?_drop]at hi;refine q8r (fun e=>hx (by rw[e];exact List.mem_of_getElem? hi)) fun g=>?_;have:=(qfo ha _ y hi).1 g;omega
theorem y4o(a b:Val)(h:encV a=encV b):a=b:=by cases h;rfl
theorem qpn(l:List Val)(hl:l.length<1000000):z6l l=some (q0g l,()):=by
 refine qjn (T:=tn) (m:=q4t) sigOk (by kernel_rfl) rfl ?_;show libA q4t [.ref 0] [[.own (l.map encV) false]]=some (.d (.list ((q0g l).map encV)),[[.undef]]);have h1:(l.map encV).length<=q0a:=by simp[q0a];omega
 have key:q4t [.ref 0] [[.own (l.map encV) false]]=some (.d (.list (q0g (l.map encV))),[[.undef]]):=by show(if _/\_ then _ else _)=_;rw[if_pos ⟨by rw[List.all_eq_true];intro x hx;obtain⟨y,_,rfl⟩:=List.mem_map.1 hx;rfl,h1⟩]
 unfold libA;rw[key,qaq (fun a b h=>y4o a b h) l];rfl
theorem q70{x:Val}:∀{l:List Val},x∈q0g l↔x∈l
 |[]=>Iff.rfl|[y]=>Iff.rfl|y::z::r=>by
  rw[q1m];split;·rename_i e;subst e;rw[q70 (l:=y::r)];simp
  .simp only[List.mem_cons,q70 (l:=z::r)]
theorem qal:∀{l:List Val},l.Pairwise (fun x y=>¬ltv y x)->Asc (q0g l)
 |[],_=>List.Pairwise.nil|[y],_=>by simp[q0g]|y::z::r,h=>by
  rw[List.pairwise_cons]at h;rw[q1m];split;·exact qal h.2
  .rename_i e;refine List.pairwise_cons.2 ⟨fun u hu=>?_,qal h.2⟩;have hyz:=q8r e (h.1 z (by simp));rcases List.mem_cons.1 (q70.1 hu)with rfl|hu;·exact hyz
   .by_cases e2:z=u;·subst e2;exact hyz
    .exact q4i hyz (q8r e2 ((List.pairwise_cons.1 h.2).1 u hu))
theorem swoV:SWO (fun x y=>ltB (cmpv x y) 0):=by
 refine⟨fun x=>?_,fun x y z h h'=>?_,fun x y z h h'=>?_⟩<;>simp only[qjr,dT,decide_eq_false_iff_not]at*;·exact q2e x
 .exact q4i h h'
 .intro g;by_cases e:x=y;·subst e;exact h' g
  .by_cases e2:y=z;·subst e2;exact h g
   .exact qdr (q4i (q8r (fun e'=>e2 e'.symm) h') (q8r (fun e'=>e e'.symm) h)) g
theorem qvj(l:LN)(hl:l.length<=11)(hm:∀m∈l,nomB m=true):∀(suf:LN)(i:Nat)(acc:List Val),i<=l.length->l.drop i=suf->acc.length<=80*i->z47 acc l ((l.length:Nat):Int) (i:Int)=some (setV (acc++q3f suf))|[],i,acc,hi,h,ha=>by apply y8g;rw[q0c h,cF];obtain⟨ys,h3,h4,h5⟩:=y8j qbe swoV acc (by omega);rw[h3,bS,qpn ys (by rw[h4.length_eq];omega)];show some (q0g ys)=_;congr 1;refine qeu (qal (h5.imp fun h=>by simpa[qjr]using h)) fun x=>?_;rw[q70,h4.mem_iff];simp[q3f]|y::suf,i,acc,hi,h,ha=>by have hlt:=q09 h;have hy:=hm y (List.mem_of_mem_drop (i:=i) (by rw[h];simp));obtain⟨_,_,_,hv1,hv2⟩:=q1s.1 hy;have hv1:=(q0l.1 hv1).2.2;have hv2:=(q0l.1 hv2).2.2;apply y8g;rw[q05 h,cT,q04 h,q07 (by simp[q0a];omega),q07 (by simp[q0a];omega),q01 (by omega),qvj l hl hm suf (i+1) _ (by omega) (q02 h) (by simp;omega)];simp[q3f]
theorem qv4{l:LN}(hl:l.length<=11)(hm:∀m∈l,nomB m=true):z5e l=some (setV (q3f l)):=ye6 _ _ (qvj l hl hm l 0 [] (by omega) rfl (by simp))
end Go.Proofs.YtglokalgdbegeaaGreat
namespace Go.Proofs.YtglokalgdbegeaaGreat
open Go Go.Ab
mutual
def wgt (k : Int) : Trust -> Option (Int × Int)
 | ⟨t, ns, is⟩ => if ns.contains k then some (t, ((ns.length + is.length : Nat) : Int)) else (wgts k is).map fun p => (t * p.1, ((ns.length + is.length : Nat) : Int) * p.2)
def wgts (k : Int) : LT -> Option (Int × Int)
 | [] => none
 | x :: r => match wgt k x with
  | some p => some p
  | none => wgts k r
end
theorem qw8(k:Int)(t:Trust):wgt k t=if t.Nodes.contains k then some (t.Threshold,((t.Nodes.length+t.Inner.length:Nat):Int))else(wgts k t.Inner).map fun p=>(t.Threshold*p.1,((t.Nodes.length+t.Inner.length:Nat):Int)*p.2):=by cases t;simp only[wgt]
theorem qw4{k:Int}{p:Int×Int}:∀{l:LT},wgts k l=some p->∃x∈l,wgt k x=some p|[],h=>by simp[wgts]at h|x::r,h=>by rw[wgts]at h;cases hx:wgt k x with|some q=>rw[hx]at h;exact⟨x,by simp,by rw[hx];exact h⟩|none=>rw[hx]at h;obtain⟨y,h1,h2⟩:=qw4 h;exact⟨y,by simp[h1],h2⟩
theorem qg7:∀{l:LT}{x:Trust},goods l=true->x∈l->good x=true
 |[],x,_,h=>by simp at h|y::r,x,h,hx=>by
  rw[goods,aT]at h;rcases List.mem_cons.1 hx with e|hx;·rw[e];exact h.1
  .exact qg7 h.2 hx
theorem qco:∀{l:LT}{x:Trust},x∈l->depth x<=q3g l
 |[],x,h=>by simp at h|y::r,x,h=>by
  rw[q3g];rcases List.mem_cons.1 h with e|h;·rw[e];omega
  .have:=qco h;omega
theorem qqn(k:Int):∀(t:Trust),good t=true->size t<=200->∀p,wgt k t=some p->1<=p.1/\p.1<=p.2/\p.2<=((200^depth t:Nat):Int):=by
 apply Trust.ind;intro t ih hg hs p hp;rw[qkc]at hg;simp only[aT,dT]at hg;obtain⟨g1,g2,_,_,g5⟩:=hg;have hsz:=hs;rw[q1q]at hsz;rw[qw8]at hp;rw[qeg];split at hp
 .cases hp;refine⟨g1,g2,?_⟩;have h1:1<=200^q3g t.Inner:=Nat.one_le_pow _ _ (by decide);have h2:200^(q3g t.Inner+1)=200^q3g t.Inner*200:=Nat.pow_succ ..;show((t.Nodes.length+t.Inner.length:Nat):Int)<=_;rw[h2];have:t.Nodes.length+t.Inner.length<=200^q3g t.Inner*200:=by omega
  exact Int.ofNat_le.2 this
 .cases hw:wgts k t.Inner with|none=>rw[hw]at hp;cases hp|some q=>
   rw[hw]at hp;cases hp;obtain⟨x,hx,hxw⟩:=qw4 hw;have hsx:=qei hx;obtain⟨a1,a2,a3⟩:=ih x hx (qg7 g5 hx) (by omega) q hxw;have hdx:=qco hx;have hpow:200^depth x<=200^q3g t.Inner:=Nat.pow_le_pow_right (by decide) hdx;have a4:q.2<=((200^q3g t.Inner:Nat):Int):=Int.le_trans a3 (Int.ofNat_le.2 hpow);generalize hn:t.Nodes.length+t.Inner.length=n at*;have hn200:(n:Int)<=200:=by omega
   refine⟨?_,?_,?_⟩;·show 1<=t.Threshold*q.1;have:=Int.mul_le_mul g1 a1 (by omega) (by omega:(0:Int)<=t.Threshold);omega
   .show t.Threshold*q.1<=(n:Int)*q.2;exact Int.mul_le_mul g2 a2 (by omega) (by omega)
   .show(n:Int)*q.2<=_;have:=Int.mul_le_mul hn200 a4 (by omega) (by omega:(0:Int)<=200);rw[Nat.pow_succ,Nat.mul_comm];rw[Int.natCast_mul];exact this
theorem qq6{k:Int}{t:Trust}(h:valid t=true){p:Int×Int}(hp:wgt k t=some p):1<=p.1/\p.1<=p.2/\p.2<=1600000000:=by
 simp only[valid,aT,dT]at h;obtain⟨a,b,c⟩:=qqn k t h.2.2 h.2.1 p hp;refine⟨a,b,Int.le_trans c ?_⟩;have:200^depth t<=200^4:=Nat.pow_le_pow_right (by decide) h.1;have h4:200^4=1600000000:=by decide
 rw[h4]at this;omega
variable {t x : Trust} {k round rounds slot v : Int}
theorem qz9(k s r n:Int):∃h,z4y k s r n=some h/\0<=h/\h<4294967296:=by
 have rng:∀z:Int,0<=IntKind.wrap .u32 z/\IntKind.wrap .u32 z<4294967296:=fun z=>by
  have:IntKind.wrap .u32 z=z%4294967296:=by show(if(false&&decide (z%4294967296≥2147483648))=true then z%4294967296-4294967296 else z%4294967296)=_;simp
  rw[this];omega
 exact⟨_,y8f _ _ _ _ _ rfl,(rng _).1,(rng _).2⟩
noncomputable def hsh(k s r n:Int):Int:=(z4y k s r n).getD 0
theorem qi1(k s r n:Int):z4y k s r n=some (hsh k s r n):=by obtain⟨h,h1,_⟩:=qz9 k s r n;rw[hsh,h1];rfl
theorem qe4(k s r n:Int):0<=hsh k s r n/\hsh k s r n<4294967296:=by obtain⟨h,h1,h2⟩:=qz9 k s r n;rw[hsh,h1];exact h2
theorem qoa(k s r n:Int):z7b k s r n=some (hsh k s r n):=by refine yfn _ _ _ _ _ ?_;rw[<-qi1];exact(y8f _ _ _ _ _ rfl).symm
theorem y2q(l:LI)(hl:l.length<1152921504606846976)(x:Int):∀(suf:LI)(i:Nat),l.drop i=suf->∃r:Int,z1v l x ((l.length:Nat):Int) (i:Int)=some r/\leB 0 r=suf.contains x
 |[],i,h=>by refine⟨-1,qyy _ _ _ _ _ ?_,by simp[leB]⟩;rw[q0c h];simp|y::suf,i,h=>by
  have hlt:=q09 h;obtain⟨r,h1,h2⟩:=y2q l hl x suf (i+1) (q02 h);by_cases hx:x=y;·refine⟨i,qyy _ _ _ _ _ ?_,by simp[leB,hx]⟩;rw[q05 h,cT,q04 h];simp[eqB,hx]
  .refine⟨r,qyy _ _ _ _ _ ?_,by rw[h2];simp[hx]⟩;rw[q05 h,cT,q04 h,q01 (by omega),q0h hx,cF,h1]
theorem y3p(l:LI)(hl:l.length<1152921504606846976)(x:Int):z37 l x=some (l.contains x):=by obtain⟨r,h1,h2⟩:=y2q l hl x l 0 rfl;apply yaw;have h3:z45 l x=some r:=yax _ _ _ h1;rw[h3,bS,h2]
def wFrac:Option (Int×Int)->Frac×Bool|some p=>(⟨p.1,p.2⟩,true)|none=>(⟨0,0⟩,false)
theorem qpe(k:Int)(x:Trust)(r:LT):wgts k (x::r)=match wgt k x with|some p=>some p|none=>wgts k r:=by rw[wgts];first|done|(cases wgt k x<;>rfl)
structure WOk(t:Trust):Prop where
 gd:good t=true
 sz:size t<=200
 dp:depth t<=4
theorem WOk.mem(h:WOk t)(hx:x∈t.Inner):WOk x/\depth x+1<=4/\t.Nodes.length+t.Inner.length<=200/\1<=t.Threshold/\t.Threshold<=200:=by obtain⟨h1,h2,h3⟩:=h;have hsx:=qei hx;have hdx:=qco hx;have h1':=h1;rw[qkc]at h1';simp only[aT,dT]at h1';obtain⟨g1,g2,_,_,g5⟩:=h1';have hsz:=h2;rw[q1q]at hsz;rw[qeg]at h3;exact⟨⟨qg7 g5 hx,by omega,by omega⟩,by omega,by omega,g1,by omega⟩
theorem WOk.range(h:WOk t){p:Int×Int}(hp:wgt k t=some p):1<=p.1/\p.1<=p.2/\p.2<=((200^depth t:Nat):Int):=qqn k t h.gd h.sz p hp
theorem WOk.prod(h:WOk t)(hx:x∈t.Inner){p:Int×Int}(hp:wgt k x=some p):mulI .i64 t.Threshold p.1=t.Threshold*p.1/\mulI .i64 ((t.Nodes.length+t.Inner.length:Nat):Int) p.2=((t.Nodes.length+t.Inner.length:Nat):Int)*p.2:=by
 obtain⟨hw,hd,hn,ht1,ht2⟩:=h.mem hx;obtain⟨r1,r2,r3⟩:=hw.range hp;have hpow:200^depth x<=200^3:=Nat.pow_le_pow_right (by decide) (by omega);have h3:(200:Nat)^3=8000000:=by decide
 generalize 200^depth x=D at*;generalize t.Nodes.length+t.Inner.length=n at*;have b1:t.Threshold*p.1<=200*8000000:=Int.mul_le_mul ht2 (by omega) (by omega) (by omega);have b2:(n:Int)*p.2<=200*8000000:=Int.mul_le_mul (by omega) (by omega) (by omega) (by omega);have b3:0<=t.Threshold*p.1:=Int.mul_nonneg (by omega) (by omega);have b4:0<=(n:Int)*p.2:=Int.mul_nonneg (by omega) (by omega);exact⟨wrap64 (by omega) (by omega),wrap64 (by omega) (by omega)⟩
theorem ya1(k:Int):∀t:Trust,WOk t->z6h t k=some (wFrac (wgt k t)):=by apply Trust.ind;intro t ih h;have hsz:=h.sz;rw[q1q]at hsz;apply yeq;rw[y3p _ (by omega),bS,q20 (by omega) (by omega),qw8];cases hc:t.Nodes.contains k with|true=>simp[wFrac]|false=>
  rw[cF];have l1:∀(suf:LT)(i:Nat),t.Inner.drop i=suf->z48 k t.Inner ((t.Inner.length:Nat):Int) (i:Int) t.Threshold t.Nodes t.Inner 0 0 t.Threshold ((t.Nodes.length:Int)+(t.Inner.length:Int))=some (wFrac ((wgts k suf).map fun p=>(t.Threshold*p.1,((t.Nodes.length+t.Inner.length:Nat):Int)*p.2))):=by intro suf;induction suf with|nil=>intro i h';apply y8c;rw[q0c h'];simp[wgts,wFrac]|cons y suf ihs=>intro i h';have hlt:=q09 h';have hy:y∈t.Inner:=List.mem_of_mem_drop (i:=i) (by rw[h'];simp);apply y8c;rw[q05 h',cT,q04 h',ih y hy (h.mem hy).1,bS,qpe];cases hw:wgt k y with
    |some p=>
     obtain⟨p1,p2⟩:=h.prod hy hw;have e:((t.Nodes.length:Int)+(t.Inner.length:Int))=((t.Nodes.length+t.Inner.length:Nat):Int):=by omega
     rw[e];simp only[wFrac,cT];rw[p1,p2];rfl|none=>simp only[wFrac,cF];rw[q01 (by omega)];exact ihs (i+1) (q02 h')
  exact(l1 t.Inner 0 rfl).trans (by simp)
theorem y9g(k:Int):∀t:Trust,WOk t->z75 t k=some (wFrac (wgt k t)):=by
 apply Trust.ind;intro t ih h;have hsz:=h.sz;rw[q1q]at hsz;apply ydh;rw[q20 (by omega) (by omega),qw8];have e:((t.Nodes.length:Int)+(t.Inner.length:Int))=((t.Nodes.length+t.Inner.length:Nat):Int):=by omega
 rw[e];have l2:∀(suf:LT)(i:Nat),t.Inner.drop i=suf->z52 k ((t.Nodes.length+t.Inner.length:Nat):Int) t.Inner ((t.Inner.length:Nat):Int) (i:Int) t.Threshold t.Nodes t.Inner 0 0=some (wFrac ((wgts k suf).map fun p=>(t.Threshold*p.1,((t.Nodes.length+t.Inner.length:Nat):Int)*p.2))):=by intro suf;induction suf with|nil=>intro i h';apply y6j;rw[q0c h'];simp[wgts,wFrac]|cons y suf ihs=>intro i h';have hlt:=q09 h';have hy:y∈t.Inner:=List.mem_of_mem_drop (i:=i) (by rw[h'];simp);apply y6j;rw[q05 h',cT,q04 h',ih y hy (h.mem hy).1,bS,qpe];cases hw:wgt k y with|some p=>obtain⟨p1,p2⟩:=h.prod hy hw;simp only[wFrac,cT];rw[p1,p2];rfl|none=>simp only[wFrac,cF];rw[q01 (by omega)];exact ihs (i+1) (q02 h')
 have l1:∀(suf:LI)(i:Nat),t.Nodes.drop i=suf->z4z k ((t.Nodes.length+t.Inner.length:Nat):Int) t.Nodes ((t.Nodes.length:Nat):Int) (i:Int) t.Threshold t.Nodes t.Inner 0 0=some (wFrac (if suf.contains k then some (t.Threshold,((t.Nodes.length+t.Inner.length:Nat):Int))else(wgts k t.Inner).map fun p=>(t.Threshold*p.1,((t.Nodes.length+t.Inner.length:Nat):Int)*p.2))):=by intro suf;induction suf with|nil=>intro i h';apply y7d;rw[q0c h',cF];exact(l2 t.Inner 0 rfl).trans (by simp)|cons y suf ihs=>
   intro i h';have hlt:=q09 h';apply y7d;rw[q05 h',cT,q04 h'];by_cases hy:y=k;·subst hy;rw[q0m];simp[wFrac]
   .rw[q0h hy,cF,q01 (by omega),ihs (i+1) (q02 h')];have:k≠y:=fun e=>hy e.symm;simp[this]
 exact l1 t.Nodes 0 rfl
theorem WOk.of(h:valid t=true):WOk t:=by simp only[valid,aT,dT]at h;exact⟨h.2.2,h.2.1,h.1⟩
noncomputable def nghB(t:Trust)(v slot round k:Int):Bool:=decide (k=v)||match wgt k t with|some p=>decide (hsh 1 slot round k*p.2<p.1*4294967296)|none=>false
theorem qs1{n:Int}(h0:0<=n)(h:n<18446744073709551616):IntKind.wrap .u64 n=n:=by show(if(false&&decide (n%18446744073709551616≥9223372036854775808))=true then n%18446744073709551616-18446744073709551616 else n%18446744073709551616)=_;simp only[Bool.false_and,fT,if_false];exact Int.emod_eq_of_lt h0 h
theorem qpk(h:valid t=true){p:Int×Int}(hp:wgt k t=some p)(s r n:Int):0<=hsh 1 s r n*p.2/\hsh 1 s r n*p.2<9223372036854775808/\0<=p.1/\p.1*4294967296<9223372036854775808:=by obtain⟨a1,a2,a3⟩:=qq6 h hp;obtain⟨b1,b2⟩:=qe4 1 s r n;have:=Int.mul_le_mul (show hsh 1 s r n<=4294967296 by omega) a3 (by omega) (by omega:(0:Int)<=4294967296);exact⟨Int.mul_nonneg b1 (by omega),by omega,by omega,by omega⟩
theorem qsa(h:valid t=true)(v slot round k:Int):z6a t v slot round k=some (nghB t v slot round k):=by
 apply ye1;unfold nghB;by_cases e:k=v;·subst e;rw[q0m];simp
 .rw[q0h e,cF,ya1 k t (WOk.of h),bS];cases hw:wgt k t with|none=>simp[wFrac,e]|some p=>
   obtain⟨c1,c2,c3,c4⟩:=qpk h hw slot round k;obtain⟨a1,a2,a3⟩:=qq6 h hw;obtain⟨b1,b2⟩:=qe4 1 slot round k;simp only[wFrac,cT,qi1,bS];rw[qs1 b1 (by omega),qs1 (n:=p.2) (by omega) (by omega),qs1 (n:=p.1) c3 (by omega)];have e1:mulI .u64 (hsh 1 slot round k) p.2=hsh 1 slot round k*p.2:=qs1 c1 (by omega);have e2:shlI .u64 p.1 32=p.1*4294967296:=by show IntKind.wrap .u64 (p.1*4294967296)=_;exact qs1 (by omega) (by omega)
   rw[e1,e2];simp[ltB,e]
structure AskOk(t:Trust)(v slot round:Int):Prop where
 tr:valid t=true
 node:inR v=true
 slot:0<=slot/\slot<=1000000
 round:1<=round/\round<=1000
theorem ya4(h:AskOk t v slot round):z7g t v slot round=some 0:=by apply yc9;have h0:verr t=0:=(q2d t).2 h.tr;obtain⟨h1,h2,h3,h4⟩:=h;simp only[inR,aT,dT]at h2;rw[q9g _ (q1c h1),bS,h0,q00 (by omega),q0e (by omega),q00 (by omega),q00 (by omega),q00 (by omega),q00 (by omega)];rfl
theorem y1k(h:AskOk t v slot round):z7k t v slot round=some 0:=by apply yc4;have h0:verr t=0:=(q2d t).2 h.tr;obtain⟨h1,h2,h3,h4⟩:=h;simp only[inR,aT,dT]at h2;rw[q8x _ (q1c h1),bS,h0,q00 (by omega),q0e (by omega),q00 (by omega),q00 (by omega),q00 (by omega),q00 (by omega)];rfl
theorem y8k(h:AskOk t v slot round)(hk:inR k=true):z6r t v slot round k=some (nghB t v slot round k):=by
 apply yav;have hk':=hk;simp only[inR,aT,dT]at hk';unfold nghB;rw[y1k h,bS,q0u,cF,q00 (by omega),cF,q0e (by omega),cF,y9g k t (WOk.of h.tr),bS];by_cases e:k=v;·subst e;rw[q0m];simp
 .rw[q0h e,cF];cases hw:wgt k t with|none=>simp[wFrac,e]|some p=>
   obtain⟨c1,c2,c3,c4⟩:=qpk h.tr hw slot round k;obtain⟨b1,b2⟩:=qe4 1 slot round k;simp only[wFrac,cT,qoa,bS];rw[wrap64 (n:=hsh 1 slot round k) (by omega) (by omega)];have e1:mulI .i64 (hsh 1 slot round k) p.2=hsh 1 slot round k*p.2:=wrap64 (by omega) (by omega);have e2:shlI .i64 p.1 32=p.1*4294967296:=by show IntKind.wrap .i64 (p.1*4294967296)=_;exact wrap64 (by omega) (by omega)
   rw[e1,e2];simp[ltB,e]
structure Lead(N:Int->Bool)(h:Int->Int)(b:Int):Prop where
 node:inR b=true
 ngh:N b=true
 most:∀k,inR k=true->N k=true->h k<h b\/h k=h b/\k<=b
theorem Lead.uniq{N:Int->Bool}{h:Int->Int}{b c:Int}(hb:Lead N h b)(hc:Lead N h c):b=c:=by have h1:=hb.most c hc.node hc.ngh;have h2:=hc.most b hb.node hb.ngh;omega
theorem qlx{t:Trust}(ht:valid t=true){v slot round:Int}(hv:inR v=true):∀(n i:Nat)(b m:Int),i+n=10->(∀k,inR k=true->k<(i:Int)->nghB t v slot round k=true->hsh 2 slot round k<m\/hsh 2 slot round k=m/\k<=b)->((b=v/\m=0/\(i:Int)<=v)\/inR b=true/\b<(i:Int)/\nghB t v slot round b=true/\m=hsh 2 slot round b)->∃c,z21 v slot round b m (i:Int) t.Threshold t.Nodes t.Inner=some c/\Lead (nghB t v slot round) (hsh 2 slot round) c
 |0,i,b,m,hi,hk,hb=>by
  have hv':0<=v/\v<10:=by simpa[inR]using hv
  refine⟨b,qup _ _ _ _ _ _ _ _ _ _ (by rw[q00 (by omega)];rfl),?_⟩;rcases hb with⟨_,_,h3⟩|⟨h1,h2,h3,h4⟩;·omega
  .refine⟨h1,h3,fun k hk1 hk2=>?_⟩;have:0<=k/\k<10:=by simpa[inR]using hk1
   have:=hk k hk1 (by omega) hk2;rw[h4]at this;exact this|n+1,i,b,m,hi,hk,hb=>by
  have hv':0<=v/\v<10:=by simpa[inR]using hv
  have hin:inR (i:Int)=true:=by simp[inR];omega
  have next:∀b' m',(∀k,inR k=true->k<((i+1:Nat):Int)->nghB t v slot round k=true->hsh 2 slot round k<m'\/hsh 2 slot round k=m'/\k<=b')->((b'=v/\m'=0/\((i+1:Nat):Int)<=v)\/inR b'=true/\b'<((i+1:Nat):Int)/\nghB t v slot round b'=true/\m'=hsh 2 slot round b')->∃c,z21 v slot round b' m' ((i+1:Nat):Int) t.Threshold t.Nodes t.Inner=some c/\Lead (nghB t v slot round) (hsh 2 slot round) c:=fun b' m'=>qlx ht hv n (i+1) b' m' (by omega);have split:∀k:Int,k<((i+1:Nat):Int)->k<(i:Int)\/k=(i:Int):=fun k hk=>by omega
  have hbv:nghB t v slot round v=true:=by simp[nghB]
  cases hN:nghB t v slot round (i:Int)with
  |false=>obtain⟨c,h1,h2⟩:=next b m (fun k hk1 hk2 hk3=>by
    rcases split k hk2 with e|e;·exact hk k hk1 e hk3
    .subst e;rw[hN]at hk3;cases hk3) (by
    rcases hb with⟨e1,e2,e3⟩|⟨e1,e2,e3,e4⟩
    .refine .inl ⟨e1,e2,?_⟩;have:(i:Int)≠v:=fun e=>by rw[e,hbv]at hN;cases hN
     omega
    .exact .inr ⟨e1,by omega,e3,e4⟩);refine⟨c,qup _ _ _ _ _ _ _ _ _ _ ?_,h2⟩;rw[q03 (by omega),cT,Trust.etaM,qsa ht,bS,hN,q01 (by omega)];exact h1|true=>
   have hr:=(qe4 2 slot round (i:Int)).1;by_cases hle:m<=hsh 2 slot round (i:Int)
   .obtain⟨c,h1,h2⟩:=next (i:Int) (hsh 2 slot round (i:Int)) (fun k hk1 hk2 hk3=>by
     rcases split k hk2 with e|e
     .rcases hk k hk1 e hk3 with g|⟨g,g'⟩;·exact .inl (by omega)
      .by_cases e':hsh 2 slot round k=hsh 2 slot round (i:Int);·exact .inr ⟨e',by omega⟩
       .exact .inl (by omega)
     .subst e;exact .inr ⟨rfl,by omega⟩) (.inr ⟨hin,by omega,hN,rfl⟩);refine⟨c,qup _ _ _ _ _ _ _ _ _ _ ?_,h2⟩;rw[q03 (by omega),cT,Trust.etaM,qsa ht,bS,hN,qi1,q01 (by omega)];simp only[nT,cF,bS,q0j hle,cT];exact h1
   .obtain⟨c,h1,h2⟩:=next b m (fun k hk1 hk2 hk3=>by
     rcases split k hk2 with e|e;·exact hk k hk1 e hk3
     .subst e;exact .inl (by omega)) (by
     rcases hb with⟨e1,e2,e3⟩|⟨e1,e2,e3,e4⟩;·omega
     .exact .inr ⟨e1,by omega,e3,e4⟩);refine⟨c,qup _ _ _ _ _ _ _ _ _ _ ?_,h2⟩;rw[q03 (by omega),cT,Trust.etaM,qsa ht,bS,hN,qi1,q01 (by omega)];simp only[nT,cF,bS,q0e (show hsh 2 slot round (i:Int)<m by omega)];exact h1
noncomputable def leadR(t:Trust)(v slot round:Int):Int:=(z5j t v slot round).getD 0
theorem q84(ht:valid t=true)(slot round:Int)(hv:inR v=true):z5j t v slot round=some (leadR t v slot round)/\Lead (nghB t v slot round) (hsh 2 slot round) (leadR t v slot round):=by
 have hv':0<=v/\v<10:=by simpa[inR]using hv
 obtain⟨c,h1,h2⟩:=qlx (slot:=slot) (round:=round) ht hv 10 0 v 0 rfl (fun k hk hk0=>by
  have:0<=k/\k<10:=by simpa[inR]using hk
  have:k<0:=hk0;omega) (.inl ⟨rfl,rfl,hv'.1⟩);have h3:z5j t v slot round=some c:=yeh _ _ _ _ _ h1;rw[leadR,h3];exact⟨rfl,h2⟩
theorem qfx{t:Trust}{v slot round:Int}(h:AskOk t v slot round):∀(n i:Nat)(b:Int),i+n=10->inR b=true->nghB t v slot round b=true->(∀k,inR k=true->k<(i:Int)->nghB t v slot round k=true->hsh 2 slot round k<hsh 2 slot round b\/hsh 2 slot round k=hsh 2 slot round b/\k<=b)->∃c,z1m v slot round b (i:Int) t.Threshold t.Nodes t.Inner=some (c,0)/\Lead (nghB t v slot round) (hsh 2 slot round) c
 |0,i,b,hi,hb,hN,hk=>by
  refine⟨b,y6m _ _ _ _ _ _ _ _ _ (by rw[q00 (by omega)];rfl),hb,hN,fun k hk1 hk2=>?_⟩;have:0<=k/\k<10:=by simpa[inR]using hk1
  exact hk k hk1 (by omega) hk2|n+1,i,b,hi,hb,hNb,hk=>by
  have hin:inR (i:Int)=true:=by simp[inR];omega
  have split:∀k:Int,k<((i+1:Nat):Int)->k<(i:Int)\/k=(i:Int):=fun k hk=>by omega
  have stay:=fun hkk=>qfx h n (i+1) b (by omega) hb hNb hkk;have go:=fun hN hkk=>qfx h n (i+1) (i:Int) (by omega) hin hN hkk;have head:∀r,(bif(!nghB t v slot round (i:Int))then z1m v slot round b (addI .i64 (i:Int) 1) t.Threshold t.Nodes t.Inner else Option.bind (some (hsh 2 slot round (i:Int))) fun x1=>Option.bind (some (hsh 2 slot round b)) fun x2=>bif ltB x2 x1 then z1m v slot round (i:Int) (addI .i64 (i:Int) 1) t.Threshold t.Nodes t.Inner else bif eqB x1 x2 then(bif ltB b (i:Int)then z1m v slot round (i:Int) (addI .i64 (i:Int) 1) t.Threshold t.Nodes t.Inner else z1m v slot round b (addI .i64 (i:Int) 1) t.Threshold t.Nodes t.Inner)else z1m v slot round b (addI .i64 (i:Int) 1) t.Threshold t.Nodes t.Inner)=some r->z1m v slot round b (i:Int) t.Threshold t.Nodes t.Inner=some r:=fun r hr=>by apply y6m;rw[q03 (by omega),cT,Trust.etaM,y8k h hin,bS,qoa,qoa];exact hr
  rw[q01 (by omega)]at head;cases hN:nghB t v slot round (i:Int)with
  |false=>
   obtain⟨c,h1,h2⟩:=stay fun k hk1 hk2 hk3=>by
    rcases split k hk2 with e|e;·exact hk k hk1 e hk3
    .subst e;rw[hN]at hk3;cases hk3
   exact⟨c,head _ (by rw[hN];exact h1),h2⟩|true=>
   simp only[hN,nT,cF,bS]at head;by_cases h1:hsh 2 slot round b<hsh 2 slot round (i:Int)
   .obtain⟨c,g1,g2⟩:=go hN fun k hk1 hk2 hk3=>by
     rcases split k hk2 with e|e
     .rcases hk k hk1 e hk3 with g|⟨g,g'⟩;·exact .inl (by omega)
      .exact .inl (by omega)
     .subst e;exact .inr ⟨rfl,by omega⟩
    exact⟨c,head _ (by rw[q03 h1];exact g1),g2⟩
   .by_cases h2:hsh 2 slot round (i:Int)=hsh 2 slot round b
    .by_cases h3:b<(i:Int)
     .obtain⟨c,g1,g2⟩:=go hN fun k hk1 hk2 hk3=>by
       rcases split k hk2 with e|e
       .rcases hk k hk1 e hk3 with g|⟨g,g'⟩;·exact .inl (by omega)
        .exact .inr ⟨by omega,by omega⟩
       .subst e;exact .inr ⟨rfl,by omega⟩
      exact⟨c,head _ (by rw[q00 (by omega),cF,h2,q0m,cT,q03 h3];exact g1),g2⟩
     .obtain⟨c,g1,g2⟩:=stay fun k hk1 hk2 hk3=>by
       rcases split k hk2 with e|e;·exact hk k hk1 e hk3
       .subst e;exact .inr ⟨h2,by omega⟩
      exact⟨c,head _ (by rw[q00 (by omega),cF,h2,q0m,cT,q00 (by omega)];exact g1),g2⟩
    .obtain⟨c,g1,g2⟩:=stay fun k hk1 hk2 hk3=>by
      rcases split k hk2 with e|e;·exact hk k hk1 e hk3
      .subst e;exact .inl (by omega)
     exact⟨c,head _ (by rw[q00 (by omega),cF,q0h h2,cF];exact g1),g2⟩
theorem qlu(h:AskOk t v slot round):z71 t v slot round=some (leadR t v slot round,0):=by
 obtain⟨c,h1,h2⟩:=qfx h 10 0 v rfl h.node (by simp[nghB]) (fun k hk hk0=>by
  have:0<=k/\k<10:=by simpa[inR]using hk
  have:k<0:=hk0;omega);apply yar;rw[y1k h,bS,q0u,cF,<-h2.uniq (q84 h.tr slot round h.node).2];exact h1
noncomputable def leadF(t:Trust)(v slot:Int):Nat->Nat->Nat->Nat|0,_,s=>s|n+1,i,s=>leadF t v slot n (i+1) (s|||bit (leadR t v slot ((i+1:Nat):Int)))
noncomputable def leadS(t:Trust)(v slot rounds:Int):Nat:=leadF t v slot rounds.toNat 0 0
theorem qun{t:Trust}(ht:valid t=true){v slot:Int}(hv:inR v=true):∀(n i s:Nat),s<1024->leadF t v slot n i s<1024|0,_,_s,h=>h|n+1,i,_s,h=>qun ht hv n (i+1) _ (or_lt h (q9l (q84 ht slot _ hv).2.node))
theorem qwp(ht:valid t=true)(slot rounds:Int)(hv:inR v=true):leadS t v slot rounds<1024:=qun ht hv _ _ _ (by decide)
theorem qvs{t:Trust}{v slot rounds:Int}(h:AskOk t v slot rounds):∀(n i s:Nat),i+n=rounds.toNat->s<1024->z3t v slot (s:Int) rounds (i:Int) t.Threshold t.Nodes t.Inner=some (((leadF t v slot n i s:Nat):Int),0)|0,i,s,hi,hs=>by have:=h.round;apply y7l;rw[q00 (by omega)];rfl|n+1,i,s,hi,hs=>by have hr:=h.round;have hc:=q84 h.tr slot ((i+1:Nat):Int) h.node;have hn:=hc.2.node;have hn':0<=leadR t v slot ((i+1:Nat):Int):=(q9c hn).1;apply y7l;rw[q03 (by omega),cT,Trust.etaM,q01 (by omega),hc.1,bS,q12 hn',shlOr hs hn,qvs h n (i+1) _ (by omega) (or_lt hs (q9l hn))];rfl
theorem y4e(h:AskOk t v slot rounds):z6p t v slot rounds=some (((leadS t v slot rounds:Nat):Int),0):=by apply yfg;rw[ya4 h,bS,q0u,cF];exact qvs h rounds.toNat 0 0 (by omega) (by decide)
theorem qv8{t:Trust}{v slot rounds:Int}(h:AskOk t v slot rounds):∀(n i s:Nat),i+n=rounds.toNat->s<1024->z3v v slot rounds (s:Int) ((i+1:Nat):Int) t.Threshold t.Nodes t.Inner=some (((leadF t v slot n i s:Nat):Int),0)|0,i,s,hi,hs=>by have:=h.round;apply y6c;rw[q0e (by omega)];rfl|n+1,i,s,hi,hs=>by have hr:=h.round;have hc:=qlu (t:=t) (v:=v) (slot:=slot) (round:=((i+1:Nat):Int)) ⟨h.tr,h.node,h.slot,by omega,by omega⟩;have hn:=(q84 h.tr slot ((i+1:Nat):Int) h.node).2.node;have hn':0<=leadR t v slot ((i+1:Nat):Int):=(q9c hn).1;apply y6c;rw[q0j (by omega),cT,Trust.etaM,hc,bS,q21 hs,bS];have ih:=qv8 h n (i+1);cases hh:has s (leadR t v slot ((i+1:Nat):Int))with
  |true=>
   rw[nT,cF,q01 (by omega),ih s (by omega) hs];have hsb:s|||bit (leadR t v slot ((i+1:Nat):Int))=s:=by
    apply Nat.eq_of_testBit_eq;intro j;rw[Nat.testBit_or,bit,qjv];by_cases e:(leadR t v slot ((i+1:Nat):Int)).toNat=j
    .have:s.testBit j=true:=by rw[<-e];obtain⟨q,hq,_,hq2⟩:=qzg hh;rw[hq,tN];exact hq2
     simp[this]
    .rw[decide_eq_false e,Bool.or_false]
   show _=some (((leadF t v slot n (i+1) (s|||bit _):Nat):Int),(0:Int));rw[hsb]|false=>rw[Bool.not_false,cT,q12 hn',shlOr hs hn,q01 (by omega),ih _ (by omega) (or_lt hs (q9l hn))];rfl
theorem y4x(h:AskOk t v slot rounds):z7f t v slot rounds=some (((leadS t v slot rounds:Nat):Int),0):=by apply yfo;rw[qlu h,bS,q0u,cF];exact qv8 h rounds.toNat 0 0 (by omega) (by decide)
noncomputable def leadL(t:Trust)(v slot rounds:Int):LI:=(nodes (leadS t v slot rounds)).map Int.ofNat
variable {m : Nomination} {n : Nominator}
theorem qoh(k:Int):z4s k=some (inR k):=by
 apply yc0;by_cases h:0<=k;·simp[leB,ltB,inR,h]
 .simp[leB,ltB,inR,h]
theorem qna(h:SmallN m):z4h m=some (nomB m):=by apply yfl;rw[qoh,q9g _ h.tr,qde _ (by have:=h.votes;omega),qde _ (by have:=h.accs;omega)];simp only[bS,q6v,nomB,leB];cases inR m.Node<;>cases decide (1<=m.Seq)<;>cases valid m.Trust<;>cases q0x m.Votes<;>rfl
theorem q5n(m:Nomination):Nomination.mk m.Node m.Seq (Trust.mk m.Trust.Threshold m.Trust.Nodes m.Trust.Inner) m.Votes m.Accepts=m:=by rw[Trust.etaM]
theorem q1j(n:Nominator):Nominator.mk n.Node n.Slot n.Round n.Seq (Trust.mk n.Trust.Threshold n.Trust.Nodes n.Trust.Inner) n.Own n.Votes n.Accepts n.Candidates n.Heard=n:=by rw[Trust.etaM]
theorem qum(l:List Val)(n:Nominator)(hl:l.length<1152921504606846976)(ha:n.Accepts.length<1000000):∀(suf:List Val)(i:Nat),l.drop i=suf->∃r:Int,z0h l ((l.length:Nat):Int) (i:Int) n.Node n.Slot n.Round n.Seq n.Trust.Threshold n.Trust.Nodes n.Trust.Inner n.Own n.Votes n.Accepts n.Candidates n.Heard=some (r,n.Node,n.Slot,n.Round,n.Seq,n.Trust.Threshold,n.Trust.Nodes,n.Trust.Inner,n.Own,n.Votes,n.Accepts,n.Candidates,n.Heard)/\leB 0 r=!(suf.all fun x=>decide (x∈n.Accepts))
 |[],i,h=>by refine⟨-1,qyv _ _ _ _ _ _ _ _ _ _ _ _ _ _ _ _ ?_,by simp[leB]⟩;rw[q0c h];rfl|y::suf,i,h=>by
  have hlt:=q09 h;obtain⟨r,h1,h2⟩:=qum l n hl ha suf (i+1) (q02 h);have hf:z5u y n.Node n.Slot n.Round n.Seq n.Trust.Threshold n.Trust.Nodes n.Trust.Inner n.Own n.Votes n.Accepts n.Candidates n.Heard=some (!decide (y∈n.Accepts),n.Node,n.Slot,n.Round,n.Seq,n.Trust.Threshold,n.Trust.Nodes,n.Trust.Inner,n.Own,n.Votes,n.Accepts,n.Candidates,n.Heard):=by apply yes;rw[qib _ (by omega)];rfl
  by_cases hy:y∈n.Accepts;·refine⟨r,qyv _ _ _ _ _ _ _ _ _ _ _ _ _ _ _ _ ?_,by rw[h2];simp[hy]⟩;rw[q05 h,cT,q04 h,hf,bS,q01 (by omega)];simp only[hy,decide_true,nT,cF];exact h1
  .refine⟨i,qyv _ _ _ _ _ _ _ _ _ _ _ _ _ _ _ _ ?_,by simp[hy,leB]⟩;rw[q05 h,cT,q04 h,hf,bS];simp only[hy,decide_false,Bool.not_false,cT]
theorem qzu(n:Nominator)(hl:n.Heard.length<1000000)(hm:∀m∈n.Heard,SmallN m):∀(suf:LN)(i:Nat)(z:Nomination),n.Heard[i]?=some z->n.Heard.drop (i+1)=suf->z1y n.Heard ((n.Heard.length:Nat):Int) ((i+1:Nat):Int) n.Node n.Slot n.Round n.Seq n.Trust.Threshold n.Trust.Nodes n.Trust.Inner n.Own n.Votes n.Accepts n.Candidates n.Heard=some (q30 n.Node (some z.Node) suf)|[],i,z,hz,h=>by apply qvh;rw[q0c h];rfl|y::suf,i,z,hz,h=>by have hlt:=q09 h;apply qvh;rw[q05 h,cT,q04 h,qna (hm y (List.mem_of_mem_drop (i:=i+1) (by rw[h];simp))),bS,q03 (by omega),cT,q22 (by omega) (by omega),q0s (y:=z) (by omega) (by rw[show(((i+1:Nat):Int)-1).toNat=i by omega];exact hz),q01 (by omega),qzu n hl hm suf (i+1) y (by have:=congrArg (·[0]?) h;simpa using this) (q02 h)];rw[q30,show leB y.Node z.Node=!decide (z.Node<y.Node)by by_cases h2:z.Node<y.Node<;>simp[leB,h2]<;>omega];simp only[eqB];cases nomB y<;>cases decide (y.Node=n.Node)<;>cases decide (z.Node<y.Node)<;>rfl
theorem y8r(n:Nominator)(hl:n.Heard.length<1000000)(hm:∀m∈n.Heard,SmallN m):z1y n.Heard ((n.Heard.length:Nat):Int) 0 n.Node n.Slot n.Round n.Seq n.Trust.Threshold n.Trust.Nodes n.Trust.Inner n.Own n.Votes n.Accepts n.Candidates n.Heard=some (q30 n.Node none n.Heard):=by cases hh:n.Heard with|nil=>apply qvh;simp[ltB,q30]|cons y r=>have h1:=qzu n hl hm r 0 y (by rw[hh];rfl) (by rw[hh];rfl);rw[hh]at h1 hm;apply qvh;rw[q03 (by rw[List.length_cons];omega),cT,q0s (y:=y) (by omega) rfl,qna (hm y (by simp)),bS,q00 (by omega),cF,show addI .i64 0 1=((0+1:Nat):Int)from rfl,h1,q30];by_cases h1:y.Node=n.Node;all_goals cases nomB y<;>simp[h1,eqB]
theorem y3s(n:Nominator):z5s n=some (numsN n):=by apply yfk;rw[qoh,bS];unfold numsN leB;cases inR n.Node<;>cases decide (0<=n.Slot)<;>cases decide (n.Slot<=1000000)<;>cases decide (1<=n.Round)<;>cases decide (n.Round<=1000)<;>cases decide (1<=n.Seq)<;>rfl
theorem qbc(h:SmallR n):z3m n=some (q4m n):=by
 obtain⟨h1,h2,h3,h4,h5,h6,h7⟩:=h;apply yb7;obtain⟨r,g1,g2⟩:=qum n.Candidates n (by omega) h4 n.Candidates 0 rfl;have g3:z1g n.Candidates n.Node n.Slot n.Round n.Seq n.Trust.Threshold n.Trust.Nodes n.Trust.Inner n.Own n.Votes n.Accepts n.Candidates n.Heard=_:=yac _ _ _ _ _ _ _ _ _ _ _ _ _ _ g1;have g4:z1c n.Candidates n.Node n.Slot n.Round n.Seq n.Trust.Threshold n.Trust.Nodes n.Trust.Inner n.Own n.Votes n.Accepts n.Candidates n.Heard=some (!(n.Candidates.all fun x=>decide (x∈n.Accepts)),n.Node,n.Slot,n.Round,n.Seq,n.Trust.Threshold,n.Trust.Nodes,n.Trust.Inner,n.Own,n.Votes,n.Accepts,n.Candidates,n.Heard):=by apply yf8;rw[g3,bS,g2]
 rw[y3s,q9g _ h1,qde _ (by omega),qde _ (by omega),qde _ (by omega),g4];simp only[bS,y8r n h6 h7,qq9];have ho:ltB 200 ((n.Own.length:Nat):Int)=!decide (n.Own.length<=200):=by unfold ltB;rw[Bool.eq_iff_iff];simp;omega
 rw[ho];unfold q4m;cases numsN n<;>cases valid n.Trust<;>cases decide (n.Own.length<=200)<;>cases q0x n.Votes<;>cases q0x n.Accepts<;>cases q0x n.Candidates<;>cases n.Candidates.all (fun x=>decide (x∈n.Accepts))<;>rfl
theorem qf0(n:Nominator):z3y n=some (sayN n):=yba _ _ (by rw[Trust.etaM];rfl)
theorem qri:∀t:Trust,Fits t->z4f t=some t:=by
 apply Trust.ind;intro t ih ht;have hsz:size t<1073741824:=ht;rw[q1q]at hsz;have l1:∀(suf:LT)(i:Nat)(acc:LT)(a8:Int)(a10:LI)(a12:LT)(a14:Int)(a16:LI)(a18:LT)(a20:Int)(a22:LI),t.Inner.drop i=suf->acc.length<=i->z3e t.Inner ((t.Inner.length:Nat):Int) (i:Int) a8 a10 a12 a14 a16 a18 a20 a22 acc=some ⟨a20,a22,acc++suf⟩:=by intro suf;induction suf with|nil=>intro i acc a8 a10 a12 a14 a16 a18 a20 a22 h ha;apply y78;simp only[q0c h,cF,List.append_nil]|cons y suf ihs=>intro i acc a8 a10 a12 a14 a16 a18 a20 a22 h ha;have hlt:=q09 h;have hy:y∈t.Inner:=List.mem_of_mem_drop (by rw[h];exact List.mem_cons_self);apply y78;simp only[q05 h,cT,q04 h,ih y hy (ht.mem hy),bS,q01 (show i<4611686018427387904 by omega),Trust.etaM];rw[q07 (by simp[q0a];omega),ihs (i+1) (acc++[y]) _ _ _ _ _ _ _ _ (q02 h) (by simp;omega)];simp
 apply ydn;have h1:z43 t.Nodes=some ((),t.Nodes):=yfx _ _ (by rw[q07 (by simp[q0a];omega)];rfl);rw[h1,bS,show(0:Int)=((0:Nat):Int)from rfl,l1 t.Inner 0 [] _ _ _ _ _ _ _ _ rfl (Nat.le_refl _)];show some (Trust.mk t.Threshold t.Nodes t.Inner)=some t;rw[Trust.etaM]
theorem qjf(ht:Fits m.Trust)(h1:m.Votes.length<1000000)(h2:m.Accepts.length<1000000):z2o m=some m:=by apply yaa;rw[qri _ ht,bS,q85 _ h1,bS,q85 _ h2,bS,Trust.etaM]
theorem qs9(l:LN)(hl:l.length<1000000)(hm:∀m∈l,z2o m=some m)(n sl r s:Int)(t:Int)(ns:LI)(is:LT)(ow:Val)(va aa ca:List Val)(d1 d2 d3 d4 d5:Int)(d6:LI)(d7:LT)(d8:Val)(d9 d10 d11:List Val)(d12:LN):∀(suf:LN)(i:Nat)(acc:LN),l.drop i=suf->acc.length<=i->z3c l ((l.length:Nat):Int) (i:Int) n sl r s t ns is ow va aa ca acc d1 d2 d3 d4 d5 d6 d7 d8 d9 d10 d11 d12=some ⟨n,sl,r,s,⟨t,ns,is⟩,ow,va,aa,ca,acc++suf⟩|[],i,acc,h,ha=>by apply y6a;rw[q0c h,cF,List.append_nil]|m::suf,i,acc,h,ha=>by have hlt:=q09 h;apply y6a;rw[q05 h,cT,q04 h,hm m (List.mem_of_mem_drop (i:=i) (by rw[h];simp)),bS,q5n,q07 (by simp[q0a];omega),q01 (by omega),qs9 l hl hm n sl r s t ns is ow va aa ca d1 d2 d3 d4 d5 d6 d7 d8 d9 d10 d11 d12 suf (i+1) _ (q02 h) (by simp;omega)];simp
structure FreshN(n:Nominator):Prop where
 tr:Fits n.Trust
 votes:n.Votes.length<1000000
 accs:n.Accepts.length<1000000
 cands:n.Candidates.length<1000000
 heard:n.Heard.length<1000000
 msgs:∀m∈n.Heard,z2o m=some m
theorem qel(h:FreshN n):z1t n=some n:=by apply yew;rw[qri _ h.tr,bS,q85 _ h.votes,bS,q85 _ h.accs,bS,q85 _ h.cands,bS];have:=qs9 n.Heard h.heard h.msgs n.Node n.Slot n.Round n.Seq n.Trust.Threshold n.Trust.Nodes n.Trust.Inner n.Own n.Votes n.Accepts n.Candidates 0 0 0 0 0 [] [] [] [] [] [] [] n.Heard 0 [] rfl (Nat.le_refl _);refine Eq.trans this ?_;rw[Trust.etaM];rfl
theorem y3x(h:nomB m=true):z2o m=some m:=qjf (q4s (q1s.1 h).2.2.1).1 (q3m h).votes (q3m h).accs
theorem ReadyN.fresh(h:ReadyN n)(s:Int):FreshN {n with Seq:=s}:=⟨(q4s h.tr).1,by have:=h.vlen;show n.Votes.length<_;omega,by have:=h.alen;show n.Accepts.length<_;omega,by have:=h.clen;show n.Candidates.length<_;omega,by have:=h.hlen;show n.Heard.length<_;omega,fun m hm=>y3x (h.msg m hm).1⟩
theorem qpm{n:Nominator}(h:ReadyN n)(a34:LB):∀(suf:LN)(i:Nat)(acc:LM),n.Heard.drop i=suf->acc=(n.Heard.take i).map msgOf->z3s acc n.Heard ((n.Heard.length:Nat):Int) (i:Int) n.Node n.Slot n.Round n.Seq n.Trust.Threshold n.Trust.Nodes n.Trust.Inner n.Own n.Votes n.Accepts n.Candidates n.Heard a34=some (viewN n)
 |[],i,acc,g,ha=>by have hh:=h.hlen;have hi:n.Heard.take i=n.Heard:=List.take_of_length_le (List.drop_eq_nil_iff.1 g);rw[hi]at ha;apply y6q;rw[q0c g,cF,Trust.etaM,ha,y50 h.node h.tr _ (by simp;omega) h.msgs];rfl|m::suf,i,acc,g,ha=>by
  have hlt:=q09 g;have hh:=h.hlen;apply y6q;rw[q05 g,cT,q04 g,Trust.etaM,q07 (by rw[ha];simp[q0a];omega),q01 (by omega)];refine qpm h a34 suf (i+1) _ (q02 g) ?_;rw[ha,List.take_add_one];have:n.Heard[i]?=some m:=by have:=congrArg (·[0]?) g;simpa using this
  simp[this,msgOf]
theorem qpf(h:ReadyN n):z5y n=some (viewN n):=yfm _ _ (qpm h [] n.Heard 0 [] rfl rfl)
theorem q6a(l:LN)(hl:l.length<1000000)(hm:∀m∈l,nomB m=true)(x:Val):∀(suf:LN)(i s t:Nat),l.drop i=suf->s<1024->t<1024->z22 x (s:Int) (t:Int) l ((l.length:Nat):Int) (i:Int)=some (((whoN (fun m=>decide (x∈m.Votes)) s suf:Nat):Int),((whoN (fun m=>decide (x∈m.Accepts)) t suf:Nat):Int))
 |[],i,s,t,h,_,_=>by apply y5u;rw[q0c h];rfl|m::suf,i,s,t,h,hs,ht=>by
  have hlt:=q09 h;have hb:=hm m (List.mem_of_mem_drop (i:=i) (by rw[h];simp));have hsm:=q3m hb;have hn:=(q1s.1 hb).1;have h0:=(q9c hn).1;apply y5u;rw[q05 h,cT,q04 h,qib _ (by have:=hsm.votes;omega),bS,qib _ (by have:=hsm.accs;omega),bS,q01 (by omega),qa2,qa2];have hs':=or_lt hs (q9l hn);have ht':=or_lt ht (q9l hn);rw[shlOr hs hn,shlOr ht hn];by_cases h1:x∈m.Votes<;>by_cases h2:x∈m.Accepts;·simp only[h1,h2,decide_true,cT,if_true];rw[q12 h0,q12 h0];exact q6a l hl hm x suf (i+1) _ _ (q02 h) hs' ht'
  .simp only[h1,h2,decide_true,decide_false,cT,cF,if_true,fT,if_false];rw[q12 h0];exact q6a l hl hm x suf (i+1) _ _ (q02 h) hs' ht
  .simp only[h1,h2,decide_true,decide_false,cT,cF,if_true,fT,if_false];rw[q12 h0];exact q6a l hl hm x suf (i+1) _ _ (q02 h) hs ht'
  .simp only[h1,h2,decide_false,cF,fT,if_false];exact q6a l hl hm x suf (i+1) _ _ (q02 h) hs ht
theorem qj5{l:LN}(hl:l.length<1000000)(hm:∀m∈l,nomB m=true)(x:Val):z55 l x=some (((q6j l x:Nat):Int),((accsN l x:Nat):Int)):=yds _ _ _ (q6a l hl hm x l 0 0 0 rfl (by decide) (by decide))
def nextR:Option Val->Val×Bool|some x=>(x,true)|none=>([],false)
theorem qb5(l:List Val):(setV l).length<=l.length:=q8o (qm0 q74) fun _x hx=>q49.1 hx
theorem qfj:∀(l:LN),(∀m∈l,nomB m=true)->(q3f l).length<=80*l.length
 |[],_=>by simp[q3f]|m::l,h=>by
  have ih:=qfj l fun k hk=>h k (by simp[hk]);obtain⟨_,_,_,h1,h2⟩:=q1s.1 (h m (by simp));have h1:=(q0l.1 h1).2.2;have h2:=(q0l.1 h2).2.2;have:q3f (m::l)=(m.Votes++m.Accepts)++q3f l:=by simp[q3f]
  rw[this];simp;omega
theorem qrg{n:Nominator}(h:ReadyN n)(l:List Val)(hl:l.length<1000000):∀(suf:List Val)(i:Nat),l.drop i=suf->z2p (allN n) l ((l.length:Nat):Int) (i:Int) n.Node n.Slot n.Round n.Seq n.Trust.Threshold n.Trust.Nodes n.Trust.Inner n.Own n.Votes n.Accepts n.Candidates n.Heard (viewN n).Members=some (nextR (suf.find? (canN n)))
 |[],i,g=>by apply y74;rw[q0c g];rfl|y::suf,i,g=>by
  have hlt:=q09 g;have hlen:=h.len;have halen:=h.alen;have ih:=qrg h l hl suf (i+1) (q02 g);obtain⟨n1,n2⟩:=h.node';have hacc:z56 ⟨(viewN n).Members⟩ n.Node ((q6j (allN n) y:Nat):Int) ((accsN (allN n) y:Nat):Int)=some (accB (viewN n) n.Node.toNat (q6j (allN n) y) (accsN (allN n) y)):=by have:=y3n h.view (qrq h.all y) (qie h.all y) n1;rw[n2]at this;exact this
  apply y74;rw[q05 g,cT,q04 g,qj5 (by omega) h.all,bS,qib _ (by omega),bS,hacc,bS,q01 (by omega),ih,List.find?_cons];have h40:ltB ((n.Accepts.length:Nat):Int) 40=decide (n.Accepts.length<40):=by
   unfold ltB;by_cases e:n.Accepts.length<40
   .have:((n.Accepts.length:Nat):Int)<40:=by omega
    simp[e,this]
   .have:¬((n.Accepts.length:Nat):Int)<40:=by omega
    simp[e,this]
  rw[h40];simp only[canN];cases decide (y∈n.Accepts)<;>cases decide (n.Accepts.length<40)<;>cases accB (viewN n) n.Node.toNat (q6j (allN n) y) (accsN (allN n) y)<;>rfl
theorem qkb(h:ReadyN n):z49 n (viewN n)=some (nextR (nextN n)):=by apply yc7;have hh:=h.hlen;have hlen:=h.len;rw[qkg _ (by omega),bS,qf0,bS,q5n,q07 (by simp[q0a];omega)];have:z5e (n.Heard++[sayN n])=_:=qv4 hlen h.all;rw[this,bS];have h1:=qb5 (q3f (allN n));have h2:=qfj _ h.all;exact qrg h (q8c n) (by show(setV (q3f (allN n))).length<_;omega) (q8c n) 0 rfl
variable {n : Nominator} {t : Trust}
theorem vals1(m:Nomination):q3f [m]=m.Votes++m.Accepts:=by simp[q3f]
theorem y2s{n:Nominator}(h:ReadyN n)(L:LI)(r:List Val)(u k:Nat)(m:Nomination)(a3:Int)(l:List Val)(hl:l.length<1000000)(hv:∀x∈l,vvl x=true)(hk:k<n.Heard.length):∀(suf:List Val)(i:Nat)(V:List Val),l.drop i=suf->q0x V=true->z2i (qc7 V suf) a3 L ((L.length:Nat):Int) (u:Int) n.Heard ((n.Heard.length:Nat):Int) ((k+1:Nat):Int) n.Node n.Slot n.Round n.Seq n.Trust.Threshold n.Trust.Nodes n.Trust.Inner n.Own n.Votes n.Accepts n.Candidates n.Heard=some r->z3f V a3 L ((L.length:Nat):Int) (u:Int) n.Heard ((n.Heard.length:Nat):Int) (k:Int) l ((l.length:Nat):Int) (i:Int) n.Node n.Slot n.Round n.Seq n.Trust.Threshold n.Trust.Nodes n.Trust.Inner n.Own n.Votes n.Accepts n.Candidates n.Heard m.Node m.Seq m.Trust.Threshold m.Trust.Nodes m.Trust.Inner m.Votes m.Accepts=some r|[],i,V,g,hV,hr=>by have hh:=h.hlen;apply y7i;rw[q0c g,cF,q01 (by omega)];exact hr|y::suf,i,V,g,hV,hr=>by have hlt:=q09 g;apply y7i;rw[q05 g,cT,q04 g,qia hV,bS,q01 (by omega)];exact y2s h L r u k m a3 l hl hv hk suf (i+1) _ (q02 g) (q3q hV (hv y (List.mem_of_mem_drop (i:=i) (by rw[g];simp)))) hr
def foldH(u:Int)(V:List Val)(l:LN):List Val:=l.foldl (fun V m=>if m.Node=u then qc7 V (setV (m.Votes++m.Accepts))else V) V
theorem qt5{n:Nominator}(h:ReadyN n)(L:LI)(hL:L.length<1000000)(r:List Val)(u:Nat)(hu:u<L.length)(a3:Int):∀(suf:LN)(k:Nat)(V:List Val),n.Heard.drop k=suf->q0x V=true->z24 (foldH a3 V suf) L ((L.length:Nat):Int) ((u+1:Nat):Int) n.Node n.Slot n.Round n.Seq n.Trust.Threshold n.Trust.Nodes n.Trust.Inner n.Own n.Votes n.Accepts n.Candidates n.Heard=some r->z2i V a3 L ((L.length:Nat):Int) (u:Int) n.Heard ((n.Heard.length:Nat):Int) (k:Int) n.Node n.Slot n.Round n.Seq n.Trust.Threshold n.Trust.Nodes n.Trust.Inner n.Own n.Votes n.Accepts n.Candidates n.Heard=some r
 |[],k,V,g,hV,hr=>by apply y72;rw[q0c g,cF,q01 (by omega)];exact hr|m::suf,k,V,g,hV,hr=>by
  have hlt:=q09 g;have hh:=h.hlen;have hm:=(h.msg m (List.mem_of_mem_drop (i:=k) (by rw[g];simp))).1;apply y72;rw[q05 g,cT,q04 g,q5n];by_cases e:m.Node=a3
  .rw[e,q0u,cF,qv4 (l:=[m]) (by simp) (by simpa using hm),bS,vals1];have hs:∀x∈setV (m.Votes++m.Accepts),vvl x=true:=fun x hx=>qif hm x (q49.1 hx);have hl2:=qb5 (m.Votes++m.Accepts);have hsm:=q3m hm;have h1:=hsm.votes;have h2:=hsm.accs;obtain⟨_,_,_,q1,q2⟩:=q1s.1 hm;have q1:=(q0l.1 q1).2.2;have q2:=(q0l.1 q2).2.2;have h3:(setV (m.Votes++m.Accepts)).length<1000000:=by simp at hl2;omega
   have:=y2s h L r u k m a3 _ h3 hs hlt _ 0 V rfl hV (qt5 h L hL r u hu a3 suf (k+1) _ (q02 g) (q75 hV hs) (by
    have e2:foldH a3 V (m::suf)=foldH a3 (qc7 V (setV (m.Votes++m.Accepts))) suf:=by show foldH a3 (if m.Node=a3 then _ else _) suf=_;rw[if_pos e]
    rw[e2]at hr;exact hr));rw[e]at this;exact this
  .rw[q2o e,cT,q01 (by omega)];refine qt5 h L hL r u hu a3 suf (k+1) _ (q02 g) hV ?_;have e2:foldH a3 V (m::suf)=foldH a3 V suf:=by show foldH a3 (if m.Node=a3 then _ else _) suf=_;rw[if_neg e]
   rw[e2]at hr;exact hr
theorem y2p{n:Nominator}(h:ReadyN n)(L:LI)(hL:L.length<1000000):∀(suf:LI)(u:Nat)(V:List Val),L.drop u=suf->q0x V=true->z24 V L ((L.length:Nat):Int) (u:Int) n.Node n.Slot n.Round n.Seq n.Trust.Threshold n.Trust.Nodes n.Trust.Inner n.Own n.Votes n.Accepts n.Candidates n.Heard=some (suf.foldl (leadV n) V)
 |[],u,V,g,hV=>by apply y5w;rw[q0c g];rfl|y::suf,u,V,g,hV=>by
  have hlt:=q09 g;have hV':=qcr h (u:=y) hV;have ih:=y2p h L hL suf (u+1) (leadV n V y) (q02 g) hV';apply y5w;rw[q05 g,cT,q04 g,List.foldl_cons];by_cases e:y=n.Node
  .rw[e,q0m,cT];rw[e]at ih;unfold leadV at ih⊢;simp only[if_true]at ih⊢;by_cases ho:n.Own=[];·rw[if_pos ho]at ih⊢;rw[show eqS n.Own []=true by simp[eqS,ho],nT,cF,q01 (by omega)];exact ih
   .rw[if_neg ho]at ih⊢;rw[show eqS n.Own []=false by simp[eqS,ho],Bool.not_false,cT,qia hV,bS,q01 (by omega)];exact ih
  .rw[q0h e,cF];refine qt5 h L hL _ u hlt y n.Heard 0 V rfl hV ?_;have e2:foldH y V n.Heard=leadV n V y:=by unfold leadV foldH;rw[if_neg e]
   rw[e2];exact ih
theorem ReadyN.ask(h:ReadyN n):AskOk n.Trust n.Node n.Slot n.Round:=⟨h.tr,h.node,h.slot,h.round⟩
noncomputable def leadN(n:Nominator):LI:=leadL n.Trust n.Node n.Slot n.Round
theorem qr5(_h:ReadyN n):(leadN n).length<1000000:=by have:=qim (leadS n.Trust n.Node n.Slot n.Round);simp[leadN,leadL];omega
theorem qzi(h:ReadyN n):z6j n=some (qc3 (leadN n) n):=by apply yca;rw[y4e h.ask,bS,qq1 (qwp h.tr n.Slot n.Round h.node),bS];exact y2p h (leadN n) (qr5 h) (leadN n) 0 n.Votes rfl h.votes
theorem qnz{n:Nominator}(h:ReadyN n)(l:List Val)(hl:l.length<=40)(hv:∀x∈l,vvl x=true)(d1 d2 d3 d4 d5:Int)(d6:LI)(d7:LT)(d8:Val)(d9 d10 d11:List Val)(d12:LN):∀(suf:List Val)(i:Nat)(C:List Val),l.drop i=suf->q0x C=true->z2j (allN n) l ((l.length:Nat):Int) (i:Int) n.Node n.Slot n.Round n.Seq n.Trust.Threshold n.Trust.Nodes n.Trust.Inner n.Own n.Votes n.Accepts C n.Heard d1 d2 d3 d4 d5 d6 d7 d8 d9 d10 d11 d12 (viewN n).Members=some {n with Candidates:=candN n C suf}
 |[],i,C,g,hC=>by apply y7v;rw[q0c g,cF,Trust.etaM];rfl|y::suf,i,C,g,hC=>by
  have hlt:=q09 g;have hlen:=h.len;have hy:=hv y (List.mem_of_mem_drop (i:=i) (by rw[g];simp));obtain⟨n1,n2⟩:=h.node';have hacc:z4o ⟨(viewN n).Members⟩ n.Node ((accsN (allN n) y:Nat):Int)=some (confB (viewN n) n.Node.toNat (accsN (allN n) y)):=by have:=y5k h.view (qie h.all y) n1;rw[n2]at this;exact this
  apply y7v;rw[q05 g,cT,q04 g,qj5 (by omega) h.all,bS,hacc,bS,qia hC,bS,q01 (by omega)];show _=some {n with Candidates:=candN n (if confB (viewN n) n.Node.toNat (accsN (allN n) y)then putV C y else C) suf};cases hc:confB (viewN n) n.Node.toNat (accsN (allN n) y)with|true=>rw[cT,if_pos rfl];exact qnz h l hl hv d1 d2 d3 d4 d5 d6 d7 d8 d9 d10 d11 d12 suf (i+1) _ (q02 g) (q3q hC hy)|false=>rw[cF,if_neg (by simp)];exact qnz h l hl hv d1 d2 d3 d4 d5 d6 d7 d8 d9 d10 d11 d12 suf (i+1) _ (q02 g) hC
theorem qw3(d1 d2 d3 d4 d5:Int)(d6:LI)(d7:LT)(d8:Val)(d9 d10 d11:List Val)(d12:LN):∀(k:Nat)(n:Nominator),ReadyN n->40-n.Accepts.length<k->z2x (nextR (nextN n)).1 (nextR (nextN n)).2 n.Node n.Slot n.Round n.Seq n.Trust.Threshold n.Trust.Nodes n.Trust.Inner n.Own n.Votes n.Accepts n.Candidates n.Heard d1 d2 d3 d4 d5 d6 d7 d8 d9 d10 d11 d12 (viewN n).Members=some (qfn (q3z k n))|0,n,h,hk=>by omega|k+1,n,h,hk=>by rw[q3z];apply ydl;cases hx:nextN n with|none=>have hh:=h.hlen;simp only[nextR,cF];rw[qkg _ (by omega),bS,q1j,qf0,bS,q5n,q07 (by simp[q0a];omega)];exact qnz h n.Accepts h.alen h.avv d1 d2 d3 d4 d5 d6 d7 d8 d9 d10 d11 d12 n.Accepts 0 n.Candidates rfl h.cands|some x=>
   obtain⟨h1,h2,h3,_⟩:=qg3 hx;have hv:=qke h h1;have hr:=h.withA hv;have hl:=qnc h3 h2;simp only[nextR,cT];rw[qia h.accs,bS];have hw:Nominator.mk n.Node n.Slot n.Round n.Seq (Trust.mk n.Trust.Threshold n.Trust.Nodes n.Trust.Inner) n.Own n.Votes (putV n.Accepts x) n.Candidates n.Heard=qh5 n x:=by rw[Trust.etaM];rfl
   rw[hw];have hn':z49 (qh5 n x) ⟨(viewN n).Members⟩=_:=qkb hr;rw[hn',bS];exact qw3 d1 d2 d3 d4 d5 d6 d7 d8 d9 d10 d11 d12 k (qh5 n x) hr (by show 40-(putV n.Accepts x).length<k;omega)
theorem qvb(h:ReadyN n):z3l n=some (q11 (leadN n) n):=by
 apply ybf;have hl:=h.listen (leadN n);have go:=fun d1 d2 d3 d4 d5 d6 d7 d8 d9 d10 d11 d12=>qw3 d1 d2 d3 d4 d5 d6 d7 d8 d9 d10 d11 d12 60 _ hl (by omega);unfold q11;by_cases e:n.Candidates=[]
 .have e0:eqB ((n.Candidates.length:Nat):Int) 0=true:=by simp[eqB,e]
  rw[e0,cT,qzi h,bS];have hw:q26 (leadN n) n={n with Votes:=qc3 (leadN n) n}:=by rw[q26,if_pos e]
  have hm:Nominator.mk n.Node n.Slot n.Round n.Seq (Trust.mk n.Trust.Threshold n.Trust.Nodes n.Trust.Inner) n.Own (qc3 (leadN n) n) n.Accepts n.Candidates n.Heard={n with Votes:=qc3 (leadN n) n}:=by rw[Trust.etaM]
  rw[hw]at go hl⊢;rw[hm,qpf hl,bS,qkb hl,bS];exact go 0 0 0 0 0 [] [] [] [] [] [] []
 .have e0:eqB ((n.Candidates.length:Nat):Int) 0=false:=by have:n.Candidates.length≠0:=fun e'=>e (List.length_eq_zero_iff.1 e');unfold eqB;rw[decide_eq_false];omega
  have hw:q26 (leadN n) n=n:=by rw[q26,if_neg e]
  rw[hw]at go;rw[e0,cF,qpf h,bS,qkb h,bS,hw];exact go 0 0 0 0 0 [] [] [] [] [] [] []
theorem qrj(l k:List Val)(hl:l.length<1152921504606846976)(hk:l.length=k.length):∀(suf suk:List Val)(i:Nat),l.drop i=suf->k.drop i=suk->z1r l k ((l.length:Nat):Int) (i:Int)=some (decide (suf=suk))
 |[],suk,i,h,h'=>by
  have:suk=[]:=by rw[<-h',List.drop_eq_nil_iff,<-hk];exact List.drop_eq_nil_iff.1 h
  subst this;apply y5z;rw[q0c h];simp|y::suf,[],i,h,h'=>by have:=q09 h;have:=List.drop_eq_nil_iff.1 h';omega|y::suf,z::suk,i,h,h'=>by
  have hlt:=q09 h;apply y5z;rw[q05 h,cT,q04 h,q04 h',q01 (by omega),qrj l k hl hk suf suk (i+1) (q02 h) (q02 h')];by_cases hx:y=z;·subst hx;simp[eqS]
  .simp[eqS,hx]
theorem qaw(l k:List Val)(hl:l.length<1152921504606846976):z1j l k=some (decide (l=k)):=by
 apply ybg;by_cases hk:l.length=k.length;·rw[hk,q0u,cF,<-hk];exact qrj l k hl hk l k 0 rfl rfl
 .rw[q2o (by omega),cT];have:l≠k:=fun e=>hk (by rw[e]);simp[this]
theorem qiq{b:Nominator}(hb:ReadyN b)(h:ReadyN n):z2m b n=some (turnN b (q11 (leadN n) n)):=by
 have hs:=h.settle (leadN n);generalize hw:q11 (leadN n) n=w at hs;have h1:=hb.vlen;have h2:=hb.alen;have hq:=hs.seq;have f0:z1t w=some w:=qel (hs.fresh w.Seq);have f1:z1t {w with Seq:=w.Seq+1}=some {w with Seq:=w.Seq+1}:=qel (hs.fresh _);have e0:Nominator.mk w.Node w.Slot w.Round (addI .i64 w.Seq 1) (Trust.mk w.Trust.Threshold w.Trust.Nodes w.Trust.Inner) w.Own w.Votes w.Accepts w.Candidates w.Heard={w with Seq:=w.Seq+1}:=by rw[Trust.etaM,q20 (by omega) (by omega)]
 apply ycj;rw[qvb h,hw,bS,qnh _ (q1c hb.tr),bS,qaw _ _ (by omega),bS,qaw _ _ (by omega),bS,e0,f1,bS,f0,bS,q1j,q1j,turnN];by_cases e1:b.Trust=w.Trust<;>by_cases e2:b.Votes=w.Votes<;>by_cases e3:b.Accepts=w.Accepts<;>simp[e1,e2,e3]
def newN(k slot:Int)(t:Trust)(own:Val):Nominator:=⟨k,slot,1,1,t,own,[],[],[],[]⟩
noncomputable def q7d(k slot:Int)(t:Trust)(own:Val):Nominator×Int:=if inR k=false then(q4a,5)else if slot<0\/1000000<slot then(q4a,1)else if verr t≠0 then(q4a,verr t)else if 200<own.length then(q4a,3)else(q11 (leadN (newN k slot t own)) (newN k slot t own),0)
theorem qbr{k slot:Int}{own:Val}(hk:inR k=true)(hs:0<=slot/\slot<=1000000)(ht:valid t=true)(ho:own.length<=200):ReadyN (newN k slot t own):=⟨hk,hs,by simp[newN],by simp[newN],ht,ho,rfl,rfl,rfl,fun x hx=>by simp[newN]at hx,rfl⟩
theorem qg9(k slot:Int)(ht:Small t)(own:Val)(hown:own.length<1000000):z3k k slot t own=some (q7d k slot t own):=by apply yej;rw[qoh,bS,q9g _ ht,bS,q7d];cases hk:inR k with|false=>rfl|true=>
  simp only[nT,cF,Bool.true_eq_false,if_false];by_cases h1:slot<0;·rw[q03 h1,cT,if_pos (.inl h1)];rfl
  .by_cases h2:1000000<slot;·rw[q00 (by omega),cF,q03 h2,cT,if_pos (.inr h2)];rfl
   .rw[q00 (by omega),cF,q00 (by omega),cF,if_neg (by omega)];by_cases h3:verr t=0
    .have hv:=(q2d t).1 h3;rw[h3,q0u,cF,if_neg (by simp)];by_cases h4:200<own.length;·rw[q03 (by omega),cT,if_pos h4];rfl
     .rw[q00 (by omega),cF,if_neg h4,Trust.etaM];have hr:=qbr hk (slot:=slot) (by omega) hv (show own.length<=200 by omega);have hs:=qvb hr;have hw:=hr.settle (leadN (newN k slot t own));have hf:=qel (hw.fresh (q11 (leadN (newN k slot t own)) (newN k slot t own)).Seq);have hs':z3l ⟨k,slot,1,1,t,own,[],[],[],[]⟩=_:=hs;have hf':z1t (q11 (leadN (newN k slot t own)) (newN k slot t own))=_:=hf;rw[hs',bS,hf',bS];rw[Trust.etaM]
    .rw[q2o h3,cT,if_pos h3];rfl
theorem qj9(l:List Val)(hl:l.length<1152921504606846976):∀(suf:List Val)(i:Nat)(o:Val),l.drop i=suf->z1x o l ((l.length:Nat):Int) (i:Int)=some (compV o suf,!decide (compV o suf=[]))|[],i,o,h=>by apply y6u;rw[q0c h];rfl|y::suf,i,o,h=>by have hlt:=q09 h;have hd:compV o (y::suf)=compV (if vvl y=true/\ltv o y then y else o) suf:=rfl;apply y6u;rw[q05 h,cT,q04 h,qky,bS,qbe,bS,qsy,q01 (by omega),qj9 l hl suf (i+1) y (q02 h),qj9 l hl suf (i+1) o (q02 h),hd];cases hv:vvl y<;>by_cases hc:ltv o y<;>simp[hc]
theorem qrw(l:List Val)(hl:l.length<1152921504606846976):z33 l=some (compV [] l,!decide (compV [] l=[])):=ycu _ _ (qj9 l hl l 0 [] rfl)
def alone3:Trust:=⟨1,[3],[]⟩
theorem qxj{slot round:Int}:leadR alone3 3 slot round=3:=by
 have h:=(q84 (t:=alone3) (v:=3) (by decide+kernel) slot round (by decide)).2;have hn:=h.ngh;unfold nghB at hn;by_cases e:leadR alone3 3 slot round=3;·exact e
 .rw[decide_eq_false e,Bool.false_or]at hn;have:wgt (leadR alone3 3 slot round) alone3=none:=by
   rw[qw8];have:([3]:LI).contains (leadR alone3 3 slot round)=false:=by simp[e]
   rw[show alone3.Nodes=[3]from rfl,this,show alone3.Inner=[]from rfl,wgts];rfl
  rw[this]at hn;cases hn
def ownMe:Val:=[109,101]
theorem qss:∃n,q7d 3 0 alone3 ownMe=(n,0)/\n.Candidates=[ownMe]:=by
 have h1:leadN (newN 3 0 alone3 ownMe)=[3]:=by show(nodes (0|||bit (leadR alone3 3 0 1))).map Int.ofNat=_;rw[qxj];decide+kernel
 refine⟨q11 (leadN (newN 3 0 alone3 ownMe)) (newN 3 0 alone3 ownMe),?_,?_⟩;·have hv:verr alone3=0:=(q2d _).2 (by decide+kernel);rw[q7d,if_neg (by decide),if_neg (by decide),if_neg (by rw[hv];simp),if_neg (by decide)]
 .rw[h1];decide+kernel
theorem qcw:law22_awake=some true:=by
 apply law22_awake_le;obtain⟨n,h1,h2⟩:=qss;have hs:z3k 3 0 ⟨1,[3],[]⟩ [109,101]=some (n,0):=by rw[qg9 3 0 (q1c (t:=⟨1,[3],[]⟩) (by decide+kernel)) [109,101] (by decide),<-h1];rfl
 have hc:z33 [[98],[97,97],[97,98]]=some ([97,98],true):=by rw[qrw _ (by decide)];rw[show compV [] [[98],[97,97],[97,98]]=[97,98]by decide+kernel];rfl
 rw[hc,hs];simp only[bS,cT,h2];rw[show eqS [97,98] [97,98]=true from by decide];rfl
variable {n w : Nominator} {a m : Nomination} {t : Trust}
noncomputable def turned(n u:Nominator):Nominator:=turnN n (q11 (leadN u) u)
noncomputable def hearN(n:Nominator)(m:Nomination):Nominator×Int:=if q4m n=false\/nomB m=false\/m.Node=n.Node then(q4a,1)else if oldN n.Heard m=true then(q4a,9)else(turned n {n with Heard:=q5p m n.Heard},0)
noncomputable def tickN(n:Nominator):Nominator×Int:=if q4m n=false then(q4a,1)else if n.Round=1000 then(q4a,3)else(turned n {n with Round:=n.Round+1},0)
noncomputable def declN(n:Nominator)(t:Trust):Nominator×Int:=if q4m n=false then(q4a,1)else if verr t≠0 then(q4a,verr t)else if n.Trust=t then(n,0)else(turned n {n with Trust:=t},0)
theorem qpw(x:Nomination)(k:Int):z57 x k=some (if x.Node<k then-1 else if k<x.Node then 1 else 0):=yf5 _ _ _ (by rw[qdw];rfl)
theorem qtj{l:LN}(hl:l.length<=10)(hp:l.Pairwise (fun a b=>a.Node<b.Node))(k:Int):∀(n i j:Nat),j-i<=n->i<=posN k l->posN k l<=j->j<=l.length->z0g l k ((l.length:Nat):Int) (i:Int) (j:Int)=some (((posN k l:Nat):Int),q7u k l)
 |n,i,j,hn,hi,hj,hjl=>by
  apply yco;by_cases hij:i<j
  .obtain⟨n,rfl⟩:∃m,n=m+1:=⟨n-1,by omega⟩;have hmid:=qzo ⟨i,by omega⟩ ⟨j,by omega⟩;dsimp only at hmid;have hml:(i+j)/2<l.length:=by omega
   have hg:l[(i+j)/2]?=some l[(i+j)/2]:=by simp[hml]
   have hpl:=qg0 (k:=k) hp _ _ hg;rw[q03 (by omega),cT,hmid,q0s (by omega) (by rw[tN];exact hg),qpw,bS];by_cases h1:l[(i+j)/2].Node<k;·rw[if_pos h1,q03 (by decide),cT,q01 (by omega)];exact qtj hl hp k n ((i+j)/2+1) j (by omega) (by have:=hpl.1 h1;omega) hj hjl
   .rw[if_neg h1,q00 (by split<;>decide),cF];exact qtj hl hp k n i ((i+j)/2) (by omega) hi (by have:¬(i+j)/2<posN k l:=fun h=>h1 (hpl.2 h);omega) (by omega)
  .have hij':i=posN k l:=by omega
   subst hij';rw[q00 (by omega),cF];unfold q7u;by_cases he:posN k l<l.length
   .have hg:l[posN k l]?=some l[posN k l]:=List.getElem?_eq_getElem he;have hpl:=qg0 (k:=k) hp _ _ hg;have h1:¬l[posN k l].Node<k:=by rw[hpl];omega
    rw[q03 (by omega),cT,q0s (by omega) (by rw[tN];exact hg),qpw,bS,hg,if_neg h1];by_cases h2:k<l[posN k l].Node
    .have:¬l[posN k l].Node=k:=by omega
     simp[h2,this,eqB]
    .have:l[posN k l].Node=k:=by omega
     simp[this,eqB]
   .rw[q00 (by omega),cF,List.getElem?_eq_none (by omega)]
theorem y9v{l:LN}(hl:l.length<=10)(hp:l.Pairwise (fun a b=>a.Node<b.Node))(k:Int):z17 l k=some (((posN k l:Nat):Int),q7u k l):=by apply ydi;exact qtj hl hp k l.length 0 l.length (by omega) (by omega) (qtd k l) (Nat.le_refl _)
theorem y2x(l:LN):(l.map q0i).all (q7c 7)=true:=by rw[List.all_eq_true];intro x hx;obtain⟨y,_,rfl⟩:=List.mem_map.1 hx;rfl
theorem qt8(l:LN)(hl:l.length<1000000)(m:Nomination)(i:Nat)(hi:i<=l.length):z4v (i:Int) [m] l=some (l.take i++m::l.drop i,()):=by
 refine qjn (T:=tn) (m:=q35 7) sigOk (by kernel_rfl) rfl ?_;show libA (q35 7) [.ref 0,.d (.v (.int .i64 i)),.d (.list [q0i m])] [[.own (l.map q0i) false]]=some (.d (.list ((l.take i++m::l.drop i).map q0i)),[[.undef]]);unfold libA q35;have h1:(i:Int)<=((l.map q0i).length:Int):=by simp;omega
 have h2:(l.map q0i).length<q0a:=by simp[q0a];omega
 have h3:q7c 7 (q0i m)=true:=rfl;simp only[Int.natCast_nonneg,h1,h2,h3,y2x,and_self,if_true,tN];simp only[List.map_append,List.map_cons,List.map_take,List.map_drop];rfl
theorem qzj(hs:SmallR n)(hm:SmallN m):z6s n m=some (hearN n m):=by apply ydf;rw[qbc hs,bS,qna hm,bS,hearN];cases hv:q4m n with|false=>rfl|true=>cases hx:nomB m with|false=>rfl|true=>
   have h:=q23.1 hv;simp only[nT,cF,Bool.true_eq_false,false_or];by_cases hn:m.Node=n.Node;·rw[if_pos hn,hn,q0m];rfl
   .rw[if_neg hn,q0h hn,cF];have hp:=h.asc;have hh:=h.hlen;rw[y9v hh hp,bS,qkg _ (by omega)];have hpl:=qtd m.Node n.Heard;have hw:∀H,Nominator.mk n.Node n.Slot n.Round n.Seq (Trust.mk n.Trust.Threshold n.Trust.Nodes n.Trust.Inner) n.Own n.Votes n.Accepts n.Candidates H={n with Heard:=H}:=fun H=>by rw[Trust.etaM]
    have ht:=qiq h (h.withH hx hn);rw[qkt]at ht⊢;simp only[bS,q5n];cases hf:q7u m.Node n.Heard with
    |true=>rw[hf,if_pos rfl]at ht;unfold q7u at hf;cases hg:n.Heard[posN m.Node n.Heard]? with|none=>rw[hg]at hf;cases hf|some y=>
      rw[hg]at hf;have hy:y.Node=m.Node:=by simpa using hf
      have hold:oldN n.Heard m=(decide (y.Node=m.Node)&&decide (m.Seq<=y.Seq)):=by rw[qmu hp,hg]
      simp only[cT,if_true];rw[hold,q0s (by omega) (by rw[tN];exact hg),q0s (by omega) (by rw[tN];exact hg),q44 (by rw[tN];exact hg),tN,hw,ht,bS,q1j];by_cases hq:m.Seq<=y.Seq<;>simp[leB,hy,hq]<;>rfl
    |false=>
     rw[hf,if_neg (by simp)]at ht;unfold q7u at hf;have hold:oldN n.Heard m=false:=by rw[qmu hp];cases hg:n.Heard[posN m.Node n.Heard]? with|none=>rfl|some y=>rw[hg]at hf;simp only at hf;simp[hf]
     simp only[cF,hold,fT,if_false];rw[qt8 _ (by omega) m _ hpl,bS,hw,ht,bS,q1j];rfl
theorem y31(hs:SmallR n):z6t n=some (tickN n):=by apply ydd;rw[qbc hs,bS,tickN];cases hv:q4m n with|false=>rfl|true=>
  have h:=q23.1 hv;simp only[nT,cF,Bool.true_eq_false,if_false];by_cases e:n.Round=1000;·rw[e,q0m,cT,if_pos rfl];rfl
  .have hr:=h.round;rw[q0h e,cF,if_neg e,q20 (by omega) (by omega)];have hw:Nominator.mk n.Node n.Slot (n.Round+1) n.Seq (Trust.mk n.Trust.Threshold n.Trust.Nodes n.Trust.Inner) n.Own n.Votes n.Accepts n.Candidates n.Heard={n with Round:=n.Round+1}:=by rw[Trust.etaM]
   rw[hw,qiq h (h.withR (by omega) (by omega)),bS,q1j];rfl
theorem y2b(hs:SmallR n)(ht:Small t):z5v n t=some (declN n t):=by apply yd0;rw[qbc hs,bS,q9g _ ht,bS,declN];cases hv:q4m n with|false=>rfl|true=>
  have h:=q23.1 hv;simp only[nT,cF,Bool.true_eq_false,if_false];by_cases h3:verr t=0
  .have htv:=(q2d t).1 h3;rw[h3,q0u,cF,if_neg (by simp),qnh _ hs.tr,bS];by_cases e:n.Trust=t;·rw[decide_eq_true e,cT,if_pos e];have hf:z1t n=some n:=qel (h.fresh n.Seq);rw[hf,bS,q1j]
   .rw[decide_eq_false e,cF,if_neg e];have hw:Nominator.mk n.Node n.Slot n.Round n.Seq (Trust.mk t.Threshold t.Nodes t.Inner) n.Own n.Votes n.Accepts n.Candidates n.Heard={n with Trust:=t}:=by rw[Trust.etaM]
    rw[hw,qiq h (h.withT htv),bS,q1j];rfl
  .rw[q2o h3,cT,if_pos h3];rfl
theorem y0y(ht:Fits n.Trust)(h1:n.Votes.length<1000000)(h2:n.Accepts.length<1000000):z72 n=some (sayN n):=by apply ye2;rw[qf0,bS,qjf (m:=sayN n) ht h1 h2,bS,q5n]
noncomputable def nomEq(a b:Nomination):Bool:=decide (a.Node=b.Node)&&(decide (a.Seq=b.Seq)&&(decide (a.Trust=b.Trust)&&(decide (a.Votes=b.Votes)&&decide (a.Accepts=b.Accepts))))
theorem qkv{b:Nomination}:nomEq a b=true↔a=b:=by cases a;cases b;simp[nomEq]
theorem qlm(h:SmallN a)(b:Nomination):z5f a b=some (nomEq a b):=by apply yfb;rw[qnh _ h.tr,bS,qaw _ _ (by have:=h.votes;omega),bS,qaw _ _ (by have:=h.accs;omega)];simp only[eqB,nomEq,bS];cases decide (a.Node=b.Node)<;>cases decide (a.Seq=b.Seq)<;>cases decide (a.Trust=b.Trust)<;>cases decide (a.Votes=b.Votes)<;>rfl
noncomputable def q5m:LN->LN->Bool|[],[]=>true|a::l,b::k=>nomEq a b&&q5m l k|_,_=>false
theorem q8i:∀{l k:LN},q5m l k=true↔l=k|[],[]=>by simp[q5m]|[],_::_=>by simp[q5m]|_::_,[]=>by simp[q5m]|a::l,b::k=>by rw[q5m,aT,qkv,q8i];simp
theorem y1n(l k:LN)(hl:l.length<1000000)(hk:l.length=k.length)(hm:∀m∈l,SmallN m):∀(suf suk:LN)(i:Nat),l.drop i=suf->k.drop i=suk->z0c k l ((l.length:Nat):Int) (i:Int)=some (q5m suf suk)
 |[],suk,i,h,h'=>by
  have:suk=[]:=by rw[<-h',List.drop_eq_nil_iff,<-hk];exact List.drop_eq_nil_iff.1 h
  subst this;apply y5v;rw[q0c h];rfl|y::suf,[],i,h,h'=>by have:=q09 h;have:=List.drop_eq_nil_iff.1 h';omega|y::suf,z::suk,i,h,h'=>by have hlt:=q09 h;apply y5v;rw[q05 h,cT,q04 h,q04 h',qlm (hm y (List.mem_of_mem_drop (i:=i) (by rw[h];simp))),bS,q01 (by omega),y1n l k hl hk hm suf suk (i+1) (q02 h) (q02 h'),q5m];cases nomEq y z<;>rfl
noncomputable def sameN(a b:Nominator):Bool:=nomEq (sayN a) (sayN b)&&(decide (a.Slot=b.Slot)&&(decide (a.Round=b.Round)&&(decide (a.Own=b.Own)&&(decide (a.Candidates=b.Candidates)&&q5m a.Heard b.Heard))))
theorem qqr{a b:Nominator}:sameN a b=true↔a=b:=by
 simp only[sameN,aT,dT,qkv,q8i];constructor;·rintro⟨h1,h2,h3,h4,h5,h6⟩;cases a;cases b;simp only[sayN,Nomination.mk.injEq]at*;obtain⟨rfl,rfl,rfl,rfl,rfl⟩:=h1;subst h2;subst h3;subst h4;subst h5;subst h6;rfl
 .rintro rfl;exact⟨rfl,rfl,rfl,rfl,rfl,rfl⟩
theorem qq8{a:Nominator}(h:SmallR a)(b:Nominator):z5z a b=some (sameN a b):=by
 apply yep;have hsay:SmallN (sayN a):=⟨h.tr,h.votes,h.accs⟩;have heq:z0y a.Heard b.Heard=some (q5m a.Heard b.Heard):=by
  apply ybu;by_cases hk:a.Heard.length=b.Heard.length;·rw[hk,q0u,cF,<-hk];exact y1n a.Heard b.Heard h.heard hk h.msgs a.Heard b.Heard 0 rfl rfl
  .rw[q2o (by omega),cT];congr 1;cases e:q5m a.Heard b.Heard with|false=>rfl|true=>exact absurd (by rw[q8i.1 e]) hk
 rw[qf0,bS,qf0,bS,qlm hsay,bS,qaw _ _ (by have:=h.cands;omega),bS,heq];simp only[eqB,eqS,sameN,bS];cases nomEq (sayN a) (sayN b)<;>cases decide (a.Slot=b.Slot)<;>cases decide (a.Round=b.Round)<;>cases decide (a.Own=b.Own)<;>cases decide (a.Candidates=b.Candidates)<;>rfl
theorem qyn(h:hearN n m=(w,0)):∃u,w=turned n u/\q4m n=true/\nomB m=true/\m.Node≠n.Node/\u={n with Heard:=q5p m n.Heard}:=by
 unfold hearN at h;split at h;·have:=congrArg (·.2) h;simp at this
 .rename_i hc;split at h;·have:=congrArg (·.2) h;simp at this
  .cases h;simp only[not_or,Bool.not_eq_false]at hc;exact⟨_,rfl,hc.1,hc.2.1,hc.2.2,rfl⟩
theorem qx4(h:tickN n=(w,0)):w=turned n {n with Round:=n.Round+1}/\q4m n=true/\n.Round≠1000:=by
 unfold tickN at h;split at h;·have:=congrArg (·.2) h;simp at this
 .rename_i hc;split at h;·have:=congrArg (·.2) h;simp at this
  .rename_i hr;cases h;exact⟨rfl,by simpa using hc,hr⟩
theorem qy4(h:declN n t=(w,0)):q4m n=true/\valid t=true/\(n.Trust=t/\w=n\/w=turned n {n with Trust:=t}):=by
 unfold declN at h;split at h;·have:=congrArg (·.2) h;simp at this
 .rename_i hc;split at h;·rename_i hv;have:=congrArg (·.2) h;exact absurd this hv
  .rename_i hv;have hv:=(q2d t).1 (by simpa using hv);split at h;·rename_i e;cases h;exact⟨by simpa using hc,hv,.inl ⟨e,rfl⟩⟩
   .cases h;exact⟨by simpa using hc,hv,.inr rfl⟩
theorem qrb(l k:List Val)(hl:l.length<1152921504606846976)(hk:l.length=k.length):∀(suf suk:List Val)(i:Nat),l.drop i=suf->k.drop i=suk->z65 l k ((l.length:Nat):Int) (i:Int)=some (decide (suf=suk))
 |[],suk,i,h,h'=>by
  have:suk=[]:=by rw[<-h',List.drop_eq_nil_iff,<-hk];exact List.drop_eq_nil_iff.1 h
  subst this;apply y6v;rw[q0c h];simp|y::suf,[],i,h,h'=>by have:=q09 h;have:=List.drop_eq_nil_iff.1 h';omega|y::suf,z::suk,i,h,h'=>by
  have hlt:=q09 h;apply y6v;rw[q05 h,cT,q04 h,q04 h',q01 (by omega),qrb l k hl hk suf suk (i+1) (q02 h) (q02 h')];by_cases hx:y=z;·subst hx;simp[eqS]
  .simp[eqS,hx]
theorem q3j(l k:List Val)(hl:l.length<1152921504606846976):z4u l k=some (decide (l=k)):=by
 apply ybq;by_cases hk:l.length=k.length;·rw[hk,q0u,cF,<-hk];exact qrb l k hl hk l k 0 rfl rfl
 .rw[q2o (by omega),cT];have:l≠k:=fun e=>hk (by rw[e]);simp[this]
theorem qma{a:Nomination}(h:SmallN a)(b:Nomination):z3z a b=some (nomEq a b):=by apply ycm;rw[qij _ h.tr,bS,q3j _ _ (by have:=h.votes;omega),bS,q3j _ _ (by have:=h.accs;omega)];simp only[eqB,nomEq,bS];cases decide (a.Node=b.Node)<;>cases decide (a.Seq=b.Seq)<;>cases decide (a.Trust=b.Trust)<;>cases decide (a.Votes=b.Votes)<;>rfl
theorem qq4(a b:Nominator)(hl:a.Heard.length<1000000)(hk:a.Heard.length=b.Heard.length)(hm:∀m∈a.Heard,SmallN m):∀(suf suk:LN)(i:Nat),a.Heard.drop i=suf->b.Heard.drop i=suk->z5a ((a.Heard.length:Nat):Int) (i:Int) a.Node a.Slot a.Round a.Seq a.Trust.Threshold a.Trust.Nodes a.Trust.Inner a.Own a.Votes a.Accepts a.Candidates a.Heard b.Node b.Slot b.Round b.Seq b.Trust.Threshold b.Trust.Nodes b.Trust.Inner b.Own b.Votes b.Accepts b.Candidates b.Heard=some (q5m suf suk)
 |[],suk,i,h,h'=>by
  have:suk=[]:=by rw[<-h',List.drop_eq_nil_iff,<-hk];exact List.drop_eq_nil_iff.1 h
  subst this;apply y8i;rw[q0c h];rfl|y::suf,[],i,h,h'=>by have:=q09 h;have:=List.drop_eq_nil_iff.1 h';omega|y::suf,z::suk,i,h,h'=>by have hlt:=q09 h;apply y8i;rw[q05 h,cT,q04 h,q04 h',qma (hm y (List.mem_of_mem_drop (i:=i) (by rw[h];simp))),bS,q01 (by omega),qq4 a b hl hk hm suf suk (i+1) (q02 h) (q02 h'),q5m];cases nomEq y z<;>rfl
theorem qg4{a:Nominator}(h:SmallR a)(b:Nominator):z4t a b=some (sameN a b):=by
 apply ycc;rw[qij _ h.tr,bS,q3j _ _ (by have:=h.votes;omega),bS,q3j _ _ (by have:=h.accs;omega),bS,q3j _ _ (by have:=h.cands;omega),bS];have heq:(bif neB ((a.Heard.length:Nat):Int) ((b.Heard.length:Nat):Int)then some false else z5a ((a.Heard.length:Nat):Int) 0 a.Node a.Slot a.Round a.Seq a.Trust.Threshold a.Trust.Nodes a.Trust.Inner a.Own a.Votes a.Accepts a.Candidates a.Heard b.Node b.Slot b.Round b.Seq b.Trust.Threshold b.Trust.Nodes b.Trust.Inner b.Own b.Votes b.Accepts b.Candidates b.Heard)=some (q5m a.Heard b.Heard):=by
  by_cases hk:a.Heard.length=b.Heard.length
  .have:neB ((a.Heard.length:Nat):Int) ((b.Heard.length:Nat):Int)=false:=by rw[hk];exact q0u _
   rw[this,cF];exact qq4 a b h.heard hk h.msgs a.Heard b.Heard 0 rfl rfl
  .rw[q2o (by omega),cT];congr 1;cases e:q5m a.Heard b.Heard with|false=>rfl|true=>exact absurd (by rw[q8i.1 e]) hk
 rw[heq];have e:sameN a b=(decide (a.Node=b.Node)&&(decide (a.Slot=b.Slot)&&(decide (a.Round=b.Round)&&(decide (a.Seq=b.Seq)&&(decide (a.Own=b.Own)&&(decide (a.Trust=b.Trust)&&(decide (a.Votes=b.Votes)&&(decide (a.Accepts=b.Accepts)&&(decide (a.Candidates=b.Candidates)&&q5m a.Heard b.Heard))))))))):=by
  rw[Bool.eq_iff_iff,qqr];simp only[aT,dT,q8i];constructor;·rintro rfl;exact⟨rfl,rfl,rfl,rfl,rfl,rfl,rfl,rfl,rfl,rfl⟩
  .rintro⟨h1,h2,h3,h4,h5,h6,h7,h8,h9,h10⟩;cases a;cases b;simp only at h1 h2 h3 h4 h5 h6 h7 h8 h9 h10;subst h1;subst h2;subst h3;subst h4;subst h5;subst h6;subst h7;subst h8;subst h9;subst h10;rfl
 rw[e];simp only[neB,eqS];cases decide (a.Node=b.Node)<;>cases decide (a.Slot=b.Slot)<;>cases decide (a.Round=b.Round)<;>cases decide (a.Seq=b.Seq)<;>cases decide (a.Own=b.Own)<;>cases decide (a.Trust=b.Trust)<;>cases decide (a.Votes=b.Votes)<;>cases decide (a.Accepts=b.Accepts)<;>cases decide (a.Candidates=b.Candidates)<;>rfl
theorem qk9(x:Val):z7n x=some (vvl x):=by
 apply yfd;unfold leB vvl;by_cases h:1<=x.length
 .have:(1:Int)<=((x.length:Nat):Int):=by omega
  simp only[h,this,decide_true,cT,tA'];congr 1;by_cases h2:x.length<=200
  .have:((x.length:Nat):Int)<=200:=by omega
   simp[h2,this]
  .have:¬((x.length:Nat):Int)<=200:=by omega
   simp[h2,this]
 .have:¬(1:Int)<=((x.length:Nat):Int):=by omega
  simp only[h,this,decide_false,cF,Bool.false_and]
theorem qb6(a b:Val):z2g a b=some (cmpv a b):=by
 apply yas;unfold cmpv eqS;by_cases e:a=b;·subst e;rw[decide_eq_true rfl,cT,if_neg (q2e a),if_pos rfl]
 .rw[decide_eq_false e,cF];by_cases h1:a.length<b.length;·rw[q03 (by omega),cT,if_pos (show ltv a b from .inl h1)]
  .rw[q00 (by omega),cF];by_cases h2:a.length=b.length
   .rw[show eqB ((a.length:Nat):Int) ((b.length:Nat):Int)=true by simp[eqB,h2],cT,quv];by_cases h3:a<b;·rw[decide_eq_true h3,cT,if_pos (show ltv a b from .inr ⟨h2,h3⟩)]
    .rw[decide_eq_false h3,cF,if_neg (show¬ltv a b by rintro(h|⟨_,h⟩);exact h1 h;exact h3 h),if_neg e]
   .rw[q0h (by omega),cF,if_neg (show¬ltv a b by rintro(h|⟨h,_⟩);exact h1 h;exact h2 h),if_neg e]
theorem qmn(l:List Val)(hl:l.length<1152921504606846976):∀(suf:List Val)(i:Nat)(z:Val),l[i]?=some z->l.drop (i+1)=suf->z39 l l ((l.length:Nat):Int) ((i+1:Nat):Int)=some (plV (some z) suf&&decide (l.length<=40))
 |[],i,z,hz,h=>by
  apply qvz;rw[q0c h,cF];unfold leB plV;congr 1;by_cases h2:l.length<=40
  .have:((l.length:Nat):Int)<=40:=by omega
   simp[h2,this]
  .have:¬((l.length:Nat):Int)<=40:=by omega
   simp[h2,this]|y::suf,i,z,hz,h=>by have hlt:=q09 h;apply qvz;rw[q05 h,cT,q04 h,qk9,bS,q03 (by omega),cT,q22 (by omega) (by omega),q0s (y:=z) (by omega) (by rw[show(((i+1:Nat):Int)-1).toNat=i by omega];exact hz),qb6,bS,y05,q01 (by omega),qmn l hl suf (i+1) y (by have:=congrArg (·[0]?) h;simpa using this) (q02 h)];rw[plV];cases vvl y<;>by_cases hc:ltv z y<;>simp[hc]
theorem q8g(l:List Val)(hl:l.length<1152921504606846976):z5o l=some (q0x l):=by apply ye5;unfold q0x;cases l with|nil=>apply qvz;simp[ltB,plV,leB]|cons y r=>apply qvz;have h0:ltB 0 (((y::r).length:Nat):Int)=true:=q03 (by rw[List.length_cons];omega);rw[h0,cT,q0s (y:=y) (by omega) rfl,qk9,bS,q00 (by omega),cF,show addI .i64 0 1=((0+1:Nat):Int)from rfl,qmn (y::r) hl r 0 y rfl rfl,plV];cases vvl y<;>simp
theorem qvc(l:List Val)(hl:l.length<1152921504606846976)(x:Val):∀(suf:List Val)(i:Nat),l.drop i=suf->z6k x l ((l.length:Nat):Int) (i:Int)=some (decide (x∈suf))|[],i,h=>by apply y7k;rw[q0c h];simp|y::suf,i,h=>by have hlt:=q09 h;apply y7k;rw[q05 h,cT,q04 h,q01 (by omega),qvc l hl x suf (i+1) (q02 h)];unfold eqS;by_cases hx:x=y<;>simp[hx]
theorem qdh(l:List Val)(hl:l.length<1152921504606846976)(x:Val):z6b l x=some (decide (x∈l)):=yad _ _ _ (qvc l hl x l 0 rfl)
theorem qny{m:Nomination}(h:SmallN m):z6z m=some (nomB m):=by apply ydx;rw[q8x _ h.tr,q8g _ (by have:=h.votes;omega),q8g _ (by have:=h.accs;omega)];simp only[bS,q6v,nomB,leB,ltB,inR];cases decide (0<=m.Node)<;>cases decide (m.Node<10)<;>cases decide (1<=m.Seq)<;>cases valid m.Trust<;>cases q0x m.Votes<;>rfl
theorem y1a(n:Nominator)(hl:n.Heard.length<1000000)(hm:∀m∈n.Heard,SmallN m):∀(suf:LN)(i:Nat)(z:Nomination),n.Heard[i]?=some z->n.Heard.drop (i+1)=suf->z2y n.Heard ((n.Heard.length:Nat):Int) ((i+1:Nat):Int) n.Node n.Slot n.Round n.Seq n.Trust.Threshold n.Trust.Nodes n.Trust.Inner n.Own n.Votes n.Accepts n.Candidates n.Heard=some (q30 n.Node (some z.Node) suf)|[],i,z,hz,h=>by apply qwq;rw[q0c h];rfl|y::suf,i,z,hz,h=>by have hlt:=q09 h;apply qwq;rw[q05 h,cT,q04 h,qny (hm y (List.mem_of_mem_drop (i:=i+1) (by rw[h];simp))),bS,q03 (by omega),cT,q22 (by omega) (by omega),q0s (y:=z) (by omega) (by rw[show(((i+1:Nat):Int)-1).toNat=i by omega];exact hz),q01 (by omega),y1a n hl hm suf (i+1) y (by have:=congrArg (·[0]?) h;simpa using this) (q02 h)];rw[q30,show leB y.Node z.Node=!decide (z.Node<y.Node)by by_cases h2:z.Node<y.Node<;>simp[leB,h2]<;>omega];simp only[eqB];cases nomB y<;>cases decide (y.Node=n.Node)<;>cases decide (z.Node<y.Node)<;>rfl
theorem y9l(n:Nominator)(hl:n.Heard.length<1000000)(hm:∀m∈n.Heard,SmallN m):z2y n.Heard ((n.Heard.length:Nat):Int) 0 n.Node n.Slot n.Round n.Seq n.Trust.Threshold n.Trust.Nodes n.Trust.Inner n.Own n.Votes n.Accepts n.Candidates n.Heard=some (q30 n.Node none n.Heard):=by cases hh:n.Heard with|nil=>apply qwq;simp[ltB,q30]|cons y r=>have h1:=y1a n hl hm r 0 y (by rw[hh];rfl) (by rw[hh];rfl);rw[hh]at h1 hm;apply qwq;rw[q03 (by rw[List.length_cons];omega),cT,q0s (y:=y) (by omega) rfl,qny (hm y (by simp)),bS,q00 (by omega),cF,show addI .i64 0 1=((0+1:Nat):Int)from rfl,h1,q30];by_cases h1:y.Node=n.Node;all_goals cases nomB y<;>simp[h1,eqB]
theorem y2z(n:Nominator)(hl:n.Heard.length<1000000)(hm:∀m∈n.Heard,SmallN m)(ha:n.Accepts.length<1000000)(l:List Val)(hll:l.length<1152921504606846976):∀(suf:List Val)(i:Nat),l.drop i=suf->z4n l ((l.length:Nat):Int) (i:Int) n.Node n.Slot n.Round n.Seq n.Trust.Threshold n.Trust.Nodes n.Trust.Inner n.Own n.Votes n.Accepts n.Candidates n.Heard=some ((suf.all fun x=>decide (x∈n.Accepts))&&q30 n.Node none n.Heard)|[],i,h=>by apply y6g;rw[q0c h,cF,y9l n hl hm];rfl|y::suf,i,h=>by have hlt:=q09 h;apply y6g;rw[q05 h,cT,q04 h,qdh _ (by omega),bS,q01 (by omega),y2z n hl hm ha l hll suf (i+1) (q02 h)];by_cases hy:y∈n.Accepts<;>simp[hy]
theorem q86{n:Nominator}(h:SmallR n):z5n n=some (q4m n):=by
 obtain⟨h1,h2,h3,h4,h5,h6,h7⟩:=h;apply yap;rw[q8x _ h1,q8g _ (by omega),q8g _ (by omega),q8g _ (by omega)];have hv1:=y2z n h6 h7 h4 n.Candidates (by omega) n.Candidates 0 rfl;have hv1:z4n n.Candidates ((n.Candidates.length:Nat):Int) 0 n.Node n.Slot n.Round n.Seq n.Trust.Threshold n.Trust.Nodes n.Trust.Inner n.Own n.Votes n.Accepts n.Candidates n.Heard=_:=hv1;simp only[bS,hv1,qq9];have e1:ltB n.Node 0=!decide (0<=n.Node):=by unfold ltB;rw[Bool.eq_iff_iff];simp
 have e2:leB 10 n.Node=!decide (n.Node<10):=by unfold leB;rw[Bool.eq_iff_iff];simp
 have e3:ltB n.Slot 0=!decide (0<=n.Slot):=by unfold ltB;rw[Bool.eq_iff_iff];simp
 have e4:ltB 1000000 n.Slot=!decide (n.Slot<=1000000):=by unfold ltB;rw[Bool.eq_iff_iff];simp
 have e5:ltB n.Round 1=!decide (1<=n.Round):=by unfold ltB;rw[Bool.eq_iff_iff];simp
 have e6:ltB 1000 n.Round=!decide (n.Round<=1000):=by unfold ltB;rw[Bool.eq_iff_iff];simp
 have e7:ltB n.Seq 1=!decide (1<=n.Seq):=by unfold ltB;rw[Bool.eq_iff_iff];simp
 have e8:ltB 1000000 n.Seq=!decide (n.Seq<=1000000):=by unfold ltB;rw[Bool.eq_iff_iff];simp
 have e9:ltB 200 ((n.Own.length:Nat):Int)=!decide (n.Own.length<=200):=by unfold ltB;rw[Bool.eq_iff_iff];simp;omega
 rw[e1,e2,e3,e4,e5,e6,e7,e8,e9];unfold q4m numsN inR;cases decide (0<=n.Node)<;>cases decide (n.Node<10)<;>cases decide (0<=n.Slot)<;>cases decide (n.Slot<=1000000)<;>cases decide (1<=n.Round)<;>cases decide (n.Round<=1000)<;>cases decide (1<=n.Seq)<;>cases decide (n.Seq<=1000000)<;>first|rfl|(cases valid n.Trust<;>cases decide (n.Own.length<=200)<;>cases q0x n.Votes<;>cases q0x n.Accepts<;>cases q0x n.Candidates<;>rfl)
variable {a b : List Val} {n : Nominator}
theorem qvf(n:Nominator):z83 n=some (sayN n):=ydg _ _ (by rw[Trust.etaM];rfl)
theorem qj3(l:List Val)(hl:l.length<1152921504606846976):∀(suf:List Val)(i:Nat)(o:Val),l.drop i=suf->z2b o (!decide (o=[])) l ((l.length:Nat):Int) (i:Int)=some (compV o suf,!decide (compV o suf=[]))|[],i,o,h=>by apply y69;rw[q0c h,cF];rfl|y::suf,i,o,h=>by have hlt:=q09 h;have stay:=qj3 l hl suf (i+1) o (q02 h);have take:=qj3 l hl suf (i+1) y (q02 h);apply y69;rw[q05 h,cT,q04 h,qk9,bS,q01 (by omega)];show _=some (compV (if vvl y=true/\ltv o y then y else o) suf,!decide (compV (if vvl y=true/\ltv o y then y else o) suf=[]));cases hv:vvl y with|false=>rw[cF,stay,if_neg (by simp)]|true=>
   have hy:(!decide (y=[]))=true:=by
    have:=(qu2.1 hv).1;have:y≠[]:=fun e=>by rw[e]at this;simp at this
    simp[this]
   rw[hy]at take;rw[cT];by_cases ho:o=[];·subst ho;rw[if_pos ⟨rfl,y8v hv⟩];simpa using take
   .have hn:(!decide (o=[]))=true:=by simp[ho]
    rw[hn]at stay;rw[hn,nT,cF,qb6,bS,qsy];by_cases hc:ltv o y;·rw[decide_eq_true hc,cT,if_pos ⟨rfl,hc⟩];exact take
    .rw[decide_eq_false hc,cF,if_neg (fun e=>hc e.2)];exact stay
theorem y2v(l:List Val)(hl:l.length<1152921504606846976):z6u l=some (compV [] l,!decide (compV [] l=[])):=yek _ _ (qj3 l hl l 0 [] rfl)
theorem qjj{x:Val}{l:List Val}(hl:l.length<=40):∀(suf:List Val)(i:Nat)(acc:List Val)(d:Bool),l.drop i=suf->acc.length<=2*i->i<=l.length->z36 x acc d l ((l.length:Nat):Int) (i:Int)=some (if d=true then acc++suf else acc++insV suf x)
 |[],i,acc,d,h,ha,hi=>by apply qwn;rw[q0c h,cF];cases d with|true=>simp|false=>rw[Bool.not_false,cT,q07 (by simp[q0a];omega)];rfl
 |y::suf,i,acc,d,h,ha,hi=>by
  have hlt:=q09 h;have c1:∀z:Val,acc.length+[z].length<=q0a:=fun z=>by simp[q0a];omega
  apply qwn;rw[q05 h,cT,q04 h,q01 (by omega)];cases d with|true=>rw[nT,cF,q07 (c1 y),qjj hl suf (i+1) _ true (q02 h) (by simp;omega) (by omega)];simp|false=>
   rw[Bool.not_false,cT,qb6,bS,qjr,insV];by_cases c:ltv x y;·rw[decide_eq_true c,cT,q07 (c1 x),q07 (by simp[q0a];omega)];have:i<l.length:=hlt;rw[rput_done hl suf (i+1) _ (q02 h) (by simp;omega) (by omega)];simp[c]
   .rw[decide_eq_false c,cF,q07 (c1 y),qjj hl suf (i+1) _ false (q02 h) (by simp;omega) (by omega)];simp[c]where rput_done{x:Val}{l:List Val}(hl:l.length<=40):∀(suf:List Val)(i:Nat)(acc:List Val),l.drop i=suf->acc.length<=2*i->i<=l.length->z36 x acc true l ((l.length:Nat):Int) (i:Int)=some (acc++suf)|[],i,acc,h,ha,hi=>by apply qwn;rw[q0c h,cF];simp|y::suf,i,acc,h,ha,hi=>by have hlt:=q09 h;apply qwn;rw[q05 h,cT,q04 h,q01 (by omega),nT,cF,q07 (by simp[q0a];omega),rput_done hl suf (i+1) _ (q02 h) (by simp;omega) (by omega)];simp
theorem qhw{l:List Val}{x:Val}(hl:q0x l=true):z7a l x=some (putV l x):=by
 have hlen:=(q0l.1 hl).2.2;apply ycq;rw[qdh _ (by omega),bS,putV];by_cases hx:x∈l;·simp[hx]
 .simp only[hx,decide_false,cF,false_or];by_cases h40:40<=l.length;·rw[if_pos h40,show leB 40 ((l.length:Nat):Int)=true by unfold leB;simp;omega,cT]
  .rw[if_neg h40,show leB 40 ((l.length:Nat):Int)=false by unfold leB;simp;omega,cF];exact qjj hlen l 0 [] false rfl (by simp) (by simp)
def q72:List Val->List Val->List Val|[],b=>b|x::a,[]=>x::a|x::a,y::b=>if ltv x y then x::q72 a (y::b)else if ltv y x then y::q72 (x::a) b else x::q72 a b
termination_by a b=>a.length+b.length
theorem qm5(a:List Val):q72 a []=a:=by cases a<;>simp[q72]
theorem qbf{z:Val}(a b:List Val):z∈q72 a b↔z∈a\/z∈b:=by fun_induction q72 a b with|case1 b=>simp|case2 x a=>simp|case3 x a y b h ih=>rw[List.mem_cons,ih];simp only[List.mem_cons];grind|case4 x a y b h h' ih=>rw[List.mem_cons,ih];simp only[List.mem_cons];grind|case5 x a y b h h' ih=>have e:x=y:=Classical.byContradiction fun e=>h (q8r e h');subst e;rw[List.mem_cons,ih];simp only[List.mem_cons];grind
theorem qy9(a b:List Val):Asc a->Asc b->Asc (q72 a b):=by fun_induction q72 a b with
 |case1 b=>exact fun _ h=>h|case2 x a=>exact fun h _=>h|case3 x a y b h ih=>
  intro ha hb;obtain⟨a1,a2⟩:=List.pairwise_cons.1 ha;obtain⟨b1,b2⟩:=List.pairwise_cons.1 hb;refine List.pairwise_cons.2 ⟨fun z hz=>?_,ih a2 hb⟩;rcases(qbf _ _).1 hz with g|g;·exact a1 z g
  .rcases List.mem_cons.1 g with rfl|g;·exact h
   .exact q4i h (b1 z g)|case4 x a y b h h' ih=>
  intro ha hb;obtain⟨a1,a2⟩:=List.pairwise_cons.1 ha;obtain⟨b1,b2⟩:=List.pairwise_cons.1 hb;refine List.pairwise_cons.2 ⟨fun z hz=>?_,ih ha b2⟩;rcases(qbf _ _).1 hz with g|g
  .rcases List.mem_cons.1 g with rfl|g;·exact h'
   .exact q4i h' (a1 z g)
  .exact b1 z g|case5 x a y b h h' ih=>
  intro ha hb;have e:x=y:=Classical.byContradiction fun e=>h (q8r e h');subst e;obtain⟨a1,a2⟩:=List.pairwise_cons.1 ha;obtain⟨b1,b2⟩:=List.pairwise_cons.1 hb;refine List.pairwise_cons.2 ⟨fun z hz=>?_,ih a2 b2⟩;rcases(qbf _ _).1 hz with g|g;·exact a1 z g
  .exact b1 z g
theorem y2e(ha:Asc a)(hb:Asc b):q72 a b=setV (a++b):=qeu (qy9 a b ha hb) fun x=>by rw[qbf,List.mem_append]
theorem q61{a b:List Val}(ha:a.length<1000000)(hb:b.length<1000000):∀(n:Nat)(sa sb:List Val)(i k:Nat)(acc:List Val),sa.length+sb.length<=n->a.drop i=sa->b.drop k=sb->acc.length<=i+k->i<=a.length->k<=b.length->z19 a b acc (i:Int) (k:Int)=some (acc++q72 sa sb)
 |n,[],[],i,k,acc,hn,ga,gb,hc,hi,hk=>by apply qw1;rw[q0c ga,cF,q0c gb,cF];simp[q72]|n,x::sa,[],i,k,acc,hn,ga,gb,hc,hi,hk=>by
  have hlt:=q09 ga;obtain⟨n,rfl⟩:∃m,n=m+1:=⟨n-1,by simp at hn;omega⟩;have hkl:k=b.length:=by have:=List.drop_eq_nil_iff.1 gb;omega
  apply qw1;rw[q05 ga,cT,show eqB (k:Int) ((b.length:Nat):Int)=true by rw[hkl];exact q0m _,cT,q04 ga,q07 (by simp[q0a];omega),q01 (by omega),q61 ha hb n sa [] (i+1) k _ (by simp at hn⊢;omega) (q02 ga) gb (by simp;omega) (by omega) hk,qm5,qm5];simp|n,[],y::sb,i,k,acc,hn,ga,gb,hc,hi,hk=>by
  have hlt:=q09 gb;obtain⟨n,rfl⟩:∃m,n=m+1:=⟨n-1,by simp at hn;omega⟩;have hil:i=a.length:=by have:=List.drop_eq_nil_iff.1 ga;omega
  apply qw1;rw[q0c ga,cF,q05 gb,cT,show eqB (k:Int) ((b.length:Nat):Int)=false by exact q0h (by omega),cF,cF,show eqB (i:Int) ((a.length:Nat):Int)=true by rw[hil];exact q0m _,cT,q04 gb,q07 (by simp[q0a];omega),q01 (by omega),q61 ha hb n [] sb i (k+1) _ (by simp at hn⊢;omega) ga (q02 gb) (by simp;omega) hi (by omega)];simp[q72]|n,x::sa,y::sb,i,k,acc,hn,ga,gb,hc,hi,hk=>by
  have hla:=q09 ga;have hlb:=q09 gb;obtain⟨n,rfl⟩:∃m,n=m+1:=⟨n-1,by simp at hn;omega⟩;have c1:∀z:Val,acc.length+[z].length<=q0a:=fun z=>by simp[q0a];omega
  apply qw1;rw[q05 ga,cT,show eqB (k:Int) ((b.length:Nat):Int)=false by exact q0h (by omega),cF,cT,q04 ga,q04 gb,qb6,bS,qjr,q72];by_cases c:ltv x y;·rw[decide_eq_true c,cT,q04 ga,q07 (c1 x),q01 (by omega),q61 ha hb n sa (y::sb) (i+1) k _ (by simp at hn⊢;omega) (q02 ga) gb (by simp;omega) (by omega) hk,if_pos c];simp
  .rw[decide_eq_false c,cF,show eqB (i:Int) ((a.length:Nat):Int)=false by exact q0h (by omega),cF,q04 ga,q04 gb,qb6,bS,qsy,if_neg c];by_cases c2:ltv y x;·rw[decide_eq_true c2,cT,q04 gb,q07 (c1 y),q01 (by omega),q61 ha hb n (x::sa) sb i (k+1) _ (by simp at hn⊢;omega) ga (q02 gb) (by simp;omega) hi (by omega),if_pos c2];simp
   .rw[decide_eq_false c2,cF,q04 ga,q07 (c1 x),q01 (by omega),q01 (by omega),q61 ha hb n sa sb (i+1) (k+1) _ (by simp at hn⊢;omega) (q02 ga) (q02 gb) (by simp;omega) (by omega) (by omega),if_neg c2];simp
theorem qfv(ha:a.length<1000000)(hb:b.length<1000000)(h1:Asc a)(h2:Asc b):z5q a b=some (setV (a++b)):=by apply yda;rw[show(0:Int)=((0:Nat):Int)from rfl,q61 ha hb _ a b 0 0 [] (Nat.le_refl _) rfl rfl (Nat.le_refl _) (Nat.zero_le _) (Nat.zero_le _),y2e h1 h2];rfl
theorem qpy{m:Nomination}(h:nomB m=true):z5q m.Votes m.Accepts=some (setV (m.Votes++m.Accepts)):=by obtain⟨_,_,_,q1,q2⟩:=q1s.1 h;obtain⟨_,q1,q3⟩:=q0l.1 q1;obtain⟨_,q2,q4⟩:=q0l.1 q2;exact qfv (by omega) (by omega) q1 q2
theorem y5h(a b:List Val):setV (setV a++setV b)=setV (a++b):=qeu (l:=a++b) q74 fun x=>by simp[q49]
theorem qp9{n:Nominator}(h:ReadyN n):∀(suf:LN)(i:Nat)(vs:List Val),n.Heard.drop i=suf->vs.length<=80*(i+1)->i<=n.Heard.length->z5m (setV vs) n.Heard ((n.Heard.length:Nat):Int) (i:Int) n.Node n.Slot n.Round n.Seq n.Trust.Threshold n.Trust.Nodes n.Trust.Inner n.Own n.Votes n.Accepts n.Candidates n.Heard=some (setV (vs++q3f suf))|[],i,vs,g,hl,hi=>by apply y6o;rw[q0c g,cF];simp[q3f]|m::suf,i,vs,g,hl,hi=>by have hlt:=q09 g;have hh:=h.hlen;have hm:=(h.msg m (List.mem_of_mem_drop (i:=i) (by rw[g];simp))).1;obtain⟨_,_,_,q1,q2⟩:=q1s.1 hm;have q1:=(q0l.1 q1).2.2;have q2:=(q0l.1 q2).2.2;have l1:=qb5 vs;have l2:=qb5 (m.Votes++m.Accepts);apply y6o;rw[q05 g,cT,q04 g,qpy hm,bS,qfv (by omega) (by simp at l2;omega) q74 q74,bS,y5h,q01 (by omega),qp9 h suf (i+1) _ (q02 g) (by simp;omega) (by omega)];simp[q3f]
theorem y0l(h:ReadyN n):z7m n=some (q8c n):=by have hv:=h.vlen;have ha:=h.alen;apply ydb;rw[qfv (by omega) (by omega) (q0l.1 h.votes).2.1 (q0l.1 h.accs).2.1,bS,show(0:Int)=((0:Nat):Int)from rfl,qp9 h n.Heard 0 _ rfl (by simp;omega) (Nat.zero_le _)];congr 1;refine qeu q74 fun x=>?_;rw[q49,qlt];simp;grind
theorem qos{n:Nominator}(h:ReadyN n)(a34:LB):∀(suf:LN)(i:Nat)(acc:LM),n.Heard.drop i=suf->acc=(n.Heard.take i).map msgOf->z66 acc n.Heard ((n.Heard.length:Nat):Int) (i:Int) n.Node n.Slot n.Round n.Seq n.Trust.Threshold n.Trust.Nodes n.Trust.Inner n.Own n.Votes n.Accepts n.Candidates n.Heard a34=some (viewN n)
 |[],i,acc,g,ha=>by have hh:=h.hlen;have hi:n.Heard.take i=n.Heard:=List.take_of_length_le (List.drop_eq_nil_iff.1 g);rw[hi]at ha;apply y6t;rw[q0c g,cF,Trust.etaM,ha,y4p h.node h.tr _ (by simp;omega) h.msgs];rfl|m::suf,i,acc,g,ha=>by
  have hlt:=q09 g;have hh:=h.hlen;apply y6t;rw[q05 g,cT,q04 g,Trust.etaM,q07 (by rw[ha];simp[q0a];omega),q01 (by omega)];refine qos h a34 suf (i+1) _ (q02 g) ?_;rw[ha,List.take_add_one];have:n.Heard[i]?=some m:=by have:=congrArg (·[0]?) g;simpa using this
  simp[this,msgOf]
theorem qs7(h:ReadyN n):z7c n=some (viewN n):=yb0 _ _ (qos h [] n.Heard 0 [] rfl rfl)
theorem qar{n:Nominator}(h:ReadyN n)(x:Val):∀(suf:LN)(i s t:Nat),(allN n).drop i=suf->s<1024->t<1024->z3a x (s:Int) (t:Int) (allN n) (((allN n).length:Nat):Int) (i:Int) n.Node n.Slot n.Round n.Seq n.Trust.Threshold n.Trust.Nodes n.Trust.Inner n.Own n.Votes n.Accepts n.Candidates n.Heard=some (((whoN (fun m=>decide (x∈m.Votes)) s suf:Nat):Int),((whoN (fun m=>decide (x∈m.Accepts)) t suf:Nat):Int))
 |[],i,s,t,g,_,_=>by apply y7e;rw[q0c g];rfl|m::suf,i,s,t,g,hs,ht=>by
  have hlt:=q09 g;have hlen:=h.len;have hb:=h.all m (List.mem_of_mem_drop (i:=i) (by rw[g];simp));have hsm:=q3m hb;have hn:=(q1s.1 hb).1;have h0:=(q9c hn).1;apply y7e;rw[q05 g,cT,q04 g,qdh _ (by have:=hsm.votes;omega),bS,qdh _ (by have:=hsm.accs;omega),bS,q01 (by omega),qa2,qa2];have hs':=or_lt hs (q9l hn);have ht':=or_lt ht (q9l hn);rw[shlOr hs hn,shlOr ht hn];by_cases h1:x∈m.Votes<;>by_cases h2:x∈m.Accepts;·simp only[h1,h2,decide_true,cT,if_true];rw[q12 h0,q12 h0];exact qar h x suf (i+1) _ _ (q02 g) hs' ht'
  .simp only[h1,h2,decide_true,decide_false,cT,cF,if_true,fT,if_false];rw[q12 h0];exact qar h x suf (i+1) _ _ (q02 g) hs' ht
  .simp only[h1,h2,decide_true,decide_false,cT,cF,if_true,fT,if_false];rw[q12 h0];exact qar h x suf (i+1) _ _ (q02 g) hs ht'
  .simp only[h1,h2,decide_false,cF,fT,if_false];exact qar h x suf (i+1) _ _ (q02 g) hs ht
theorem qqo(h:ReadyN n)(x:Val):z70 n x=some (((q6j (allN n) x:Nat):Int),((accsN (allN n) x:Nat):Int)):=by have hh:=h.hlen;apply yci;rw[q07 (by simp[q0a];omega),qvf,bS,q07 (by simp[q0a];omega),q5n];exact qar h x (allN n) 0 0 0 rfl (by decide) (by decide)
theorem y9o(h:ReadyN n)(x:Val):z88 n x=some (canN n x):=by
 have ha:=h.alen;obtain⟨n1,n2⟩:=h.node';have hacc:z6o (viewN n) n.Node ((q6j (allN n) x:Nat):Int) ((accsN (allN n) x:Nat):Int)=some (accB (viewN n) n.Node.toNat (q6j (allN n) x) (accsN (allN n) x)):=by have:=y4g h.view (qrq h.all x) (qie h.all x) n1;rw[n2]at this;exact this
 apply ycw;rw[qqo h,bS,qdh _ (by omega),bS,qs7 h,bS];dsimp only;rw[hacc,bS,canN,show ltB ((n.Accepts.length:Nat):Int) 40=decide (n.Accepts.length<40)by unfold ltB;rw[Bool.eq_iff_iff];simp;omega];cases decide (x∈n.Accepts)<;>cases decide (n.Accepts.length<40)<;>rfl
theorem y1f{n:Nominator}(h:ReadyN n)(L:LI)(u:Nat)(k:Nat)(m:Nomination)(a3:Int)(l:List Val)(hl:l.length<1000000)(hv:∀x∈l,vvl x=true)(hk:k<n.Heard.length)(r:Nominator)(d1 d2 d3 d4 d5:Int)(d6:LI)(d7:LT)(d8:Val)(d9 d10 d11:List Val)(d12:LN):∀(suf:List Val)(i:Nat)(V:List Val),l.drop i=suf->q0x V=true->z3j a3 L ((L.length:Nat):Int) (u:Int) n.Heard ((n.Heard.length:Nat):Int) ((k+1:Nat):Int) n.Node n.Slot n.Round n.Seq n.Trust.Threshold n.Trust.Nodes n.Trust.Inner n.Own (qc7 V suf) n.Accepts n.Candidates n.Heard d1 d2 d3 d4 d5 d6 d7 d8 d9 d10 d11 d12=some r->z50 a3 L ((L.length:Nat):Int) (u:Int) n.Heard ((n.Heard.length:Nat):Int) (k:Int) l ((l.length:Nat):Int) (i:Int) n.Node n.Slot n.Round n.Seq n.Trust.Threshold n.Trust.Nodes n.Trust.Inner n.Own V n.Accepts n.Candidates n.Heard d1 d2 d3 d4 d5 d6 d7 d8 d9 d10 d11 d12 m.Node m.Seq m.Trust.Threshold m.Trust.Nodes m.Trust.Inner m.Votes m.Accepts=some r|[],i,V,g,hV,hr=>by have hh:=h.hlen;apply y7g;rw[q0c g,cF,q01 (by omega)];exact hr|y::suf,i,V,g,hV,hr=>by have hlt:=q09 g;apply y7g;rw[q05 g,cT,q04 g,qhw hV,bS,q01 (by omega)];exact y1f h L u k m a3 l hl hv hk r d1 d2 d3 d4 d5 d6 d7 d8 d9 d10 d11 d12 suf (i+1) _ (q02 g) (q3q hV (hv y (List.mem_of_mem_drop (i:=i) (by rw[g];simp)))) hr
theorem qtz{n:Nominator}(h:ReadyN n)(L:LI)(hL:L.length<1000000)(r:Nominator)(u:Nat)(hu:u<L.length)(a3:Int)(d1 d2 d3 d4 d5:Int)(d6:LI)(d7:LT)(d8:Val)(d9 d10 d11:List Val)(d12:LN):∀(suf:LN)(k:Nat)(V:List Val),n.Heard.drop k=suf->q0x V=true->z2z L ((L.length:Nat):Int) ((u+1:Nat):Int) n.Node n.Slot n.Round n.Seq n.Trust.Threshold n.Trust.Nodes n.Trust.Inner n.Own (foldH a3 V suf) n.Accepts n.Candidates n.Heard d1 d2 d3 d4 d5 d6 d7 d8 d9 d10 d11 d12=some r->z3j a3 L ((L.length:Nat):Int) (u:Int) n.Heard ((n.Heard.length:Nat):Int) (k:Int) n.Node n.Slot n.Round n.Seq n.Trust.Threshold n.Trust.Nodes n.Trust.Inner n.Own V n.Accepts n.Candidates n.Heard d1 d2 d3 d4 d5 d6 d7 d8 d9 d10 d11 d12=some r
 |[],k,V,g,hV,hr=>by apply y71;rw[q0c g,cF,q01 (by omega)];exact hr|m::suf,k,V,g,hV,hr=>by
  have hlt:=q09 g;have hh:=h.hlen;have hm:=(h.msg m (List.mem_of_mem_drop (i:=k) (by rw[g];simp))).1;apply y71;rw[q05 g,cT,q04 g];by_cases e:m.Node=a3
  .rw[e,q0u,cF,qpy hm,bS];have hs:∀x∈setV (m.Votes++m.Accepts),vvl x=true:=fun x hx=>qif hm x (q49.1 hx);have hl2:=qb5 (m.Votes++m.Accepts);obtain⟨_,_,_,q1,q2⟩:=q1s.1 hm;have q1:=(q0l.1 q1).2.2;have q2:=(q0l.1 q2).2.2;have h3:(setV (m.Votes++m.Accepts)).length<1000000:=by simp at hl2;omega
   have:=y1f h L u k m a3 _ h3 hs hlt r d1 d2 d3 d4 d5 d6 d7 d8 d9 d10 d11 d12 _ 0 V rfl hV (qtz h L hL r u hu a3 d1 d2 d3 d4 d5 d6 d7 d8 d9 d10 d11 d12 suf (k+1) _ (q02 g) (q75 hV hs) (by
    have e2:foldH a3 V (m::suf)=foldH a3 (qc7 V (setV (m.Votes++m.Accepts))) suf:=by show foldH a3 (if m.Node=a3 then _ else _) suf=_;rw[if_pos e]
    rw[e2]at hr;exact hr));rw[e]at this;exact this
  .rw[q2o e,cT,q01 (by omega)];refine qtz h L hL r u hu a3 d1 d2 d3 d4 d5 d6 d7 d8 d9 d10 d11 d12 suf (k+1) _ (q02 g) hV ?_;have e2:foldH a3 V (m::suf)=foldH a3 V suf:=by show foldH a3 (if m.Node=a3 then _ else _) suf=_;rw[if_neg e]
   rw[e2]at hr;exact hr
theorem y03{n:Nominator}(h:ReadyN n)(L:LI)(hL:L.length<1000000)(d1 d2 d3 d4 d5:Int)(d6:LI)(d7:LT)(d8:Val)(d9 d10 d11:List Val)(d12:LN):∀(suf:LI)(u:Nat)(V:List Val),L.drop u=suf->q0x V=true->z2z L ((L.length:Nat):Int) (u:Int) n.Node n.Slot n.Round n.Seq n.Trust.Threshold n.Trust.Nodes n.Trust.Inner n.Own V n.Accepts n.Candidates n.Heard d1 d2 d3 d4 d5 d6 d7 d8 d9 d10 d11 d12=some {n with Votes:=suf.foldl (leadV n) V}
 |[],u,V,g,hV=>by apply y5x;rw[q0c g,cF,Trust.etaM];rfl|y::suf,u,V,g,hV=>by
  have hlt:=q09 g;have hV':=qcr h (u:=y) hV;have ih:=y03 h L hL d1 d2 d3 d4 d5 d6 d7 d8 d9 d10 d11 d12 suf (u+1) (leadV n V y) (q02 g) hV';apply y5x;rw[q05 g,cT,q04 g,List.foldl_cons];by_cases e:y=n.Node
  .rw[e,q0m,cT];rw[e]at ih;unfold leadV at ih⊢;simp only[if_true]at ih⊢;by_cases ho:n.Own=[];·rw[if_pos ho]at ih⊢;rw[show eqS n.Own []=true by simp[eqS,ho],nT,cF,q01 (by omega)];exact ih
   .rw[if_neg ho]at ih⊢;rw[show eqS n.Own []=false by simp[eqS,ho],Bool.not_false,cT,qhw hV,bS,q01 (by omega)];exact ih
  .rw[q0h e,cF];refine qtz h L hL _ u hlt y d1 d2 d3 d4 d5 d6 d7 d8 d9 d10 d11 d12 n.Heard 0 V rfl hV ?_;have e2:foldH y V n.Heard=leadV n V y:=by unfold leadV foldH;rw[if_neg e]
   rw[e2];exact ih
theorem qxs(h:ReadyN n):z7s n=some {n with Votes:=qc3 (leadN n) n}:=by apply yc2;rw[y4x h.ask,bS];dsimp only;rw[qv5 (qwp h.tr n.Slot n.Round h.node),bS];exact y03 h (leadN n) (qr5 h) 0 0 0 0 0 [] [] [] [] [] [] [] (leadN n) 0 n.Votes rfl h.votes
variable {t : Trust}
section
variable {b : Nominator} (hb : ReadyN b) (d1 d2 d3 d4 d5 : Int) (d6 : LI) (d7 : LT) (d8 : Val) (d9 d10 d11 : List Val) (d12 : LN)
include hb
theorem que{n:Nominator}(h:ReadyN n)(hq:b.Seq=n.Seq):∀(suf:List Val)(i:Nat)(C:List Val),n.Accepts.drop i=suf->q0x C=true->(∀x∈C,x∈n.Accepts)->z2s n.Accepts ((n.Accepts.length:Nat):Int) (i:Int) b.Node b.Slot b.Round b.Seq b.Trust.Threshold b.Trust.Nodes b.Trust.Inner b.Own b.Votes b.Accepts b.Candidates b.Heard n.Node n.Slot n.Round n.Seq n.Trust.Threshold n.Trust.Nodes n.Trust.Inner n.Own n.Votes n.Accepts C n.Heard d1 d2 d3 d4 d5 d6 d7 d8 d9 d10 d11 d12=some (turnN b {n with Candidates:=candN n C suf})
 |[],i,C,g,hC,hs=>by have h1:=hb.vlen;have h2:=hb.alen;have hs:=h.seq;apply y7y;rw[q0c g,cF,q3j _ _ (by omega),bS,q3j _ _ (by omega),bS,Trust.etaM,Trust.etaM,qij _ (q1c hb.tr),bS,hq,q20 (by omega) (by omega)];show _=some (turnN b {n with Candidates:=C});unfold turnN;by_cases e1:b.Trust=n.Trust<;>by_cases e2:b.Votes=n.Votes<;>by_cases e3:b.Accepts=n.Accepts<;>simp[e1,e2,e3]|y::suf,i,C,g,hC,hs=>by
  have hlt:=q09 g;have hlen:=h.alen;have hm:y∈n.Accepts:=List.mem_of_mem_drop (i:=i) (by rw[g];simp);have hy:=h.avv y hm;have hr:ReadyN {n with Candidates:=C}:=⟨h.node,h.slot,h.round,h.seq,h.tr,h.own,h.votes,h.accs,hC,hs,h.heard⟩;obtain⟨n1,n2⟩:=h.node';have hacc:z6f (viewN n) n.Node ((accsN (allN n) y:Nat):Int)=some (confB (viewN n) n.Node.toNat (accsN (allN n) y)):=by have:=y4l h.view (qie h.all y) n1;rw[n2]at this;exact this
  have e1:z70 {n with Candidates:=C} y=some (((q6j (allN n) y:Nat):Int),((accsN (allN n) y:Nat):Int)):=qqo hr y;have e2:z7c {n with Candidates:=C}=some (viewN n):=qs7 hr;apply y7y;rw[q05 g,cT,q04 g,Trust.etaM,e1,bS,e2,bS];dsimp only;rw[hacc,bS,qhw hC,bS,q01 (by omega)];show _=some (turnN b {n with Candidates:=candN n (if confB (viewN n) n.Node.toNat (accsN (allN n) y)then putV C y else C) suf});cases hc:confB (viewN n) n.Node.toNat (accsN (allN n) y)with
  |true=>rw[cT,if_pos rfl];exact que h hq suf (i+1) _ (q02 g) (q3q hC hy) (fun x hx=>by
    rcases qi0 hx with e|e;·exact hs x e
    .rw[e];exact hm)|false=>rw[cF,if_neg (by simp)];exact que h hq suf (i+1) _ (q02 g) hC hs
omit hb in
theorem y2o{n:Nominator}(h:ReadyN n)(l:List Val)(hl:l.length<1000000)(r:Nominator):∀(suf:List Val)(i:Nat),l.drop i=suf->(match suf.find? (canN n)with|some x=>z3p true b.Node b.Slot b.Round b.Seq b.Trust.Threshold b.Trust.Nodes b.Trust.Inner b.Own b.Votes b.Accepts b.Candidates b.Heard n.Node n.Slot n.Round n.Seq n.Trust.Threshold n.Trust.Nodes n.Trust.Inner n.Own n.Votes (putV n.Accepts x) n.Candidates n.Heard d1 d2 d3 d4 d5 d6 d7 d8 d9 d10 d11 d12|none=>z2s n.Accepts ((n.Accepts.length:Nat):Int) 0 b.Node b.Slot b.Round b.Seq b.Trust.Threshold b.Trust.Nodes b.Trust.Inner b.Own b.Votes b.Accepts b.Candidates b.Heard n.Node n.Slot n.Round n.Seq n.Trust.Threshold n.Trust.Nodes n.Trust.Inner n.Own n.Votes n.Accepts n.Candidates n.Heard d1 d2 d3 d4 d5 d6 d7 d8 d9 d10 d11 d12)=some r->z3w false l ((l.length:Nat):Int) (i:Int) b.Node b.Slot b.Round b.Seq b.Trust.Threshold b.Trust.Nodes b.Trust.Inner b.Own b.Votes b.Accepts b.Candidates b.Heard n.Node n.Slot n.Round n.Seq n.Trust.Threshold n.Trust.Nodes n.Trust.Inner n.Own n.Votes n.Accepts n.Candidates n.Heard d1 d2 d3 d4 d5 d6 d7 d8 d9 d10 d11 d12=some r|[],i,g,hr=>by apply y7m;rw[q0c g,cF];apply yaq;rw[cF];exact hr|y::suf,i,g,hr=>by have hlt:=q09 g;apply y7m;rw[q05 g,cT,q04 g,q1j,y9o h,bS,q01 (by omega)];cases hc:canN n y with|true=>rw[List.find?_cons_of_pos hc]at hr;rw[cT,qhw h.accs,bS];exact hr|false=>rw[List.find?_cons_of_neg (by simp[hc])]at hr;rw[cF];exact y2o h l hl r suf (i+1) (q02 g) hr
theorem qth:∀(k:Nat)(n:Nominator),ReadyN n->b.Seq=n.Seq->40-n.Accepts.length<k->z3p true b.Node b.Slot b.Round b.Seq b.Trust.Threshold b.Trust.Nodes b.Trust.Inner b.Own b.Votes b.Accepts b.Candidates b.Heard n.Node n.Slot n.Round n.Seq n.Trust.Threshold n.Trust.Nodes n.Trust.Inner n.Own n.Votes n.Accepts n.Candidates n.Heard d1 d2 d3 d4 d5 d6 d7 d8 d9 d10 d11 d12=some (turnN b (qfn (q3z k n)))
 |0,n,h,_,hk=>by omega|k+1,n,h,hq,hk=>by
  have hkl:(q8c n).length<1000000:=by have h1:=qb5 (q3f (allN n));have h2:=qfj (allN n) h.all;have h3:=h.len;unfold q8c;omega
  rw[q3z];apply yfs;rw[cT,q1j,y0l h,bS];refine y2o d1 d2 d3 d4 d5 d6 d7 d8 d9 d10 d11 d12 h (q8c n) hkl _ (q8c n) 0 rfl ?_;cases hx:nextN n with|none=>have hx':(q8c n).find? (canN n)=none:=hx;rw[hx'];exact que hb d1 d2 d3 d4 d5 d6 d7 d8 d9 d10 d11 d12 h hq n.Accepts 0 n.Candidates rfl h.cands h.sub|some x=>have hx':(q8c n).find? (canN n)=some x:=hx;rw[hx'];obtain⟨h1,h2,h3,_⟩:=qg3 hx;have hv:=qke h h1;have hl:=qnc h3 h2;exact qth k (qh5 n x) (h.withA hv) hq (by show 40-(putV n.Accepts x).length<k;omega)
end
theorem qhv{b n:Nominator}(hb:ReadyN b)(h:ReadyN n)(hq:b.Seq=n.Seq):z2f b n=some (turnN b (q11 (leadN n) n)):=by
 apply ybv;have hl:=h.listen (leadN n);unfold q11;by_cases e:n.Candidates=[]
 .have e0:eqB ((n.Candidates.length:Nat):Int) 0=true:=by simp[eqB,e]
  have hw:q26 (leadN n) n={n with Votes:=qc3 (leadN n) n}:=by rw[q26,if_pos e]
  rw[e0,cT,qxs h,bS,hw];rw[hw]at hl;exact qth hb 0 0 0 0 0 [] [] [] [] [] [] [] 60 {n with Votes:=qc3 (leadN n) n} hl hq (by omega)
 .have e0:eqB ((n.Candidates.length:Nat):Int) 0=false:=by have:n.Candidates.length≠0:=fun e'=>e (List.length_eq_zero_iff.1 e');unfold eqB;rw[decide_eq_false];omega
  have hw:q26 (leadN n) n=n:=by rw[q26,if_neg e]
  rw[e0,cF,hw];exact qth hb 0 0 0 0 0 [] [] [] [] [] [] [] 60 n h hq (by omega)
theorem qgl(L:LI)(n:Nominator):(q11 L n).Seq=n.Seq:=by obtain⟨A,C,h,_⟩:=qdn L n;rw[h]
theorem qmw(k slot:Int)(ht:Small t)(own:Val)(hown:own.length<1000000):z7i k slot t own=some (q7d k slot t own):=by
 apply yf4;rw[q8x _ ht,bS,q7d];by_cases k1:k<0
 .have:inR k=false:=by simp[inR];omega
  rw[q03 k1,cT,this,if_pos rfl];rfl
 rw[q00 (by omega),cF];by_cases k2:10<=k
 .have:inR k=false:=by simp[inR];omega
  rw[q0j k2,cT,this,if_pos rfl];rfl
 have hk:inR k=true:=by simp[inR];omega
 rw[q0e (by omega),cF,hk,if_neg (by simp)];by_cases h1:slot<0;·rw[q03 h1,cT,if_pos (.inl h1)];rfl
 .by_cases h2:1000000<slot;·rw[q00 (by omega),cF,q03 h2,cT,if_pos (.inr h2)];rfl
  .rw[q00 (by omega),cF,q00 (by omega),cF,if_neg (by omega)];by_cases h3:verr t=0
   .have hv:=(q2d t).1 h3;rw[h3,q0u,cF,if_neg (by simp)];by_cases h4:200<own.length;·rw[q03 (by omega),cT,if_pos h4];rfl
    .rw[q00 (by omega),cF,if_neg h4,Trust.etaM];have hr:=qbr hk (slot:=slot) (by omega) hv (show own.length<=200 by omega);have hs:z2f ⟨k,slot,1,1,t,own,[],[],[],[]⟩ ⟨k,slot,1,1,t,own,[],[],[],[]⟩=_:=qhv hr hr rfl;rw[hs,bS];obtain⟨s,_,g2,_⟩:=qg5 (newN k slot t own) (q11 (leadN (newN k slot t own)) (newN k slot t own));have h1:=qgl (leadN (newN k slot t own)) (newN k slot t own);have g2':turnN ⟨k,slot,1,1,t,own,[],[],[],[]⟩ (q11 (leadN ⟨k,slot,1,1,t,own,[],[],[],[]⟩) ⟨k,slot,1,1,t,own,[],[],[],[]⟩)=_:=g2;rw[g2',Trust.etaM];have h1:(1:Int)=(q11 (leadN (newN k slot t own)) (newN k slot t own)).Seq:=h1.symm;rw[h1]
   .rw[q2o h3,cT,if_pos h3];rfl
theorem qrv{n:Nominator}(hs:SmallR n):z7x n=some (tickN n):=by apply yer;rw[q86 hs,bS,tickN];cases hv:q4m n with|false=>rfl|true=>
  have h:=q23.1 hv;simp only[nT,cF,Bool.true_eq_false,if_false];by_cases e:n.Round=1000;·rw[e,q0m,cT,if_pos rfl];rfl
  .have hr:=h.round;rw[q0h e,cF,if_neg e,q20 (by omega) (by omega)];have hw:Nominator.mk n.Node n.Slot (n.Round+1) n.Seq (Trust.mk n.Trust.Threshold n.Trust.Nodes n.Trust.Inner) n.Own n.Votes n.Accepts n.Candidates n.Heard={n with Round:=n.Round+1}:=by rw[Trust.etaM]
   have hset:z2f n {n with Round:=n.Round+1}=some (turned n {n with Round:=n.Round+1}):=qhv h (h.withR (by omega) (by omega)) rfl;rw[hw,hset,bS,q1j]
theorem qqq{n:Nominator}(hs:SmallR n)(ht:Small t):z6n n t=some (declN n t):=by apply yai;rw[q86 hs,bS,q8x _ ht,bS,declN];cases hv:q4m n with|false=>rfl|true=>
  have h:=q23.1 hv;simp only[nT,cF,Bool.true_eq_false,if_false];by_cases h3:verr t=0
  .have htv:=(q2d t).1 h3;rw[h3,q0u,cF,if_neg (by simp),qij _ hs.tr,bS];by_cases e:n.Trust=t;·rw[decide_eq_true e,cT,if_pos e,q1j]
   .rw[decide_eq_false e,cF,if_neg e];have hw:Nominator.mk n.Node n.Slot n.Round n.Seq (Trust.mk t.Threshold t.Nodes t.Inner) n.Own n.Votes n.Accepts n.Candidates n.Heard={n with Trust:=t}:=by rw[Trust.etaM]
    have hset:z2f n {n with Trust:=t}=some (turned n {n with Trust:=t}):=qhv h (h.withT htv) rfl;rw[hw,hset,bS,q1j]
  .rw[q2o h3,cT,if_pos h3];rfl
section
variable {n : Nominator} {m : Nomination} (hl : n.Heard.length <= 10) (d1 d2 d3 d4 d5 : Int) (d6 : LI) (d7 : LT) (d8 : Val) (d9 d10 d11 : List Val) (d12 : LN)
include hl
theorem qlq:∀(suf:LN)(i:Nat)(acc:LN)(d:Bool),n.Heard.drop i=suf->acc.length<=2*i->oldN suf m=true->z27 d n.Heard ((n.Heard.length:Nat):Int) (i:Int) n.Node n.Slot n.Round n.Seq n.Trust.Threshold n.Trust.Nodes n.Trust.Inner n.Own n.Votes n.Accepts n.Candidates n.Heard m.Node m.Seq m.Trust.Threshold m.Trust.Nodes m.Trust.Inner m.Votes m.Accepts d1 d2 d3 d4 d5 d6 d7 d8 d9 d10 d11 d12 n.Node n.Slot n.Round n.Seq n.Trust.Threshold n.Trust.Nodes n.Trust.Inner n.Own n.Votes n.Accepts n.Candidates acc=some (q4a,9)
 |[],i,acc,d,g,ha,ho=>by simp[oldN]at ho|y::suf,i,acc,d,g,ha,ho=>by
  have hlt:=q09 g;have c1:∀z:Nomination,acc.length+[z].length<=q0a:=fun z=>by simp[q0a];omega
  rw[qqu]at ho;apply qqf;rw[q05 g,cT,q04 g,q01 (by omega)];have ih:=fun acc' d' h=>qlq suf (i+1) acc' d' (q02 g) h;by_cases e:y.Node=m.Node
  .rw[e,q0m,cT];by_cases q:m.Seq<=y.Seq;·rw[q0j q,cT];rfl
   .rw[q0e (by omega),cF];exact ih acc d (by omega) (by simpa[e,q]using ho)
  .have ho':oldN suf m=true:=by simpa[e]using ho
   rw[q0h e,cF];by_cases hn:m.Node<y.Node;·rw[q03 hn,cT];cases d with|true=>rw[nT,cF,q07 (c1 _)];exact ih _ true (by simp;omega) ho'|false=>rw[Bool.not_false,cT,q07 (c1 _),q07 (by simp[q0a];omega)];exact ih _ true (by simp;omega) ho'
   .rw[q00 (by omega),cF,q07 (c1 _)];exact ih _ d (by simp;omega) ho'
theorem qio{H:LN}{w:Nominator}(hw:z2f n {n with Heard:=H}=some w):∀(suf:LN)(i:Nat)(acc:LN),n.Heard.drop i=suf->acc.length<=2*i->(∀x∈suf,m.Node<x.Node)->acc++suf=H->z27 true n.Heard ((n.Heard.length:Nat):Int) (i:Int) n.Node n.Slot n.Round n.Seq n.Trust.Threshold n.Trust.Nodes n.Trust.Inner n.Own n.Votes n.Accepts n.Candidates n.Heard m.Node m.Seq m.Trust.Threshold m.Trust.Nodes m.Trust.Inner m.Votes m.Accepts d1 d2 d3 d4 d5 d6 d7 d8 d9 d10 d11 d12 n.Node n.Slot n.Round n.Seq n.Trust.Threshold n.Trust.Nodes n.Trust.Inner n.Own n.Votes n.Accepts n.Candidates acc=some (w,0)|[],i,acc,g,ha,hgt,he=>by rw[List.append_nil]at he;subst he;apply qqf;rw[q0c g,cF,nT,cF,Trust.etaM,hw,bS,q1j]|y::suf,i,acc,g,ha,hgt,he=>by have hlt:=q09 g;have h1:=hgt y (by simp);apply qqf;rw[q05 g,cT,q04 g,q01 (by omega),q0h (by omega),cF,q03 h1,cT,nT,cF,q07 (by simp[q0a];omega),q5n];exact qio hw suf (i+1) _ (q02 g) (by simp;omega) (fun x hx=>hgt x (by simp[hx])) (by rw[<-he];simp)
theorem qfu{H:LN}{w:Nominator}(hw:z2f n {n with Heard:=H}=some w):∀(suf:LN)(i:Nat)(acc:LN),n.Heard.drop i=suf->acc.length<=i->i<=n.Heard.length->suf.Pairwise (fun a b=>a.Node<b.Node)->oldN suf m=false->acc++q5p m suf=H->z27 false n.Heard ((n.Heard.length:Nat):Int) (i:Int) n.Node n.Slot n.Round n.Seq n.Trust.Threshold n.Trust.Nodes n.Trust.Inner n.Own n.Votes n.Accepts n.Candidates n.Heard m.Node m.Seq m.Trust.Threshold m.Trust.Nodes m.Trust.Inner m.Votes m.Accepts d1 d2 d3 d4 d5 d6 d7 d8 d9 d10 d11 d12 n.Node n.Slot n.Round n.Seq n.Trust.Threshold n.Trust.Nodes n.Trust.Inner n.Own n.Votes n.Accepts n.Candidates acc=some (w,0)
 |[],i,acc,g,ha,hi,hp,ho,he=>by rw[q5p]at he;subst he;apply qqf;rw[q0c g,cF,Bool.not_false,cT,q07 (by simp[q0a];omega),Trust.etaM,q5n,hw,bS,q1j]|y::suf,i,acc,g,ha,hi,hp,ho,he=>by
  have hlt:=q09 g;have c1:∀z:Nomination,acc.length+[z].length<=q0a:=fun z=>by simp[q0a];omega
  obtain⟨p1,p2⟩:=List.pairwise_cons.1 hp;rw[qqu,Bool.or_eq_false_iff]at ho;rw[q5p]at he;apply qqf;rw[q05 g,cT,q04 g,q01 (by omega)];by_cases e:y.Node=m.Node
  .have hq:¬m.Seq<=y.Seq:=by have:=ho.1;simp[e]at this;omega
   rw[if_neg (by omega),if_pos e]at he;rw[e,q0m,cT,q0e (by omega),cF];refine qfu hw suf (i+1) acc (q02 g) (by omega) (by omega) p2 ho.2 ?_;rw[qzc (fun x hx=>by have:=p1 x hx;omega)];exact he
  .rw[q0h e,cF];by_cases hn:m.Node<y.Node;·rw[if_neg (by omega),if_neg e]at he;rw[q03 hn,cT,Bool.not_false,cT,q07 (c1 _),q07 (by simp[q0a];omega),q5n,q5n];exact qio hl d1 d2 d3 d4 d5 d6 d7 d8 d9 d10 d11 d12 hw suf (i+1) _ (q02 g) (by simp;omega) (fun x hx=>by have:=p1 x hx;omega) (by rw[<-he];simp)
   .rw[if_pos (by omega)]at he;rw[q00 (by omega),cF,q07 (c1 _),q5n];exact qfu hw suf (i+1) _ (q02 g) (by simp;omega) (by omega) p2 ho.2 (by rw[<-he];simp)
end
theorem qqv{n:Nominator}(hs:SmallR n){m:Nomination}(hm:SmallN m):z7y n m=some (hearN n m):=by apply yag;rw[q86 hs,bS,qny hm,bS,hearN];cases hv:q4m n with|false=>rfl|true=>cases hx:nomB m with|false=>rfl|true=>
   have h:=q23.1 hv;simp only[nT,cF,Bool.true_eq_false,false_or];by_cases hn:m.Node=n.Node;·rw[if_pos hn,hn,q0m];rfl
   .rw[if_neg hn,q0h hn,cF];have hh:=h.hlen;cases ho:oldN n.Heard m with|true=>rw[if_pos rfl];exact qlq hh 0 0 0 0 0 [] [] [] [] [] [] [] n.Heard 0 [] false rfl (by simp) ho|false=>rw[if_neg (by simp)];exact qfu hh 0 0 0 0 0 [] [] [] [] [] [] [] (qhv h (h.withH hx hn) rfl) n.Heard 0 [] rfl (by simp) (by simp) h.asc ho rfl
variable {l : LI} {i n : Int}
def someV:List Val:=[[97],[98],[99],[97,97],[97,98],[122,122],[97,98,99]]
theorem qu4:q0x someV=true:=by decide+kernel
theorem qrk{k:List Val}(h:k.Sublist someV):q0x k=true:=by obtain⟨h1,h2,h3⟩:=q0l.1 qu4;have:=h.length_le;exact q0l.2 ⟨fun x hx=>h1 x (h.subset hx),h2.sublist h,by omega⟩
theorem qbj{l:LI}(n:Int):∀(suf:List Val)(a:Nat)(acc:List Val)(i:Int),someV.drop a=suf->acc.Sublist (someV.take a)->q0w l i->∃k j,z3o n acc someV ((someV.length:Nat):Int) (a:Int) l i=some (k,l,j)/\k.Sublist someV/\q0w l j
 |[],a,acc,i,g,ha,h=>by refine⟨acc,i,qw2 _ _ _ _ _ _ _ _ (by rw[q0c g];rfl),?_,h⟩;rw[List.take_of_length_le (List.drop_eq_nil_iff.1 g)]at ha;exact ha|y::suf,a,acc,i,g,ha,h=>by
  have hlt:=q09 g;have h7:someV.length=7:=rfl;have hy:someV[a]?=some y:=by have:=congrArg (·[0]?) g;simpa using this
  have hts:someV.take (a+1)=someV.take a++[y]:=by rw[List.take_add_one,hy];rfl
  have stay:acc.Sublist (someV.take (a+1)):=by rw[hts];exact ha.trans (List.sublist_append_left _ _)
  have more:(acc++[y]).Sublist (someV.take (a+1)):=by rw[hts];exact ha.append (List.Sublist.refl _)
  have hal:=ha.length_le;by_cases hn:((acc.length:Nat):Int)<n
  .obtain⟨x0,i0,g0,g1,g2,g3⟩:=N_ok (n:=3) (by omega) (by omega) h;by_cases e:x0=0;·obtain⟨k,j,r1,r2,r3⟩:=qbj n suf (a+1) (acc++[y]) i0 (q02 g) more g3;refine⟨k,j,qw2 _ _ _ _ _ _ _ _ ?_,r2,r3⟩;rw[q05 g,cT,q04 g,q03 hn,cT,g0,bS];dsimp only;rw[e,q0m,cT,q07 (by simp[q0a];simp at hal;omega),q01 (by omega)];exact r1
   .obtain⟨k,j,r1,r2,r3⟩:=qbj n suf (a+1) acc i0 (q02 g) stay g3;refine⟨k,j,qw2 _ _ _ _ _ _ _ _ ?_,r2,r3⟩;rw[q05 g,cT,q04 g,q03 hn,cT,g0,bS];dsimp only;rw[q0h e,cF,q01 (by omega)];exact r1
  .obtain⟨k,j,r1,r2,r3⟩:=qbj n suf (a+1) acc i (q02 g) stay h;refine⟨k,j,qw2 _ _ _ _ _ _ _ _ ?_,r2,r3⟩;rw[q05 g,cT,q04 g,q00 (by omega),cF,q01 (by omega)];exact r1
theorem qg6(n:Int)(h:q0w l i):∃k j,z7q n l i=some (k,l,j)/\k.Sublist someV/\q0w l j:=by obtain⟨k,j,r1,r2,r3⟩:=qbj (l:=l) n someV 0 [] i rfl (List.nil_sublist _) h;exact⟨k,j,ycx _ _ _ _ r1,r2,r3⟩
structure DrawnN(n:Int)(m:Nomination):Prop where
 msg:nomB m=true
 node:0<=m.Node/\m.Node<n
 seq:1<=m.Seq/\m.Seq<=5
 votes:∀x∈m.Votes,x∈someV
 accs:∀x∈m.Accepts,x∈someV
theorem qap(h1:1<=n)(h2:n<=10)(h:q0w l i):∃t j,z6i n 2 l i=some (t,l,j)/\valid t=true/\q0w l j:=by obtain⟨t,j,g1,g2,_,g4⟩:=y5g h1 h2 1 (by decide) h;exact⟨t,j,g1,g2.1,g4⟩
theorem q7m(h1:1<=n)(h2:n<=10)(h:q0w l i):∃m j,z62 n l i=some (m,l,j)/\DrawnN n m/\q0w l j:=by obtain⟨x0,i0,g0,g0',g0'x,a0⟩:=N_ok (n:=n) (by omega) (by omega) h;obtain⟨x1,i1,g1,g1',g1'x,a1⟩:=qbo (a:=1) (b:=5) (by omega) (by omega) (by omega) a0;obtain⟨t,i2,g2,g2',a2⟩:=qap h1 h2 a1;obtain⟨k,i3,g3,g3',a3⟩:=qg6 3 a2;obtain⟨q,i4,g4,g4',a4⟩:=qg6 2 a3;refine⟨⟨x0,x1,t,k,q⟩,i4,yb2 _ _ _ _ ?_,⟨q1s.2 ⟨by simp[inR];omega,by show 1<=x1;omega,g2',qrk g3',qrk g4'⟩,by dsimp only;omega,by dsimp only;omega,fun x hx=>g3'.subset hx,fun x hx=>g4'.subset hx⟩,a4⟩;rw[g0,bS];dsimp only;rw[g1,bS];dsimp only;rw[g2,bS];dsimp only;rw[g3,bS];dsimp only;rw[g4,bS,Trust.etaM]
theorem DrawnN.later{m:Nomination}(h:DrawnN n m){k:Int}(h0:0<=k)(hk:k<=100000):addI .i64 m.Seq k=m.Seq+k/\nomB ⟨m.Node,m.Seq+k,m.Trust,m.Votes,m.Accepts⟩=true:=by have:=h.seq;obtain⟨h1,h2,h3,h4,h5⟩:=q1s.1 h.msg;exact⟨q20 (by omega) (by omega),q1s.2 ⟨h1,by show 1<=m.Seq+k;omega,h3,h4,h5⟩⟩
end Go.Proofs.YtglokalgdbegeaaGreat
