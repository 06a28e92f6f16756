/- Laws of the printed functions. -/
import Derived.Test.YtdmfjabikomgiaaGreatP20SegB
import Derived.Test.YtdmfjabikomgiaaGreatP20Fchk
import Derived.Test.YtdmfjabikomgiaaGreatP20SegA
import Derived.Test.YtdmfjabikomgiaaGreatRows
import Derived.ProofKit
import Derived.LaidMore
import Derived.OpenShut
import Derived.Stop.Joined
namespace Go.Proofs.YtdmfjabikomgiaaGreat
open Go Go.Ab
variable {c : Config} {i0 ill : Int}
theorem qzm(a:LI)(hl:a.length<1000000):law20_codes a a=some true:=by
 have key:∀(suf:LI)(i:Nat),a.drop i=suf->z68 a a ((a.length:Nat):Int) (i:Int)=some true:=by intro suf;induction suf with|nil=>intro i h;exact ya6 _ _ _ _ _ (by rw[q0c h];rfl)|cons y suf ih=>intro i h;have hlt:=q09 h;exact ya6 _ _ _ _ _ (by rw[q05 h,cT,q02 h,q02 h,q0g,cF,q03 (by omega)];exact ih (i+1) (q01 h))
 exact law20_codes_le _ _ _ (by rw[q0g,cF];grind)
theorem qv8(L:List (LT))(hl:L.length<1000000)(hd:∀d∈L,d.length<1000000/\∀t∈d,Small t):law20_trusts L L=some true:=by
 have inner:∀(k:Nat)(d:LT),L[k]?=some d->∀(R:z4c L L ((L.length:Nat):Int) (addI .i64 (k:Int) 1)=some true)(suf:LT)(i:Nat),d.drop i=suf->z5g L L (k:Int) ((L.length:Nat):Int) (k:Int) ((d.length:Nat):Int) (i:Int)=some true:=by intro k d hk R suf;obtain⟨h1,h2⟩:=hd d (List.mem_of_getElem? hk);induction suf with|nil=>intro i h;exact yba _ _ _ _ _ _ _ _ (by rw[q0c h];exact R)|cons y suf ih=>
   intro i h;have hlt:=q09 h;have hk':L[((k:Nat):Int).toNat]?=some d:=by simp_all
   exact yba _ _ _ _ _ _ _ _ (by rw[q05 h,cT,q0m (by omega) hk',q0m (by omega) hk',q02 h,q02 h,qfb y (h2 y (List.mem_of_mem_drop (i:=i) (by simp_all))),bS,decide_eq_true rfl,nT,cF,q03 (by omega)];exact ih (i+1) (q01 h))
 have outer:∀(suf:List (LT))(k:Nat),L.drop k=suf->z4c L L ((L.length:Nat):Int) (k:Int)=some true:=by intro suf;induction suf with|nil=>intro k h;exact y87 _ _ _ _ _ (by rw[q0c h];rfl)|cons d suf ih=>
   intro k h;have hlt:=q09 h;have hk:L[k]?=some d:=by
    have:(L.drop k)[0]?=some d:=by rw[h];rfl
    grind
   exact y87 _ _ _ _ _ (by rw[q05 h,cT,q02 h,q02 h,q0g,cF,q02 h];exact inner k d hk (by rw[q03 (by omega)];exact ih (k+1) (q01 h)) d 0 rfl)
 exact law20_trusts_le _ _ _ (by rw[q0g,cF];grind)
theorem qgk{α:Type}{P:α->Prop}:∀{ps:List (Int×Int×α)}{cs:LI}{ds out:List (List α)}{k:Nat},q1e ps cs ds=some out->(∀d∈ds,d.length<=k/\∀t∈d,P t)->(∀p∈ps,P p.2.2)->∀d∈out,d.length<=k+ps.length/\∀t∈d,P t
 |[],cs,ds,out,k,h,hd,_=>by simp only[q1e,sI]at h;grind|(kd,a,u)::r,[],ds,out,k,h,_,_=>by simp[q1e]at h|(kd,a,u)::r,c::cs,ds,out,k,h,hd,hp=>by
  have hu:P u:=hp (kd,a,u) (by simp);have hr:∀p∈r,P p.2.2:=fun p h=>hp p (by simp[h]);have key:∀d∈out,d.length<=(k+1)+r.length/\∀t∈d,P t:=by
   simp only[q1e]at h;split at h
   .split at h;·refine qgk h (fun d hx=>?_) hr;obtain⟨i,hi⟩:=List.mem_iff_getElem?.1 hx;rw[List.getElem?_modify]at hi;cases hg:ds[i]? with|none=>rw[hg]at hi;cases hi|some x=>
      obtain⟨h1,h2⟩:=hd x (List.mem_of_getElem? hg);rw[hg]at hi;by_cases e:a.toNat=i;·simp[e]at hi;subst hi;exact⟨by simp;omega,fun t ht=>by
        rcases List.mem_append.1 ht with ht|ht;·exact h2 t ht
        .simp at ht;rw[ht];exact hu⟩
      .simp[e]at hi;subst hi;exact⟨by omega,h2⟩
    .cases h
   .exact qgk h (fun d hx=>⟨by have:=(hd d hx).1;omega,(hd d hx).2⟩) hr
  grind
theorem qsh:∀(l:LP)(m:Meeting),(playM l m).2.length=l.length|[],_=>rfl|p::r,m=>by rw[playM,List.length_cons,List.length_cons,qsh r]
theorem qz2{l:LP}(hl:l.length<=400):(runG c ill l).2.1.length<1000000:=by
 unfold runG;split;·simp
 .split;·simp
  .dsimp only;rw[qsh];omega
structure ConfS(z:Config):Prop where
 small:q31 z
 len:z.Members.length<=1000
 fits:∀m∈z.Members,Fits m.Trust
structure PlaysS(y:LP):Prop where
 len:y.length<=400
 all:∀p∈y,SmallP p/\Fits p.Trust
theorem qv0(hc:ConfS c){l:LP}(hl:PlaysS l):(q78 c ill l).1.length<1000000/\∀d∈(q78 c ill l).1,d.length<1000000/\∀t∈d,Small t:=by
 unfold q78;split
 .rename_i h;obtain⟨L,hL⟩:=qiv hl.len h;rw[hL];have hlen:L.length=c.Members.length:=by have:=qa8 hL;rw[this];simp
  have:=hc.len;refine⟨by show L.length<_;omega,fun d hd=>?_⟩;have hl4:=hl.len;obtain⟨h1,h2⟩:=qgk (k:=1) (P:=Small) hL (fun d hd=>by
   obtain⟨m,hm,rfl⟩:=List.mem_map.1 hd;unfold qis;split;·exact⟨by simp,fun t ht=>by simp at ht;rw[ht];exact(hc.fits m hm).small⟩
   .exact⟨by simp,fun t ht=>by cases ht⟩) (fun p hp=>by obtain⟨q,hq,rfl⟩:=List.mem_map.1 hp;exact(hl.all q hq).1.tr) d hd;rw[List.length_map]at h1;exact⟨by omega,h2⟩
 simp
theorem y7m(p:Play):Play.mk p.Kind p.From p.To (Claim.mk p.Claim.Topic p.Claim.Value) (Trust.mk p.Trust.Threshold p.Trust.Nodes p.Trust.Inner) (Message.mk p.Message.Node p.Message.Seq (Trust.mk p.Message.Trust.Threshold p.Message.Trust.Nodes p.Message.Trust.Inner) p.Message.Votes p.Message.Accepts)=p:=by simp
theorem y2o{a0:Int}{a2:LP}{a7:Int}{a9:LP}{a12:List Config}{a14:Int}{a16:Int}{a24:LB}{a26:LV}{a28:Int}{a30:Int}{a32:Int}{a34:Int}{a36:Int}{a38:Int}{a40:Int}{a42:Int}{a44:LI}{a46:LT}{a48:Int}{a50:Int}{a52:Int}{a54:LI}{a56:LT}{a58:LC}{a60:LC}{a62:LI}{a64:Int}{a66:LB}{z:Config}(hz:ConfS z)(ys:List (LP))(hyl:ys.length<1000)(hys:∀y∈ys,PlaysS y)(hnext:z1r a0 a2 a7 a9 a12 a14 (addI .i64 a16 1) a24 a26 a28 a30 a32 a34 a36 a38 a40 a42 a44 a46 a48 a50 a52 a54 a56 a58 a60 a62 a64 a66=some true):∀(suf:List (LP))(k:Nat),ys.drop k=suf->z0v a0 a2 a7 a9 a12 a14 a16 ys ((ys.length:Nat):Int) (k:Int) a24 a26 a28 a30 a32 a34 a36 a38 a40 a42 a44 a46 a48 a50 a52 a54 a56 a58 a60 a62 a64 a66 z.Members=some true|[],k,h=>by apply y9d;rw[q0c h];simp_all|y::suf,k,h=>by have hlt:=q09 h;have hy:=hys y (List.mem_of_mem_drop (i:=k) (by simp_all));have hp:∀p∈y,SmallP p:=fun p hp=>(hy.all p hp).1;obtain⟨t1,t2⟩:=qv0 hz (ill:=a7) hy;apply y9d;rw[q05 h,cT,q02 h,show Config.mk z.Members=z from rfl,qpd hz.small a7 hp,bS,qo5 hz.small a7 hp,bS,qyy hz.small hz.len a7 hy.len hp hz.fits (fun p hp=>(hy.all p hp).2),bS,qzd hz.small hz.len a7 hy.len hp,bS,q0g,cF,q0g,cF,qzm _ (qz2 hy.len),bS,nT,cF,qaa qlv,bS,nT,cF,qv8 _ t1 t2,bS,nT,cF,q03 (by omega)];exact y2o hz ys hyl hys hnext suf (k+1) (q01 h)
theorem yb2{a0:Int}{a2:LP}{a7:Int}{a9:LP}{a12:List Config}{a14:Int}{a16:Int}{a24:LB}{a26:LV}{a28:Int}{a30:Int}{a32:Int}{a34:Int}{a36:Int}{a38:Int}{a40:Int}{a42:Int}{a44:LI}{a46:LT}{a48:Int}{a50:Int}{a52:Int}{a54:LI}{a56:LT}{a58:LC}{a60:LC}{a62:LI}{a64:Int}{a66:LB}{z:Config}(hz:ConfS z)(xs:LI)(hxl:xs.length<1000)(hnext:z0v a0 a2 a7 a9 a12 a14 a16 ([a9,a2]:List (List (Play))) ((List.length ([a9,a2]:List (List (Play))):Nat):Int) 0 a24 a26 a28 a30 a32 a34 a36 a38 a40 a42 a44 a46 a48 a50 a52 a54 a56 a58 a60 a62 a64 a66 z.Members=some true):∀(suf:LI)(k:Nat),xs.drop k=suf->z1s a0 a2 a7 a9 a12 a14 a16 xs ((xs.length:Nat):Int) (k:Int) a24 a26 a28 a30 a32 a34 a36 a38 a40 a42 a44 a46 a48 a50 a52 a54 a56 a58 a60 a62 a64 a66 z.Members=some true|[],k,h=>by apply ya3;rw[q0c h];simp_all|y::suf,k,h=>by have hlt:=q09 h;apply ya3;rw[q05 h,cT,q02 h,show Config.mk z.Members=z from rfl,qft hz.small,bS,qgn hz.small,bS,q0g,cF,qaa qht,bS,nT,cF,q03 (by omega)];exact yb2 hz xs hxl hnext suf (k+1) (q01 h)
theorem y89{a0:Int}{a2:LP}{a7:Int}{a9:LP}{a12:List Config}{a14:Int}{a16:Int}{a24:LB}{a26:LV}{a28:Int}{a30:Int}{a32:Int}{a34:Int}{a36:Int}{a38:Int}{a40:Int}{a42:Int}{a44:LI}{a46:LT}{a48:Int}{a50:Int}{a52:Int}{a54:LI}{a56:LT}{a58:LC}{a60:LC}{a62:LI}{a64:Int}{a66:LB}{z:Config}(hz:ConfS z)(xs:LI)(hxl:xs.length<1000)(hnext:z0v a0 a2 a7 a9 a12 a14 a16 ([a9,a2]:List (List (Play))) ((List.length ([a9,a2]:List (List (Play))):Nat):Int) 0 a24 a26 a28 a30 a32 a34 a36 a38 a40 a42 a44 a46 a48 a50 a52 a54 a56 a58 a60 a62 a64 a66 z.Members=some true):∀(suf:LI)(k:Nat),xs.drop k=suf->z1q a0 a2 a7 a9 a12 a14 a16 xs ((xs.length:Nat):Int) (k:Int) a24 a26 a28 a30 a32 a34 a36 a38 a40 a42 a44 a46 a48 a50 a52 a54 a56 a58 a60 a62 a64 a66 z.Members=some true|[],k,h=>by apply y94;rw[q0c h];simp_all|y::suf,k,h=>by have hlt:=q09 h;apply y94;rw[q05 h,cT,q02 h,show Config.mk z.Members=z from rfl,qft hz.small,bS,qgn hz.small,bS,q0g,cF,qaa qht,bS,nT,cF,q03 (by omega)];exact y89 hz xs hxl hnext suf (k+1) (q01 h)
theorem yaw{a9:LB}{a47:LI}{a49:Int}{a51:LB}{p:Play}(hp:SmallP p){n m r:Meeting}{e:Int}(hr:SmallMt r)(hc1:z4j n=some (r,e))(hc2:z7a n=some (r,e))(ms:List Meeting)(hml:ms.length<1000)(hms:∀x∈ms,SmallMt x):∀(suf:List Meeting)(k:Nat),ms.drop k=suf->z1f ms ((ms.length:Nat):Int) (k:Int) a9 m.Voters m.Stopped m.Ill p.Kind p.From p.To p.Claim.Topic p.Claim.Value p.Trust.Threshold p.Trust.Nodes p.Trust.Inner p.Message.Node p.Message.Seq p.Message.Trust.Threshold p.Message.Trust.Nodes p.Message.Trust.Inner p.Message.Votes p.Message.Accepts a47 a49 a51 n.Voters n.Stopped n.Ill=some true|[],k,h=>by apply y8t;rw[q0c h,cF,show Meeting.mk n.Voters n.Stopped n.Ill=n from rfl,hc1,bS,hc2,bS,q0e,cT,qaa hr,bS,cT,qju];rfl|x::suf,k,h=>by have hlt:=q09 h;have hx:=hms x (List.mem_of_mem_drop (i:=k) (by simp_all));obtain⟨s,q1,q2⟩:=y0q hx m;apply y8t;rw[q05 h,cT,q02 h,y7m,y7y hx hp,bS,qo4 hx hp,bS,qz8 hx,bS,y04 hx,bS,q0g,cF,qaa (qzj x p),bS,nT,cF,q0g,cF,q0g,cF,beq_self_eq_true,nT,cF,q6y hx,bS,q6x hx,bS,beq_self_eq_true,nT,cF,show Meeting.mk m.Voters m.Stopped m.Ill=m from rfl,q1,bS,q2,bS,beq_self_eq_true,nT,cF,q03 (by omega)];exact yaw hp hr hc1 hc2 ms hml hms suf (k+1) (q01 h)
theorem y5z{made:LP}(hl:made.length<=400):∃r e,z4j (runG c i0 made).1=some (r,e)/\z7a (runG c i0 made).1=some (r,e)/\SmallMt r:=by
 by_cases h:(runG c i0 made).2.2=0;·obtain⟨h1,h2,h3⟩:=qrx hl h;obtain⟨m',g1,g2,g3⟩:=y2u h2 h1 (by omega) h3;exact⟨m',0,g1,g2,g3.small h2⟩
 .have he:(runG c i0 made).1=q1u:=by unfold runG at h⊢;grind
  rw[he];exact⟨q1u,1,qmv.1,qmv.2,q49⟩
theorem ybd{ill i0:Int}{l made:LP}{m:Meeting}{p:Play}{c:Config}{a17:LB}{a55:LI}{a57:Int}(hp:SmallP p)(hm:SmallMt m)(hmade:PlaysS made)(hl:PlaysS l)(hcs:ConfS c)(zs:List Config)(hzl:zs.length<1000)(hzs:∀z∈zs,ConfS z):∀(suf:List Config)(k:Nat),zs.drop k=suf->z1r ill l i0 made zs ((zs.length:Nat):Int) (k:Int) a17 m.Voters m.Stopped m.Ill p.Kind p.From p.To p.Claim.Topic p.Claim.Value p.Trust.Threshold p.Trust.Nodes p.Trust.Inner p.Message.Node p.Message.Seq p.Message.Trust.Threshold p.Message.Trust.Nodes p.Message.Trust.Inner p.Message.Votes p.Message.Accepts a55 a57 c.Members=some true
 |[],k,h=>by
  obtain⟨r,e,g1,g2,g3⟩:=y5z (c:=c) (i0:=i0) hmade.len;have hr:=qo5 hcs.small i0 (fun p hp=>(hmade.all p hp).1);apply ybe;rw[q0c h,cF,show Config.mk c.Members=c from rfl,hr,bS];exact yaw hp g3 g1 g2 [(runG c i0 made).1,m] (by simp) (fun x hx=>by
   simp at hx;rcases hx with rfl|rfl;·exact qlv
   omega) _ 0 rfl|z::suf,k,h=>by have hlt:=q09 h;have hz:=hzs z (List.mem_of_mem_drop (i:=k) (by simp_all));apply ybe;rw[q05 h,cT,q02 h];exact yb2 hz [i0,ill] (by simp) (y2o hz [made,l] (by simp) (fun y hy=>by grind) (by rw[q03 (by omega)];exact ybd hp hm hmade hl hcs zs hzl hzs suf (k+1) (q01 h)) _ 0 rfl) _ 0 rfl
theorem yi0{l made:LP}{m:Meeting}{p:Play}{a17:LB}{a55:LI}{a57:Int}(hp:SmallP p)(hm:SmallMt m)(hmade:PlaysS made)(hl:PlaysS l)(hcs:ConfS c)(z:Config)(zs:List Config)(hzl:(z::zs).length<1000)(hzs:∀x∈z::zs,ConfS x):z3d ill l i0 made (z::zs) (((z::zs).length:Nat):Int) 0 a17 m.Voters m.Stopped m.Ill p.Kind p.From p.To p.Claim.Topic p.Claim.Value p.Trust.Threshold p.Trust.Nodes p.Trust.Inner p.Message.Node p.Message.Seq p.Message.Trust.Threshold p.Message.Trust.Nodes p.Message.Trust.Inner p.Message.Votes p.Message.Accepts a55 a57 c.Members=some true:=by have hz:=hzs z (by simp);apply ydc;rw[q04 (by simp),cT,q0m (y:=z) (by omega) rfl];exact y89 hz [i0,ill] (by simp) (y2o hz [made,l] (by simp) (fun y hy=>by grind) (ybd hp hm hmade hl hcs (z::zs) hzl hzs zs 1 rfl) _ 0 rfl) _ 0 rfl
theorem y4a{ill i0:Int}{l:LP}{m:Meeting}{p:Play}{c rc:Config}{tl:LI}(hp:SmallP p)(hm:SmallMt m)(hl:PlaysS l){n:Nat}(hn:n<=10)(hc:ConfOk n c)(hcs:ConfS c)(hrc:ConfS rc):∀(rest dn:LP)(j:Int),(dn++rest).length<=400->(∀p∈dn,SmallP p/\Fits p.Trust)->(∀p∈rest,SmallP p/\TB p.Trust/\TB p.Message.Trust)->q0n tl j->z1c ill l i0 (dn++rest) (((dn++rest).length:Nat):Int) ((dn.length:Nat):Int) rc.Members m.Voters m.Stopped m.Ill p.Kind p.From p.To p.Claim.Topic p.Claim.Value p.Trust.Threshold p.Trust.Nodes p.Trust.Inner p.Message.Node p.Message.Seq p.Message.Trust.Threshold p.Message.Trust.Nodes p.Message.Trust.Inner p.Message.Votes p.Message.Accepts tl j c.Members=some true
 |[],dn,j,hlen,hd,_,ht=>by obtain⟨h1,h2⟩:=hc.CB' hn;obtain⟨bc,j1,g1,g2,g3⟩:=y6c h1 h2 ht;have hdn:PlaysS (dn++[]):=⟨hlen,fun p hp=>hd p (by simp_all)⟩;apply y8g;rw[q00 (by simp),cF,show Config.mk c.Members=c from rfl,g1,bS];exact yi0 hp hm hdn hl hcs c [bc,rc] (by simp) (fun x hx=>by
   simp at hx;rcases hx with rfl|rfl|rfl;·exact hcs
   .exact⟨g2.small,Nat.le_of_lt g2.1,fun m hm=>by have:=(g2.2 m hm).1;unfold Fits;omega⟩
   omega)|q::rest,dn,j,hlen,hd,hr,ht=>by
  have hq:=hr q (by simp);have hll:(dn++q::rest).length=dn.length+(rest.length+1):=by simp
  have hget:(dn++q::rest)[((dn.length:Nat):Int).toNat]?=some q:=by simp
  obtain⟨x0,j0,g0,_,_,a0⟩:=N_ok (n:=8) (by omega) (by omega) ht;have hqs:SmallP q/\Fits q.Trust:=⟨hq.1,by have:=hq.2.1.1;unfold Fits;omega⟩;have e1:∀y:Play,dn++y::rest=(dn++[y])++rest:=fun y=>by simp
  apply y8g;rw[q04 (by omega),cT,g0,bS]
  dsimp only;by_cases e7:x0=7;·obtain⟨y,j1,g1,g2,a1⟩:=y79 hq a0;rw[e7,q0e,cT,q0m (by omega) hget,q2p hget,g1,bS];dsimp only;rw[q0m (by omega) hget,q2p hget,y2e,tN,show(dn++q::rest).set dn.length y=(dn++[y])++rest by rw[List.set_append_right _ _ (Nat.le_refl _),Nat.sub_self,List.set_cons_zero];simp,q03 (by omega),show((dn++q::rest).length:Nat)=((dn++[y])++rest).length by simp];have:=y4a (ill:=ill) (i0:=i0) hp hm hl hn hc hcs hrc rest (dn++[y]) j1 (by simp at hlen⊢;omega) (fun z hz=>by
    rcases List.mem_append.1 hz with hz|hz;·exact hd z hz
    .simp at hz;rw[hz];exact g2) (fun z hz=>hr z (by simp[hz])) a1;rw[show((dn++[y]).length:Nat)=dn.length+1 by simp]at this;omega
  .rw[q0d e7,cF,q03 (by omega),e1 q];have:=y4a (ill:=ill) (i0:=i0) hp hm hl hn hc hcs hrc rest (dn++[q]) j0 (by simp at hlen⊢;omega) (fun z hz=>by
    rcases List.mem_append.1 hz with hz|hz;·exact hd z hz
    .simp at hz;rw[hz];exact hqs) (fun z hz=>hr z (by simp[hz])) a0;grind
theorem y5p(t:LI)(rc:Config)(ill:Int)(l:LP)(m:Meeting)(p:Play)(hrc:∀x∈rc.Members,raw x.Trust=true)(hl:∀x∈l,RawP x)(hm:∀v∈m.Voters,RawV v)(hp:RawP p):law20_AssemblyAnswers t rc ill l m p=some true:=by obtain⟨b1,g1,u1⟩:=y5g hrc;obtain⟨b2,g2,u2⟩:=qm8 l 12 (by omega) hl;obtain⟨b3,g3,u3⟩:=qyn m hm;obtain⟨b4,g4,u4⟩:=qm8 [p] 1 (by omega) (fun x hx=>by simp_all);have g2:z4g l 12=some b2:=g2;have g4:z4g [p] 1=some b4:=g4;apply law20_AssemblyAnswers_le;rw[g1,bS];cases b1 with|false=>simp only[Bool.not_false,cT,qju];rfl|true=>rw[nT,cF,g2,bS];cases b2 with|false=>simp only[Bool.not_false,cT,qju];rfl|true=>rw[nT,cF,g3,bS];cases b3 with|false=>simp only[Bool.not_false,cT,qju];rfl|true=>rw[nT,cF,y2e,g4,bS];cases b4 with|false=>simp only[Bool.not_false,cT,qju];rfl|true=>obtain⟨c1,c2⟩:=u1 rfl;obtain⟨l1,l2⟩:=u2 rfl;have hms:=u3 rfl;obtain⟨_,p2⟩:=u4 rfl;have hps:=(p2 p (by simp)).1;have hcr:ConfS rc:=⟨⟨by omega,fun m hm=>by have:=c2 m hm;unfold Small;omega⟩,by omega,fun m hm=>by have:=c2 m hm;unfold Fits;omega⟩;obtain⟨tl,q0,a0⟩:=yfn t;obtain⟨c,j1,q1,hc,hd,a1⟩:=yct (n:=4) (by omega) (by omega) a0;obtain⟨i0,j2,q2,hi,a2⟩:=y7b hc (by omega) a1;obtain⟨made,j3,q3,hmd,hml,a3⟩:=y5w (N:=c.Members.length) hc.pos (by have:=hc.le;omega) (d:=true) rfl (ill:=((i0:Nat):Int)) (n:=14) (by omega) a2;have q1:z9w 4 tl 0=some (c,tl,j1):=q1;have q3:z9t c (i0:Int) 14 true tl j2=some ((),tl,j3,made):=q3;have hcs:ConfS c:=⟨hc.smallC (by omega),by have:=hc.le;omega,fun m hm=>by have:=((hc.CB' (by omega)).2 m hm).1;unfold Fits;omega⟩;rw[nT,cF,q0,bS];dsimp only;rw[q1,bS];dsimp only;rw[q2,bS];dsimp only;rw[q3,bS];exact y4a (dn:=[]) hps hms ⟨by omega,l2⟩ (n:=4) (by omega) hc hcs hcr made j3 (by simp_all) (fun _ h=>by cases h) (fun x hx=>⟨(hmd x hx).small,(hmd x hx).tb⟩) a3
theorem yc5:qom env (qb3 an):=by
 intro h hok;have hlt:h<lastF+1:=by have:okF h=true:=hok;simp only[okF,aT,dT]at this;omega
 have h1:=List.all_eq_true.1 qoh h (List.mem_range.2 hlt);have hok':okF h=true:=hok;rw[hok',nT,Bool.false_or]at h1;unfold q5x at h1;cases hf:Tryz.prog.funcs[h]? with|none=>simp[hf]at h1|some fn=>cases hb:fn.body with|none=>simp[hf,hb]at h1|some c=>simp only[hf,hb,aT,dT]at h1;exact⟨fn,c,hf,hb,h1.1,fun hl=>by have h2:=h1.2;rw[hl]at h2;exact h2⟩
theorem yef(n:Nat):qcf env n:=sound (E:=env) mixed yc5 y6a n
end Go.Proofs.YtdmfjabikomgiaaGreat
namespace Go.Ab
open Go Go.ChangeShapes Go.WideShapes Go.RowKit
variable {Y : Type} {k m n : Nat} {t : TypeId} {cs : List Value} {a : List D}
def Shows(w:World)(ds:List D)(cs:List Value):Prop:=cs.length=ds.length/\∀(j:Nat)c,ds[j]?=some c->Rep w q4o c (cs.getD j undef)
section
variable {H : Type} {enc : TypeId × Value -> H} {P : Program} {w : World} {spare : Nat -> Bool} {held : Bool}
def Opens(enc:TypeId×Value->H)(P:Program)(w:World)(spare:Nat->Bool)(held:Bool)(n:Nat)(t:TypeId)(f:Y->D)(good:Y->Prop):Prop:=∀cs d p,DataW.trod enc P w 0 spare held n t cs=some (d,p)->(d.weights P t).all (·<=reachBytes)=true->∃y,good y/\Shows w (f y).cells cs
theorem qf5{v:Value}{d:D}(h:Rep w q4o d v):Shows w [d] [v]:=⟨rfl,fun j c hj=>by grind⟩
theorem q38{k:IntKind}(ht:P.underlying t=some (.int k)):Opens enc P w spare held n t (fun z:Int=>D.v (.int k z)) (fun z=>(Lit.int k z).wf=true):=by intro cs d p h _;obtain⟨z,rfl,hx,hw⟩:=DataW.trod_int ht h;exact⟨z,hw,qf5 (.v _ rfl)⟩
theorem qzz(ht:P.underlying t=some .bool):Opens enc P w spare held n t (fun z:Bool=>D.v (.bool z)) (fun _=>True):=by intro cs d p h _;obtain⟨z,rfl,hx⟩:=DataW.trod_bool ht h;exact⟨z,trivial,qf5 (.v _ rfl)⟩
theorem qcc{e:TypeId}:∀{l:List (DataW H)},(DataW.weightsAll P e l).all (·<=reachBytes)=true->∀d∈l,(d.weights P e).all (·<=reachBytes)=true
 |[],_,d,hd=>by grind|x::r,h,d,hd=>by
  simp only[DataW.weightsAll,List.all_append,aT]at h;rcases List.mem_cons.1 hd with rfl|hd;·grind
  .exact qcc h.2 d hd
theorem q36:∀{ts:List TypeId}{l:List (DataW H)},(DataW.weightsEach P ts l).all (·<=reachBytes)=true->∀(i:Nat)t d,ts[i]?=some t->l[i]?=some d->(d.weights P t).all (·<=reachBytes)=true|[],_,_,i,t,d,h1,_=>by grind|_::_,[],_,i,t,d,_,h2=>by grind|t0::ts,d0::l,h,i,t,d,h1,h2=>by simp only[DataW.weightsEach,List.all_append,aT]at h;cases i with|zero=>simp_all|succ i=>exact q36 h.2 i t d (by simp_all) (by simp_all)
theorem ybf{Y:Type}{Q:Nat->Y->Prop}:∀(n:Nat),(∀i,i<n->∃y,Q i y)->∃ys:List Y,ys.length=n/\∀(i:Nat)y,ys[i]?=some y->Q i y|0,_=>⟨[],rfl,fun i y h=>by grind⟩|n+1,h=>by obtain⟨ys,h1,h2⟩:=ybf n (fun i hi=>h i (by omega));obtain⟨y,hy⟩:=h n (by omega);refine⟨ys++[y],by simp[h1],fun i z hz=>?_⟩;grind
theorem qkm{a:Addr}(h:w.cells? 0 a n=some cs):cs.length=n/\∀i,i<n->w.cell? (a.add i)=cs[i]?:=by unfold World.cells? at h;rw[if_pos (Nat.zero_le _)]at h;exact⟨by simpa using mapM_some_length h,fun i hi=>mapM_some_get h i i (by grind)⟩
theorem y0h{a:Addr}{u:Value}(h:w.cell? (a.add 0)=some u):a.spot=none:=by
 simp only[Addr.add,if_true,World.cell?]at h;split at h
 .split at h;·cases h
  .rename_i hs;simpa using hs
 grind
theorem q2i{sz:Nat}{e:TypeId}{f:Y->D}{good:Y->Prop}(ht:P.underlying t=some (.slice e))(hsz:P.cellsOf e=sz)(hpos:0<sz)(hb:8<=P.bytesOf e)(hf:∀y,(f y).cells.length=sz)(he:∀m,m<n->Opens enc P w spare held m e f good):Opens enc P w spare held n t (fun ys:List Y=>D.list (ys.map f)) (fun ys=>ys.length<1152921504606846976/\∀y∈ys,good y):=by
 intro cs d p h hw;rcases DataW.trod_slice ht h with⟨rfl,hx⟩|⟨a,len,cap,elems,rest,n',rfl,rfl,hx,_,hlc,_,hlen,hel,_,_⟩;·exact⟨[],⟨by simp,by simp⟩,qf5 (.empty _ _)⟩
 .simp only[pI]at hx;obtain⟨rfl,_⟩:=hx;simp only[DataW.weights,ht,List.all_cons,List.all_append,aT,dT,List.length_map]at hw;obtain⟨hw1,hw2,_⟩:=hw;have each:∀i,i<len->∃y,good y/\∃cs',w.cells? 0 (a.add (i*sz)) sz=some cs'/\Shows w (f y).cells cs':=by
   intro i hi;have h1:=hel i hi;have hie:i<elems.length:=by omega
   rw[List.getElem?_eq_getElem hie,Option.bind_eq_some_iff,hsz]at h1;obtain⟨cs',h2,h3⟩:=h1;obtain⟨y,g1,g2⟩:=he n' (by omega) cs' elems[i].1 elems[i].2 h3 (qcc hw2 _ (List.mem_map.2 ⟨_,List.getElem_mem hie,rfl⟩));grind
  obtain⟨ys,y1,y2⟩:=ybf len each;have hlenb:ys.length<1152921504606846976:=by have h8:len*8<=(elems.length+rest.length)*P.bytesOf e:=Nat.mul_le_mul (by omega) hb;have:reachBytes=140737488351232:=rfl;omega
  refine⟨ys,⟨hlenb,fun y hy=>?_⟩,qf5 ?_⟩;·obtain⟨i,hi⟩:=List.getElem?_of_mem hy;grind
  .by_cases h0:len=0;·have:ys=[]:=List.length_eq_zero_iff.1 (by omega);subst this;subst h0;exact .empty _ _
   .have hsp:a.spot=none:=by
     obtain⟨y,_,cs',h2,_⟩:=each 0 (by omega);obtain⟨h3,h4⟩:=qkm h2;have h5:=h4 0 hpos;have hlt:0<cs'.length:=by omega
     rw[List.getElem?_eq_getElem hlt,Nat.zero_mul]at h5;have:=y0h h5;simpa[Addr.add]using this
    obtain⟨b,off,sp⟩:=a;simp only at hsp;subst hsp;have hml:(ys.map f).length=len:=by simp[y1]
    have key:=Rep.list (w:=w) (I:=q4o) (ys.map f) b off cap sz (fun i j=>(w.cell? ⟨b,off+i*sz+j,none⟩).getD undef) (fun x hx=>by obtain⟨y,_,rfl⟩:=List.mem_map.1 hx;exact hf y) (by rw[hml];exact hlc) (fun i x hx j c hj=>by rw[List.getElem?_map]at hx;cases hy:ys[i]? with|none=>rw[hy]at hx;cases hx|some y=>
       rw[hy]at hx;simp only[mS,sI]at hx;subst hx;obtain⟨_,cs',h2,h3,h4⟩:=y2 i y hy;obtain⟨h5,h6⟩:=qkm h2;have hj':j<sz:=by rw[<-hf y];exact(List.getElem?_eq_some_iff.1 hj).1
       have h7:=h6 j hj';have hlt:j<cs'.length:=by omega
       rw[add_plain,add_plain,List.getElem?_eq_getElem hlt]at h7;exact⟨by rw[h7];rfl,trivial⟩) (fun i x hx j c hj=>by rw[List.getElem?_map]at hx;cases hy:ys[i]? with|none=>rw[hy]at hx;cases hx|some y=>
       rw[hy]at hx;simp only[mS,sI]at hx;subst hx;obtain⟨_,cs',h2,h3,h4⟩:=y2 i y hy;obtain⟨h5,h6⟩:=qkm h2;have hj':j<sz:=by rw[<-hf y];exact(List.getElem?_eq_some_iff.1 hj).1
       have h7:=h6 j hj';have hlt:j<cs'.length:=by omega
       rw[add_plain,add_plain,List.getElem?_eq_getElem hlt]at h7;have h8:=h4 j c hj;rw[List.getD_eq_getElem?_getD,List.getElem?_eq_getElem hlt]at h8;rw[h7];exact h8);simp_all
theorem q45{fs:Array Field}{d:DataW H}{p:List MemPlace}(ht:P.underlying t=some (.struct fs))(h:DataW.trod enc P w 0 spare held n t cs=some (d,p))(hw:(d.weights P t).all (·<=reachBytes)=true):∃m,n=m+1/\cs.length=P.cellsOf t/\∀(i:Nat)(f:Field),fs[i]?=some f->∃d' p',DataW.trod enc P w 0 spare held m f.type ((cs.drop f.offset).take (P.cellsOf f.type))=some (d',p')/\(d'.weights P f.type).all (·<=reachBytes)=true:=by
 obtain⟨xs,m,rfl,hx,hl,hn,hf⟩:=DataW.trod_struct ht h;simp only[pI]at hx;obtain⟨rfl,_⟩:=hx;simp only[DataW.weights,ht]at hw;refine⟨m,rfl,hl,fun i f hi=>?_⟩;have hlt:i<xs.length:=by grind
 have h1:=hf i f hi;rw[List.getElem?_eq_getElem hlt]at h1;exact⟨_,_,h1,q36 hw i f.type _ (by simp_all) (by grind)⟩
theorem q1h{b:List D}(hm:a.length=m)(h1:Shows w a ((cs.drop k).take m))(h2:Shows w b (cs.drop (k+m))):Shows w (a++b) (cs.drop k):=by
 have hle:m<=cs.length-k:=by have:=h1.1;grind
 refine⟨by have:=h2.1;grind,fun j c hj=>?_⟩;rw[List.getElem?_append]at hj;split at hj;·rename_i hlt;have:=h1.2 j c hj;grind
 .rename_i hge;have:=h2.2 _ c hj;grind
theorem q5u(h:Shows w a ((cs.drop k).take m))(hm:cs.length=k+m):Shows w a (cs.drop k):=by rw[List.take_of_length_le (by simp_all)]at h;exact h
theorem qk6{ds:List D}{cs:Array Value}(h:Shows w ds cs.toList):Rep w q4o (.agg ds) (.agg cs):=.agg ds cs (by simpa using h.1) (fun j c hj=>by have:=h.2 j c hj;simp_all)
end
end Go.Ab
namespace Go.Proofs.YtdmfjabikomgiaaGreat
open Go Go.Ab Go.ChangeShapes Go.WideShapes Go.RowKit
section
variable {H : Type} {enc : TypeId × Value -> H} {w : World} {spare : Nat -> Bool} {held : Bool}
theorem qtz(t:Trust):(q0z t).cells.length=3:=by cases t;rfl
theorem yc4{l:LT}(h:∀x∈l,raw x=true):raws l=true:=by induction l with|nil=>rfl|cons y r ih=>simp only[raws,h y (by simp),ih (fun x hx=>h x (by grind)),Bool.and_self]
theorem q8y:∀n,Opens enc Tryz.prog w spare held n 56 q0z (fun t=>raw t=true):=by intro n;induction n using Nat.strongRecOn with|_ n ih=>
  intro cs d p h hw;obtain⟨m,rfl,hl,hf⟩:=q45 Tryz.underlying56 h hw;have c56:Tryz.prog.cellsOf 56=3:=by kernel_rfl
  have c3:Tryz.prog.cellsOf 3=1:=by kernel_rfl
  have c22:Tryz.prog.cellsOf 22=1:=by kernel_rfl
  have c54:Tryz.prog.cellsOf 54=1:=by kernel_rfl
  have b3:Tryz.prog.bytesOf 3=8:=by kernel_rfl
  have b56:8<=Tryz.prog.bytesOf 56:=of_decide_eq_true (by kernel_rfl);obtain⟨d0,p0,t0,w0⟩:=hf 0 _ rfl;obtain⟨d1,p1,t1,w1⟩:=hf 1 _ rfl;obtain⟨d2,p2,t2,w2⟩:=hf 2 _ rfl;replace t0:DataW.trod enc Tryz.prog w 0 spare held m 3 ((cs.drop 0).take (Tryz.prog.cellsOf 3))=some (d0,p0):=t0;replace t1:DataW.trod enc Tryz.prog w 0 spare held m 22 ((cs.drop 1).take (Tryz.prog.cellsOf 22))=some (d1,p1):=t1;replace t2:DataW.trod enc Tryz.prog w 0 spare held m 54 ((cs.drop 2).take (Tryz.prog.cellsOf 54))=some (d2,p2):=t2;rw[c3]at t0;rw[c22]at t1;rw[c54]at t2;obtain⟨z,z1,z2⟩:=q38 Tryz.underlying3 _ _ _ t0 w0;obtain⟨ns,n1,n2⟩:=q2i (f:=q23) (good:=fun z=>(Lit.int .i64 z).wf=true) Tryz.underlying22 c3 (by decide) (by omega) (fun _=>rfl) (fun k _=>q38 Tryz.underlying3) _ _ _ t1 w1;obtain⟨is,i1,i2⟩:=q2i (f:=q0z) (good:=fun t=>raw t=true) Tryz.underlying54 c56 (by decide) b56 qtz (fun k hk=>ih k (by omega)) _ _ _ t2 w2;refine⟨⟨z,ns,is⟩,?_,?_⟩;·have:=bounds_i64 z1;show raw ⟨z,ns,is⟩=true;rw[yb9];simp only[aT,dT];exact⟨by omega,n1.1,i1.1,yc4 i1.2⟩
  .show Shows w ([D.v (.int .i64 z)]++([D.list (ns.map q23)]++[D.list (q3r is)])) (cs.drop 0);rw[q2w];exact q1h (m:=1) rfl z2 (q1h (m:=1) rfl n2 (q5u i2 (by omega)))
theorem qs9(n:Nat):Opens enc Tryz.prog w spare held n 111 q1o (fun m=>raw m.Trust=true):=by
 intro cs d p h hw;obtain⟨m,rfl,hl,hf⟩:=q45 Tryz.underlying111 h hw;have c111:Tryz.prog.cellsOf 111=4:=by kernel_rfl
 have c56:Tryz.prog.cellsOf 56=3:=by kernel_rfl
 have c4:Tryz.prog.cellsOf 4=1:=by kernel_rfl
 obtain⟨d0,p0,t0,w0⟩:=hf 0 _ rfl;obtain⟨d1,p1,t1,w1⟩:=hf 1 _ rfl;replace t0:DataW.trod enc Tryz.prog w 0 spare held m 4 ((cs.drop 0).take (Tryz.prog.cellsOf 4))=some (d0,p0):=t0;replace t1:DataW.trod enc Tryz.prog w 0 spare held m 56 ((cs.drop 1).take (Tryz.prog.cellsOf 56))=some (d1,p1):=t1;rw[c4]at t0;rw[c56]at t1;obtain⟨b,_,z2⟩:=qzz Tryz.underlying4 _ _ _ t0 w0;obtain⟨t,g1,g2⟩:=q8y _ _ _ _ t1 w1;refine⟨⟨b,t⟩,g1,?_⟩;obtain⟨thr,ns,is⟩:=t;show Shows w ([D.v (.bool b)]++[.v (.int .i64 thr),.list (ns.map q23),.list (is.map q0z)]) (cs.drop 0);rw[<-q2w];exact q1h (m:=1) rfl z2 (q5u g2 (by omega))
theorem qru(n:Nat):Opens enc Tryz.prog w spare held n 27 q3q (fun c=>∀m∈c.Members,raw m.Trust=true):=by
 intro cs d p h hw;obtain⟨m,rfl,hl,hf⟩:=q45 Tryz.underlying27 h hw;have c27:Tryz.prog.cellsOf 27=1:=by kernel_rfl
 have c111:Tryz.prog.cellsOf 111=4:=by kernel_rfl
 have c25:Tryz.prog.cellsOf 25=1:=by kernel_rfl
 have b111:8<=Tryz.prog.bytesOf 111:=of_decide_eq_true (by kernel_rfl);obtain⟨d0,p0,t0,w0⟩:=hf 0 _ rfl;replace t0:DataW.trod enc Tryz.prog w 0 spare held m 25 ((cs.drop 0).take (Tryz.prog.cellsOf 25))=some (d0,p0):=t0;rw[c25]at t0;obtain⟨ms,g1,g2⟩:=q2i (f:=q1o) (good:=fun m=>raw m.Trust=true) Tryz.underlying25 c111 (by decide) b111 (fun _=>rfl) (fun k _=>qs9 k) _ _ _ t0 w0;exact⟨⟨ms⟩,g1.2,q5u g2 (by omega)⟩
theorem q5e(n:Nat):Opens enc Tryz.prog w spare held n 66 q0h (fun _x=>True):=by
 intro cs d p h hw;obtain⟨m,rfl,hl,hf⟩:=q45 Tryz.underlying66 h hw;have c66:Tryz.prog.cellsOf 66=2:=by kernel_rfl
 have c3:Tryz.prog.cellsOf 3=1:=by kernel_rfl
 obtain⟨d0,p0,t0,w0⟩:=hf 0 _ rfl;replace t0:DataW.trod enc Tryz.prog w 0 spare held m 3 ((cs.drop 0).take (Tryz.prog.cellsOf 3))=some (d0,p0):=t0;rw[c3]at t0;obtain⟨z0,_,s0⟩:=q38 Tryz.underlying3 _ _ _ t0 w0;obtain⟨d1,p1,t1,w1⟩:=hf 1 _ rfl;replace t1:DataW.trod enc Tryz.prog w 0 spare held m 3 ((cs.drop 1).take (Tryz.prog.cellsOf 3))=some (d1,p1):=t1;rw[c3]at t1;obtain⟨z1,_,s1⟩:=q38 Tryz.underlying3 _ _ _ t1 w1;refine⟨⟨z0,z1⟩,trivial,?_⟩;show Shows w ([D.v (.int .i64 z0)]++([D.v (.int .i64 z1)])) (cs.drop 0);exact q1h (m:=1) rfl s0 (q5u s1 (by omega))
theorem qe4(n:Nat):Opens enc Tryz.prog w spare held n 68 q1d (fun x=>RawM x):=by
 intro cs d p h hw;obtain⟨m,rfl,hl,hf⟩:=q45 Tryz.underlying68 h hw;have c66:Tryz.prog.cellsOf 66=2:=by kernel_rfl
 have c51:Tryz.prog.cellsOf 51=1:=by kernel_rfl
 have c68:Tryz.prog.cellsOf 68=7:=by kernel_rfl
 have c56:Tryz.prog.cellsOf 56=3:=by kernel_rfl
 have c3:Tryz.prog.cellsOf 3=1:=by kernel_rfl
 have b66:8<=Tryz.prog.bytesOf 66:=of_decide_eq_true (by kernel_rfl);obtain⟨d0,p0,t0,w0⟩:=hf 0 _ rfl;replace t0:DataW.trod enc Tryz.prog w 0 spare held m 3 ((cs.drop 0).take (Tryz.prog.cellsOf 3))=some (d0,p0):=t0;rw[c3]at t0;obtain⟨z0,_,s0⟩:=q38 Tryz.underlying3 _ _ _ t0 w0;obtain⟨d1,p1,t1,w1⟩:=hf 1 _ rfl;replace t1:DataW.trod enc Tryz.prog w 0 spare held m 3 ((cs.drop 1).take (Tryz.prog.cellsOf 3))=some (d1,p1):=t1;rw[c3]at t1;obtain⟨z1,_,s1⟩:=q38 Tryz.underlying3 _ _ _ t1 w1;obtain⟨d2,p2,t2,w2⟩:=hf 2 _ rfl;replace t2:DataW.trod enc Tryz.prog w 0 spare held m 56 ((cs.drop 2).take (Tryz.prog.cellsOf 56))=some (d2,p2):=t2;rw[c56]at t2;obtain⟨z2,g2,s2⟩:=q8y _ _ _ _ t2 w2;obtain⟨d3,p3,t3,w3⟩:=hf 3 _ rfl;replace t3:DataW.trod enc Tryz.prog w 0 spare held m 51 ((cs.drop 5).take (Tryz.prog.cellsOf 51))=some (d3,p3):=t3;rw[c51]at t3;obtain⟨z3,g3,s3⟩:=q2i (f:=q0h) (good:=fun _=>True) Tryz.underlying51 c66 (by decide) b66 (fun _=>rfl) (fun k _=>q5e k) _ _ _ t3 w3;obtain⟨d4,p4,t4,w4⟩:=hf 4 _ rfl;replace t4:DataW.trod enc Tryz.prog w 0 spare held m 51 ((cs.drop 6).take (Tryz.prog.cellsOf 51))=some (d4,p4):=t4;rw[c51]at t4;obtain⟨z4,g4,s4⟩:=q2i (f:=q0h) (good:=fun _=>True) Tryz.underlying51 c66 (by decide) b66 (fun _=>rfl) (fun k _=>q5e k) _ _ _ t4 w4;refine⟨⟨z0,z1,z2,z3,z4⟩,⟨g2,g3.1,g4.1⟩,?_⟩;obtain⟨thr,ns,is⟩:=z2;show Shows w ([D.v (.int .i64 z0)]++([D.v (.int .i64 z1)]++([D.v (.int .i64 thr),.list (ns.map q23),.list (is.map q0z)]++([D.list (z3.map q0h)]++([D.list (z4.map q0h)]))))) (cs.drop 0);rw[<-q2w is];exact q1h (m:=1) rfl s0 (q1h (m:=1) rfl s1 (q1h (m:=3) rfl s2 (q1h (m:=1) rfl s3 (q5u s4 (by omega)))))
theorem qtj(n:Nat):Opens enc Tryz.prog w spare held n 59 q39 (fun x=>RawV x):=by
 intro cs d p h hw;obtain⟨m,rfl,hl,hf⟩:=q45 Tryz.underlying59 h hw;have c66:Tryz.prog.cellsOf 66=2:=by kernel_rfl
 have c51:Tryz.prog.cellsOf 51=1:=by kernel_rfl
 have c57:Tryz.prog.cellsOf 57=1:=by kernel_rfl
 have c68:Tryz.prog.cellsOf 68=7:=by kernel_rfl
 have c56:Tryz.prog.cellsOf 56=3:=by kernel_rfl
 have c59:Tryz.prog.cellsOf 59=9:=by kernel_rfl
 have c3:Tryz.prog.cellsOf 3=1:=by kernel_rfl
 have b66:8<=Tryz.prog.bytesOf 66:=of_decide_eq_true (by kernel_rfl);have b68:8<=Tryz.prog.bytesOf 68:=of_decide_eq_true (by kernel_rfl);obtain⟨d0,p0,t0,w0⟩:=hf 0 _ rfl;replace t0:DataW.trod enc Tryz.prog w 0 spare held m 3 ((cs.drop 0).take (Tryz.prog.cellsOf 3))=some (d0,p0):=t0;rw[c3]at t0;obtain⟨z0,_,s0⟩:=q38 Tryz.underlying3 _ _ _ t0 w0;obtain⟨d1,p1,t1,w1⟩:=hf 1 _ rfl;replace t1:DataW.trod enc Tryz.prog w 0 spare held m 3 ((cs.drop 1).take (Tryz.prog.cellsOf 3))=some (d1,p1):=t1;rw[c3]at t1;obtain⟨z1,_,s1⟩:=q38 Tryz.underlying3 _ _ _ t1 w1;obtain⟨d2,p2,t2,w2⟩:=hf 2 _ rfl;replace t2:DataW.trod enc Tryz.prog w 0 spare held m 56 ((cs.drop 2).take (Tryz.prog.cellsOf 56))=some (d2,p2):=t2;rw[c56]at t2;obtain⟨z2,g2,s2⟩:=q8y _ _ _ _ t2 w2;obtain⟨d3,p3,t3,w3⟩:=hf 3 _ rfl;replace t3:DataW.trod enc Tryz.prog w 0 spare held m 51 ((cs.drop 5).take (Tryz.prog.cellsOf 51))=some (d3,p3):=t3;rw[c51]at t3;obtain⟨z3,g3,s3⟩:=q2i (f:=q0h) (good:=fun _=>True) Tryz.underlying51 c66 (by decide) b66 (fun _=>rfl) (fun k _=>q5e k) _ _ _ t3 w3;obtain⟨d4,p4,t4,w4⟩:=hf 4 _ rfl;replace t4:DataW.trod enc Tryz.prog w 0 spare held m 51 ((cs.drop 6).take (Tryz.prog.cellsOf 51))=some (d4,p4):=t4;rw[c51]at t4;obtain⟨z4,g4,s4⟩:=q2i (f:=q0h) (good:=fun _=>True) Tryz.underlying51 c66 (by decide) b66 (fun _=>rfl) (fun k _=>q5e k) _ _ _ t4 w4;obtain⟨d5,p5,t5,w5⟩:=hf 5 _ rfl;replace t5:DataW.trod enc Tryz.prog w 0 spare held m 51 ((cs.drop 7).take (Tryz.prog.cellsOf 51))=some (d5,p5):=t5;rw[c51]at t5;obtain⟨z5,g5,s5⟩:=q2i (f:=q0h) (good:=fun _=>True) Tryz.underlying51 c66 (by decide) b66 (fun _=>rfl) (fun k _=>q5e k) _ _ _ t5 w5;obtain⟨d6,p6,t6,w6⟩:=hf 6 _ rfl;replace t6:DataW.trod enc Tryz.prog w 0 spare held m 57 ((cs.drop 8).take (Tryz.prog.cellsOf 57))=some (d6,p6):=t6;rw[c57]at t6;obtain⟨z6,g6,s6⟩:=q2i (f:=q1d) (good:=fun x=>RawM x) Tryz.underlying57 c68 (by decide) b68 (fun _=>rfl) (fun k _=>qe4 k) _ _ _ t6 w6;refine⟨⟨z0,z1,z2,z3,z4,z5,z6⟩,⟨g2,g3.1,g4.1,g5.1,g6.1,g6.2⟩,?_⟩;obtain⟨thr,ns,is⟩:=z2;show Shows w ([D.v (.int .i64 z0)]++([D.v (.int .i64 z1)]++([D.v (.int .i64 thr),.list (ns.map q23),.list (is.map q0z)]++([D.list (z3.map q0h)]++([D.list (z4.map q0h)]++([D.list (z5.map q0h)]++([D.list (z6.map q1d)]))))))) (cs.drop 0);rw[<-q2w is];exact q1h (m:=1) rfl s0 (q1h (m:=1) rfl s1 (q1h (m:=3) rfl s2 (q1h (m:=1) rfl s3 (q1h (m:=1) rfl s4 (q1h (m:=1) rfl s5 (q5u s6 (by omega)))))))
theorem qm9(n:Nat):Opens enc Tryz.prog w spare held n 70 q1l (fun x=>RawP x):=by
 intro cs d p h hw;obtain⟨m,rfl,hl,hf⟩:=q45 Tryz.underlying70 h hw;have c66:Tryz.prog.cellsOf 66=2:=by kernel_rfl
 have c68:Tryz.prog.cellsOf 68=7:=by kernel_rfl
 have c70:Tryz.prog.cellsOf 70=15:=by kernel_rfl
 have c56:Tryz.prog.cellsOf 56=3:=by kernel_rfl
 have c3:Tryz.prog.cellsOf 3=1:=by kernel_rfl
 obtain⟨d0,p0,t0,w0⟩:=hf 0 _ rfl;replace t0:DataW.trod enc Tryz.prog w 0 spare held m 3 ((cs.drop 0).take (Tryz.prog.cellsOf 3))=some (d0,p0):=t0;rw[c3]at t0;obtain⟨z0,_,s0⟩:=q38 Tryz.underlying3 _ _ _ t0 w0;obtain⟨d1,p1,t1,w1⟩:=hf 1 _ rfl;replace t1:DataW.trod enc Tryz.prog w 0 spare held m 3 ((cs.drop 1).take (Tryz.prog.cellsOf 3))=some (d1,p1):=t1;rw[c3]at t1;obtain⟨z1,_,s1⟩:=q38 Tryz.underlying3 _ _ _ t1 w1;obtain⟨d2,p2,t2,w2⟩:=hf 2 _ rfl;replace t2:DataW.trod enc Tryz.prog w 0 spare held m 3 ((cs.drop 2).take (Tryz.prog.cellsOf 3))=some (d2,p2):=t2;rw[c3]at t2;obtain⟨z2,_,s2⟩:=q38 Tryz.underlying3 _ _ _ t2 w2;obtain⟨d3,p3,t3,w3⟩:=hf 3 _ rfl;replace t3:DataW.trod enc Tryz.prog w 0 spare held m 66 ((cs.drop 3).take (Tryz.prog.cellsOf 66))=some (d3,p3):=t3;rw[c66]at t3;obtain⟨z3,g3,s3⟩:=q5e _ _ _ _ t3 w3;obtain⟨d4,p4,t4,w4⟩:=hf 4 _ rfl;replace t4:DataW.trod enc Tryz.prog w 0 spare held m 56 ((cs.drop 5).take (Tryz.prog.cellsOf 56))=some (d4,p4):=t4;rw[c56]at t4;obtain⟨z4,g4,s4⟩:=q8y _ _ _ _ t4 w4;obtain⟨d5,p5,t5,w5⟩:=hf 5 _ rfl;replace t5:DataW.trod enc Tryz.prog w 0 spare held m 68 ((cs.drop 8).take (Tryz.prog.cellsOf 68))=some (d5,p5):=t5;rw[c68]at t5;obtain⟨z5,g5,s5⟩:=qe4 _ _ _ _ t5 w5;refine⟨⟨z0,z1,z2,z3,z4,z5⟩,⟨g4,g5⟩,?_⟩;obtain⟨ct,cv⟩:=z3;obtain⟨thr,ns,is⟩:=z4;obtain⟨mn,ms,⟨mt,mns,mis⟩,mv,ma⟩:=z5;show Shows w ([D.v (.int .i64 z0)]++([D.v (.int .i64 z1)]++([D.v (.int .i64 z2)]++([D.v (.int .i64 ct),.v (.int .i64 cv)]++([D.v (.int .i64 thr),.list (ns.map q23),.list (is.map q0z)]++([D.v (.int .i64 mn),.v (.int .i64 ms),.v (.int .i64 mt),.list (mns.map q23),.list (mis.map q0z),.list (mv.map q0h),.list (ma.map q0h)])))))) (cs.drop 0);rw[<-q2w is];exact q1h (m:=1) rfl s0 (q1h (m:=1) rfl s1 (q1h (m:=1) rfl s2 (q1h (m:=2) rfl s3 (q1h (m:=3) rfl s4 (q5u s5 (by omega))))))
theorem qo6(n:Nat):Opens enc Tryz.prog w spare held n 33 q2y (fun x=>∀v∈x.Voters,RawV v):=by
 intro cs d p h hw;obtain⟨m,rfl,hl,hf⟩:=q45 Tryz.underlying33 h hw;have c31:Tryz.prog.cellsOf 31=1:=by kernel_rfl
 have c33:Tryz.prog.cellsOf 33=3:=by kernel_rfl
 have c59:Tryz.prog.cellsOf 59=9:=by kernel_rfl
 have c3:Tryz.prog.cellsOf 3=1:=by kernel_rfl
 have b59:8<=Tryz.prog.bytesOf 59:=of_decide_eq_true (by kernel_rfl);obtain⟨d0,p0,t0,w0⟩:=hf 0 _ rfl;replace t0:DataW.trod enc Tryz.prog w 0 spare held m 31 ((cs.drop 0).take (Tryz.prog.cellsOf 31))=some (d0,p0):=t0;rw[c31]at t0;obtain⟨z0,g0,s0⟩:=q2i (f:=q39) (good:=fun x=>RawV x) Tryz.underlying31 c59 (by decide) b59 (fun _=>rfl) (fun k _=>qtj k) _ _ _ t0 w0;obtain⟨d1,p1,t1,w1⟩:=hf 1 _ rfl;replace t1:DataW.trod enc Tryz.prog w 0 spare held m 3 ((cs.drop 1).take (Tryz.prog.cellsOf 3))=some (d1,p1):=t1;rw[c3]at t1;obtain⟨z1,_,s1⟩:=q38 Tryz.underlying3 _ _ _ t1 w1;obtain⟨d2,p2,t2,w2⟩:=hf 2 _ rfl;replace t2:DataW.trod enc Tryz.prog w 0 spare held m 3 ((cs.drop 2).take (Tryz.prog.cellsOf 3))=some (d2,p2):=t2;rw[c3]at t2;obtain⟨z2,_,s2⟩:=q38 Tryz.underlying3 _ _ _ t2 w2;refine⟨⟨z0,z1,z2⟩,g0.2,?_⟩;show Shows w ([D.list (z0.map q39)]++([D.v (.int .i64 z1)]++([D.v (.int .i64 z2)]))) (cs.drop 0);exact q1h (m:=1) rfl s0 (q1h (m:=1) rfl s1 (q5u s2 (by omega)))
end
end Go.Proofs.YtdmfjabikomgiaaGreat
namespace Go.Proofs.YtdmfjabikomgiaaGreat
open Go Go.Ab Go.ChangeShapes Go.WideShapes Go.ChangeAt Go.WideMaps Go.WideElems Go.RowKit
theorem Tryz.own:ownKnob Tryz.prog.godebug=none:=by kernel_rfl
theorem Tryz.laidOut:laidOutB Tryz.prog=true:=by kernel_rfl
end Go.Proofs.YtdmfjabikomgiaaGreat
