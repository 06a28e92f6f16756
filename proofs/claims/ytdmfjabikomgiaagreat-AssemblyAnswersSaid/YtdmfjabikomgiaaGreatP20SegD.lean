/- Laws of the printed functions. -/
import Derived.Test.YtdmfjabikomgiaaGreatP20SegC
import Derived.Test.YtdmfjabikomgiaaGreatP20SegA
import Derived.Deep.RegionHeld3
import Derived.Shelf.SlSortCmp.NoneTotal
import Derived.Test.YtdmfjabikomgiaaGreatMachC
import Derived.WalkKit
import Derived.Lib.SmallJoins
import Derived.Deep.RegionLaw
import Derived.Deep.DrawnRows
import Derived.Deep.AppendLies
import Derived.OwnWalk
import Derived.Laws.OwnMore
import Derived.Test.YtdmfjabikomgiaaGreatP20Env
import Derived.Test.YtdmfjabikomgiaaGreatP20Df
namespace Go.Proofs.YtdmfjabikomgiaaGreat
open Go Go.Ab
variable {k : Nat} {m : Member}
def fillM(k:Nat)(m:Member):Member:=if m.Declared=true then m else⟨true,⟨1,[(k:Int)],[]⟩⟩
def q54(c:Config):Config:=⟨c.Members.mapIdx fillM⟩
theorem ql1{c:Config}(h:c.Members[k]?=some m):tr (q54 c) k=(fillM k m).Trust:=tr_at (by simp[q54,List.getElem?_mapIdx,h])
theorem qc8(c:Config):(q54 c).Members.length=c.Members.length:=by simp[q54]
theorem y63:∀k:Fin 10,valid ⟨1,[((k.val:Nat):Int)],[]⟩=true/\uses ⟨1,[((k.val:Nat):Int)],[]⟩=2^k.val:=by decide+kernel
theorem qpj{c:Config}(hc:ValidC c)(h:k<c.Members.length):valid (tr (q54 c) k)=true/\uses (tr (q54 c) k)<2^c.Members.length:=by
 have hget:c.Members[k]?=some c.Members[k]:=by simp
 have hm:=hc.2 _ (List.getElem_mem h);have hl:=hc.1;rw[ql1 hget];unfold fillM;unfold MemV at hm;split;·simp_all
 .obtain⟨h1,h2⟩:=y63 ⟨k,by omega⟩;refine⟨h1,?_⟩;rw[show uses _=_ from h2];exact Nat.pow_lt_pow_right (by decide) h
def qgy(c:Config)(ill:Int)(k r:Nat):Bool:=(List.range' k r).any fun i=>match c.Members[i]? with|some m=>!m.Declared&&!has ill.toNat (i:Int)|none=>false
theorem qlx{c:Config}{ill:Int}{r:Nat}(h:c.Members[k]?=some m):qgy c ill k (r+1)=((!m.Declared&&!has ill.toNat (k:Int))||qgy c ill (k+1) r):=by unfold qgy;grind
section
variable {c : Config} (hc : ValidC c) {ill : Int} (hi : 0 <= ill /\ ill < 1024) (a10 : LB) (a12 : LV) (a14 a16 a20 a22 : Int)
include hc in
theorem qlw(h:k<c.Members.length):ql9 (k:Int) (tr (q54 c) k)=(qax (q54 c) k,0)/\Small (tr (q54 c) k):=by
 obtain⟨hv,hu⟩:=qpj hc h;have hk:inR (k:Int)=true:=by have:=hc.1;simp[inR];omega
 exact⟨(qiz hk hv).1,q3j hv⟩
include hc hi in
theorem y37:∀(r k:Nat),k+r=c.Members.length->z2v ill c.Members ((c.Members.length:Nat):Int) (k:Int) a10 a12 a14 a16 ((List.range k).map (qax (q54 c))) a20 a22=some (if qgy c ill k r=true then(q1u,10)else(⟨q88 (q54 c),a20,a22⟩,0))
 |0,k,h=>by apply y9u;rw[q00 (by omega),cF,show qgy c ill k 0=false from rfl];rw[show q88 (q54 c)=(List.range k).map (qax (q54 c))by rw[q88,qc8,show c.Members.length=k by omega]];rfl|r+1,k,h=>by
  have hlt:k<c.Members.length:=by omega
  have hl:=hc.1;have hget:c.Members[k]?=some c.Members[k]:=by simp
  have ht:=ql1 hget;obtain⟨hs,hsm⟩:=qlw hc hlt;have ih:=y37 r (k+1) (by omega);rw[List.range_succ,List.map_append]at ih;obtain⟨z,rfl⟩:=Int.eq_ofNat_of_zero_le hi.1;apply y9u;rw[q04 (by omega),cT,q0m (y:=c.Members[k]) (by omega) (by simp),qlx hget,tN];unfold fillM at ht;cases hd:c.Members[k].Declared with|true=>rw[if_pos hd]at ht;rw[nT,cF,<-ht,qmm _ hsm,hs,bS,q0t,q06 (by simp[q07];omega),q03 (by omega),Bool.false_and,Bool.false_or];exact ih|false=>rw[if_neg (by simp[hd])]at ht;rw[Bool.not_false,cT,q1i (by omega),bS,tA'];cases hh:has z (k:Int)with|false=>rw[Bool.not_false,cT,Bool.true_or];rfl|true=>have ha:z8k (k:Int)=some ⟨1,[(k:Int)],[]⟩:=yf1 _ _ rfl;dsimp only at ht;rw[nT,cF,ha,bS,<-ht,qmm _ hsm,hs,bS,q0t,q06 (by simp[q07];omega),q03 (by omega),Bool.false_or];exact ih
include hc hi in
theorem qvz:∀(r k:Nat),k+r=c.Members.length->z4x ill c.Members ((c.Members.length:Nat):Int) (k:Int) a10 a12 a14 a16 ((List.range k).map (qax (q54 c))) a20 a22=some (if qgy c ill k r=true then(q1u,10)else(⟨q88 (q54 c),a20,a22⟩,0))
 |0,k,h=>by apply y8p;rw[q00 (by omega),cF,show qgy c ill k 0=false from rfl];rw[show q88 (q54 c)=(List.range k).map (qax (q54 c))by rw[q88,qc8,show c.Members.length=k by omega]];rfl|r+1,k,h=>by
  have hlt:k<c.Members.length:=by omega
  have hl:=hc.1;have hget:c.Members[k]?=some c.Members[k]:=by simp
  have ht:=ql1 hget;obtain⟨hs,hsm⟩:=qlw hc hlt;have ih:=qvz r (k+1) (by omega);rw[List.range_succ,List.map_append]at ih;obtain⟨z,rfl⟩:=Int.eq_ofNat_of_zero_le hi.1;apply y8p;rw[q04 (by omega),cT,q0m (y:=c.Members[k]) (by omega) (by simp),qlx hget,tN];unfold fillM at ht;cases hd:c.Members[k].Declared with|true=>rw[if_pos hd]at ht;rw[nT,cF,<-ht,qme _ hsm,hs,bS,q0t,q06 (by simp[q07];omega),q03 (by omega),Bool.false_and,Bool.false_or];exact ih|false=>rw[if_neg (by simp[hd])]at ht;rw[Bool.not_false,cT,q1b (by omega),bS,tA'];cases hh:has z (k:Int)with|false=>rw[Bool.not_false,cT,Bool.true_or];rfl|true=>dsimp only at ht;rw[nT,cF,<-ht,qme _ hsm,hs,bS,q0t,q06 (by simp[q07];omega),q03 (by omega),Bool.false_or];exact ih
end
noncomputable def q59(c:Config)(ill:Int):Meeting×Int:=if cerr c≠0 then(q1u,cerr c)else if c.Members.length=0 then(q1u,1)else if ill<0 then(q1u,1)else if((2^c.Members.length:Nat):Int)<=ill then(q1u,1)else if qgy c ill 0 c.Members.length=true then(q1u,10)else(⟨q88 (q54 c),0,ill⟩,0)
theorem qft{c:Config}(h:q31 c)(ill:Int):z60 c ill=some (q59 c ill):=by
 apply ygp;rw[y6v h,bS];unfold q59;by_cases h0:cerr c=0;case neg=>rw[q1c h0,cT,if_pos h0];rfl
 have hv:=qap.1 h0;have hl:=hv.1;have hpw:=qb4 hl;rw[h0,q0g,cF,if_neg (by simp)];by_cases h1:c.Members.length=0;case pos=>rw[show eqB ((c.Members.length:Nat):Int) 0=true by rw[h1];rfl,cT,if_pos h1];rfl
 rw[q0d (by omega),cF,if_neg h1];by_cases h2:ill<0;case pos=>rw[q04 h2,cT,if_pos h2];rfl
 rw[q00 (by omega),cF,if_neg h2,q0i (by omega),shlN hl];by_cases h3:((2^c.Members.length:Nat):Int)<=ill;case pos=>rw[q0s h3,cT,if_pos h3];rfl
 rw[q0v (by omega),cF,if_neg h3];exact y37 hv ⟨by omega,by omega⟩ _ _ _ _ _ _ c.Members.length 0 (by omega)
theorem qgn{c:Config}(h:q31 c)(ill:Int):z8e c ill=some (q59 c ill):=by
 apply yhf;rw[qny h,bS];unfold q59;by_cases h0:cerr c=0;case neg=>rw[q1c h0,cT,if_pos h0];rfl
 have hv:=qap.1 h0;have hl:=hv.1;have hpw:=qb4 hl;rw[h0,q0g,cF,if_neg (by simp)];by_cases h1:c.Members.length=0;case pos=>rw[show eqB ((c.Members.length:Nat):Int) 0=true by rw[h1];rfl,cT,if_pos h1];rfl
 rw[q0d (by omega),cF,if_neg h1];by_cases h2:ill<0;case pos=>rw[q04 h2,cT,if_pos h2];rfl
 rw[q00 (by omega),cF,if_neg h2,q0i (by omega),shlN hl];by_cases h3:((2^c.Members.length:Nat):Int)<=ill;case pos=>rw[q0s h3,cT,if_pos h3];rfl
 rw[q0v (by omega),cF,if_neg h3];exact qvz hv ⟨by omega,by omega⟩ _ _ _ _ _ _ c.Members.length 0 (by omega)
theorem q6v{c:Config}{ill:Int}(h:(q59 c ill).2=0):1<=c.Members.length/\c.Members.length<=10/\GoodMt c.Members.length 1 (q59 c ill).1:=by
 unfold q59 at h⊢;split at h;·omega
 rename_i h0;have hv:=qap.1 (Decidable.not_not.1 h0);have hl:=hv.1;split at h;·cases h
 split at h;·cases h
 split at h;·cases h
 split at h;·cases h
 rename_i h1 h2 h3 h4;rw[if_neg h0,if_neg h1,if_neg h2,if_neg h3,if_neg h4];exact⟨by omega,hl,y6z (by omega) hl (by rw[qn9,qc8]) ⟨by omega,by omega⟩ fun b hb=>⟨_,y17 (q54 c) (by rw[qc8];omega),qpj hv hb⟩⟩
theorem q49:SmallMt q1u:=⟨by simp[q1u],fun v hv=>by cases hv⟩
theorem qht{c:Config}{ill:Int}:SmallMt (q59 c ill).1:=by
 by_cases h:(q59 c ill).2=0;·obtain⟨_,h2,h3⟩:=q6v h;exact h3.small h2
 .have:(q59 c ill).1=q1u:=by unfold q59 at h⊢;grind
  rw[this];exact q49
noncomputable def runG(c:Config)(ill:Int)(l:LP):Meeting×LI×Int:=if(q59 c ill).2≠0 then(q1u,[],(q59 c ill).2)else if 400<l.length then(q1u,[],3)else((playM l (q59 c ill).1).1,(playM l (q59 c ill).1).2,0)
theorem qpd{c:Config}(h:q31 c)(ill:Int){l:LP}(hp:∀p∈l,SmallP p):z6j c ill l=some (runG c ill l):=by
 apply yfs;rw[qft h,bS];unfold runG;by_cases h0:(q59 c ill).2=0;case neg=>rw[q1c h0,cT,if_pos h0];rfl
 obtain⟨h1,h2,h3⟩:=q6v h0;rw[h0,q0g,cF,if_neg (by simp)];by_cases hl:400<l.length;case pos=>rw[q04 (by omega),cT,if_pos hl];rfl
 rw[q00 (by omega),cF,if_neg hl];exact qtc h2 l (by omega) hp _ _ _ _ l 0 1 [] _ rfl (Nat.le_refl _) h3 (by omega)
theorem qo5{c:Config}(h:q31 c)(ill:Int){l:LP}(hp:∀p∈l,SmallP p):z9f c ill l=some (runG c ill l):=by
 apply yel;rw[qgn h,bS];unfold runG;by_cases h0:(q59 c ill).2=0;case neg=>rw[q1c h0,cT,if_pos h0];rfl
 obtain⟨h1,h2,h3⟩:=q6v h0;rw[h0,q0g,cF,if_neg (by simp)];by_cases hl:400<l.length;case pos=>rw[q04 (by omega),cT,if_pos hl];rfl
 rw[q00 (by omega),cF,if_neg hl];exact qvn h2 l (by omega) hp _ _ _ _ l 0 1 [] _ rfl (Nat.le_refl _) h3 (by omega)
theorem qrx{c:Config}{ill:Int}{l:LP}(hl:l.length<=400)(h:(runG c ill l).2.2=0):1<=c.Members.length/\c.Members.length<=10/\GoodMt c.Members.length (1+l.length) (runG c ill l).1:=by
 unfold runG at h⊢;split at h;·simp_all
 rename_i h0;obtain⟨h1,h2,h3⟩:=q6v (Decidable.not_not.1 h0);rw[if_neg h0,if_neg (by omega)];exact⟨h1,h2,qs1 h2 l 1 _ h3 (by omega)⟩
theorem qlv{c:Config}{ill:Int}{l:LP}:SmallMt (runG c ill l).1:=by
 by_cases h:(runG c ill l).2.2=0
 .by_cases hl:l.length<=400;·obtain⟨_,h2,h3⟩:=qrx hl h;exact h3.small h2
  .unfold runG at h;grind
 .have:(runG c ill l).1=q1u:=by unfold runG at h⊢;grind
  rw[this];exact q49
theorem qju:law20_awake=some true:=by
 have hb:q59 c3 4=(⟨[a0,b0,d0],0,4⟩,0):=by unfold q59;rw[if_neg (by decide+kernel),if_neg (by decide),if_neg (by decide),if_neg (by decide),if_neg (by decide)];rfl
 have hr:=qpd (ValidC.small (qap.1 (by decide+kernel))) 4 (c:=c3) (l:=p3) (fun p hp=>by simp only[p3,List.mem_cons,List.not_mem_nil,or_false]at hp;rcases hp with rfl|rfl|rfl|rfl|rfl|rfl<;>exact⟨qf0,ql5⟩);unfold runG at hr;rw[hb,if_neg (by simp),if_neg (by decide),ycr]at hr;apply law20_awake_le;have h3:law20_three=some c3:=law20_three_le _ rfl;have hr':z6j c3 4 p3=some (⟨[a2,b3,d0],0,4⟩,[0,0,0,0,0,9],0):=hr;rw[h3,bS];show(z6j c3 4 p3).bind _=_;rw[hr',bS];have q1:z38 [x3] x3=some true:=by rw[qa0 _ (by decide)];rfl
 show((z38 [x3] x3).bind fun r=>bif r then(z38 [x3] x3).bind fun z=>some z else some false)=some true;grind
theorem qmn(a b:Meeting)(hl:a.Voters.length<1000000)(hk:a.Voters.length=b.Voters.length)(hs:∀v∈a.Voters,SmallV v):∀(suf suk:LV)(i:Nat),a.Voters.drop i=suf->b.Voters.drop i=suk->∃r,z00 b.Voters a.Voters ((a.Voters.length:Nat):Int) (i:Int)=some r/\(r=true↔suf=suk)
 |[],suk,i,h,h'=>by
  have:suk=[]:=by rw[<-h',List.drop_eq_nil_iff,<-hk];simp_all
  subst this;refine⟨true,y35 _ _ _ _ _ ?_,by simp⟩;rw[q0c h];rfl|y::suf,[],i,h,h'=>by have:=q09 h;have:=List.drop_eq_nil_iff.1 h';omega|y::suf,z::suk,i,h,h'=>by have hlt:=q09 h;have hy:=hs y (List.mem_of_mem_drop (i:=i) (by simp_all));obtain⟨r,g1,g2⟩:=qmn a b hl hk hs suf suk (i+1) (q01 h) (q01 h');have hv:=qsx (a:=y) (b:=z);cases he:sameV y z with|true=>refine⟨r,y35 _ _ _ _ _ ?_,by rw[g2,hv.1 he];simp⟩;rw[q05 h,cT,q02 h,q02 h',qpy hy,bS,he,nT,cF,q03 (by omega)];omega|false=>
   refine⟨false,y35 _ _ _ _ _ ?_,?_⟩;·rw[q05 h,cT,q02 h,q02 h',qpy hy,bS,he];rfl
   simp_all
theorem qym{a:Meeting}(h:SmallMt a)(b:Meeting):∃r,z4i a b=some r/\(r=true↔a=b):=by
 have key:∀r:Bool,a=b↔a.Voters=b.Voters/\a.Stopped=b.Stopped/\a.Ill=b.Ill:=fun _=>by cases a;cases b;simp
 by_cases h1:a.Stopped=b.Stopped;case neg=>exact⟨false,qwz _ _ _ (by rw[q0d h1];rfl),by simp;rintro rfl;exact h1 rfl⟩
 by_cases h2:a.Ill=b.Ill;case neg=>exact⟨false,qwz _ _ _ (by rw[h1,q0e,cT,q0d h2];rfl),by simp;rintro rfl;exact h2 rfl⟩
 by_cases h3:a.Voters.length=b.Voters.length;case neg=>exact⟨false,qwz _ _ _ (by have:z0b a.Voters b.Voters=some false:=yar _ _ _ (by rw[q1c (by omega)];rfl);rw[h1,q0e,cT,h2,q0e,cT,this];rfl),by simp;rintro rfl;exact h3 rfl⟩
 obtain⟨r,g1,g2⟩:=qmn a b h.len h3 h.voters a.Voters b.Voters 0 rfl rfl;have:z0b a.Voters b.Voters=some r:=yar _ _ _ (by rw[show neB ((a.Voters.length:Nat):Int) ((b.Voters.length:Nat):Int)=false by rw[h3];exact q0g _,cF];exact g1);refine⟨r,qwz _ _ _ ?_,?_⟩;·rw[show eqB a.Stopped b.Stopped=true by rw[h1];exact q0e _,cT,show eqB a.Ill b.Ill=true by rw[h2];exact q0e _,cT,this];rfl
 simp_all
theorem y0q{a:Meeting}(h:SmallMt a)(b:Meeting):∃r,z4i a b=some r/\z1z a b=some r:=by obtain⟨r,h1,h2⟩:=qym h b;obtain⟨s,h3,h4⟩:=qg3 h b;grind
theorem qaa{a:Meeting}(h:SmallMt a):z1z a a=some true:=by obtain⟨s,h3,h4⟩:=qg3 h a;simp_all
theorem qz7{b u:Voter}(h:Ready u):FreshA (turnV b u):=by obtain⟨s,_,h4,_⟩:=q4d b u;have hf:=h.settle.freshA;rw[h4];exact⟨hf.tr,hf.votes,hf.accs,hf.confs,hf.heard,hf.msgs⟩
theorem qnj{m:Meeting}{p:Play}(h:(stepM m p).2=0):(stepM m p).1.Voters.length<=10/\(∀v∈(stepM m p).1.Voters,FreshA v)/\∀v∈(stepM m p).1.Voters,SmallV v:=by
 obtain⟨ha,w,e,hw⟩:=q85 h;obtain⟨hv,_⟩:=q3p ha;have h2:=(q10.1 hv).1.2.1;have hvs:=q1v.1 (q10.1 hv).2;have hr:∀i,i<m.Voters.length->Ready (atV m.Voters i):=fun i hi=>(q14.1 (hvs i hi).2.1).1;have hmem:∀v∈m.Voters,Ready v:=fun v hv=>by obtain⟨i,hi⟩:=List.getElem?_of_mem hv;have hlt:i<m.Voters.length:=(List.getElem?_eq_some_iff.1 hi).1;rw[q2b hlt]at hi;grind
 have hwho:=y4w ha;have key:FreshA w/\SmallV w:=by
  rcases hw with⟨rfl,_⟩|⟨u,hm,rfl⟩;·exact⟨(hr _ hwho).freshA,(hr _ hwho).small⟩
  .have hu:=(qx7 ha hm).ready;exact⟨qz7 hu,qzs hu⟩
 rw[e];refine⟨by simp_all,fun v hv=>?_,fun v hv=>?_⟩
 .rcases List.mem_or_eq_of_mem_set hv with g|g;·exact(hmem v g).freshA
  simp_all
 .rcases List.mem_or_eq_of_mem_set hv with g|g;·exact(hmem v g).small
  simp_all
theorem qmd{m:Meeting}{p:Play}(h:(stepM m p).2≠0):(stepM m p).1=q1u:=by unfold stepM at h⊢;grind
theorem qzj(m:Meeting)(p:Play):SmallMt (stepM m p).1:=by
 by_cases h:(stepM m p).2=0;·obtain⟨h1,_,h3⟩:=qnj h;exact⟨by omega,h3⟩
 .rw[qmd h];exact q49
theorem y7y{m:Meeting}(h:SmallMt m){p:Play}(hp:SmallP p):z93 m p=some (stepM m p):=by
 apply yhk;rw[qop h hp,bS];have:z3v (stepM m p).1=some (stepM m p).1:=by
  by_cases h0:(stepM m p).2=0;·obtain⟨h1,h2,_⟩:=qnj h0;exact qkh (by omega) h2
  .rw[qmd h0];exact qkh (by simp[q1u]) fun v hv=>by cases hv
 simp_all
end Go.Proofs.YtdmfjabikomgiaaGreat
namespace Go.Proofs.YtdmfjabikomgiaaGreat
open Go Go.Ab Go.RowKit Go.Sort Go.Shelf Go.Lib
set_option maxRecDepth 100000 in
theorem y65(x:Int)(W:World):Calls Tryz.prog 230 #[.int .i64 x] W fun e w'=>e=.returned (.bool false)/\w'=W:=by go_enter Tryz.func230,Tryz.ntmps230;go_wp2;go_ret;exact⟨by simp,rfl⟩
def sgnI(x y:Int):Int:=if x<y then-1 else if y<x then 1 else 0
set_option maxRecDepth 100000 in
theorem qxo(x y:Int)(W:World):Calls Tryz.prog 205 #[.int .i64 x,.int .i64 y] W fun e w'=>e=.returned (.int .i64 (sgnI x y))/\w'=W:=by
 have hn:=y65;unfold sgnI;go_enter Tryz.func205,Tryz.ntmps205;go_wp2_with(go_at_call 230;refine(hn _ _).mono ?_;rintro e w'⟨rfl,rfl⟩);all_goals go_ret
 all_goals exact⟨rfl,rfl⟩
def orSgn(x y:Int):Int:=if x=0 then y else x
set_option maxRecDepth 100000 in
theorem qmy(x y:Int)(b:Nat)(W:World)(c0:W.cell? ⟨b,0,none⟩=some (.int .i64 x))(c1:W.cell? ⟨b,1,none⟩=some (.int .i64 y)):Calls Tryz.prog 219 #[.slice (some ⟨b,0,none⟩) 2 2] W fun e w'=>e=.returned (.int .i64 (orSgn x y))/\w'=W:=by
 go_enter Tryz.func219,Tryz.ntmps219;go_wp2;refine wp_loop_rounds 3 ?_;rw[rounds_succ];go_wp2
 .go_ret;rename_i h;have:x≠0:=by simpa using h
  exact⟨by simp[orSgn,this],rfl⟩
 .rw[rounds_succ];rename_i h;have hx:x=0:=by simpa using h
  subst hx;go_wp2;·go_ret;exact⟨by simp[orSgn],rfl⟩
  .rw[rounds_succ];rename_i h;have hy:y=0:=by simpa using h
   subst hy;go_wp2;go_ret;exact⟨by simp[orSgn],rfl⟩
set_option maxRecDepth 100000 in
theorem y3z(x y:Int×Int)(W:World):Calls Tryz.prog 190 #[.agg #[.int .i64 x.1,.int .i64 x.2],.agg #[.int .i64 y.1,.int .i64 y.2]] W fun e w'=>e=.returned (.int .i64 (orSgn (sgnI x.1 y.1) (sgnI x.2 y.2)))/\∃q os',w'=grow (W.drewN q) os':=by
 have hc:=qxo;have ho:=qmy;generalize hW1:W.alloc (.cells #[.int .i64 x.1,.int .i64 x.2] 66)=W1 at*;generalize hW2:W1.alloc (.cells #[.int .i64 y.1,.int .i64 y.2] 66)=W2 at*;have b1:W2.heap[W.heap.size]?=some (.cells #[.int .i64 x.1,.int .i64 x.2] 66 (0,0)):=by rw[<-hW2,heap_alloc_old W1 _ (by rw[<-hW1];simp),<-hW1];exact heap_alloc_new W _
 have b2:W2.heap[W1.heap.size]?=some (.cells #[.int .i64 y.1,.int .i64 y.2] 66 (0,0)):=by rw[<-hW2];exact heap_alloc_new W1 _
 have k0:=cell_of_row W2 _ 0 _ _ _ b1;have k1:=cell_of_row W2 _ 1 _ _ _ b1;have k2:=cell_of_row W2 _ 0 _ _ _ b2;have k3:=cell_of_row W2 _ 1 _ _ _ b2;simp only[List.size_toArray,List.length_cons,List.length_nil,Nat.zero_add,Nat.reduceAdd,Nat.reduceLT,getElem?_pos,List.getElem_toArray,List.getElem_cons_zero,List.getElem_cons_succ]at k0 k1 k2 k3;clear b1 b2;clear hc ho;have hc:=qxo;have ho:=qmy;go_enter Tryz.func190,Tryz.ntmps190;go_wp2;go_region_held3(fun w'=>w'.cell? ⟨W.heap.size,0,none⟩=some (.int .i64 x.1)/\w'.cell? ⟨W.heap.size,1,none⟩=some (.int .i64 x.2)/\w'.cell? ⟨W1.heap.size,0,none⟩=some (.int .i64 y.1)/\w'.cell? ⟨W1.heap.size,1,none⟩=some (.int .i64 y.2))(go_keep)(first|(go_at_call 205;refine(hc _ _ _).mono ?_;rintro e w'⟨rfl,rfl⟩)|(go_at_call 219;refine(ho (sgnI x.1 y.1) (sgnI x.2 y.2) _ _ (cell_of_row _ _ 0 _ _ _ (heap_alloc_new _ _)) (cell_of_row _ _ 1 _ _ _ (heap_alloc_new _ _))).mono ?_;rintro e w'⟨rfl,rfl⟩));all_goals go_wp2
 go_ret;subst hW2;subst hW1;exact⟨rfl,1,_,by rw[alloc_eq_grow,alloc_eq_grow,alloc_eq_grow,grow_grow,grow_grow];rfl⟩
theorem qt7{E:Env0}{X:Cx}{w w':World}{xs ds:List D}{b cap sz:Nat}{cur':Array Value}{e:TypeId}(h:HRel E X [[.own xs false]] w)(hu:X.mu[0]?=some (.head (.slice (some ⟨b,0,none⟩) ds.length cap)))(hG:X.G b=some (.cell 0 0,0))(hg:w.grownBy w' (some b))(hb:w'.heap[b]?=some (.cells cur' e (0,0)))(hs:∀x∈ds,x.cells.length=sz)(hz:0<sz)(hne:ds≠[])(hsz:cur'.size=cap*sz)(hcap:ds.length<=cap)(hml:cap<=maxLen)(hc:∀(i:Nat)x,ds[i]?=some x->∀(j:Nat)c,x.cells[j]?=some c->∃u,cur'[i*sz+j]?=some u/\Rep w X.imm c u):∃X1,(∃more,X1.mu=X.mu++more)/\Ext X w X1 w'/\HRel E X1 [[.own ds false]] w'/\ResRel w' X1 (.tup []) (.tuple #[]):=by
 have hE:Ext X w X w':=by
  refine⟨rfl,hg.size,hg.os,hg.tape,hg.output,fun c hc hn=>⟨hn,hg.block c hc fun e=>?_⟩,fun c l k hk=>⟨fun l' k' e=>?_,fun o ho=>?_⟩⟩;·simp_all
  .simp_all
  .by_cases hcb:c=b;·grind
   .exact cell?_of_heap (hg.block c (h.gdom c l k hk) fun e=>by simp_all) o
 refine⟨X,⟨[],by simp⟩,hE,⟨fun t=>trivial,fun t ht=>by obtain⟨v,hv,hne⟩:=ht;exact absurd hv.symm hne,h.mu,fun o cs hcs=>?_,fun b l k e=>Nat.lt_of_lt_of_le (h.gdom b l k e) hg.size,fun b o hb=>h.amb b o (Nat.le_trans hg.size hb),h.oamb,fun g cs hgl j c hj=>?_,rfl⟩,.inl ⟨⟨rfl,rfl,(fun _ e=>by cases e),⟨#[],rfl,rfl,fun j c hj=>by grind⟩⟩,rfl⟩⟩;·cases o with|zero=>simp at hcs;subst hcs;refine .inr ⟨_,_,hu,rfl,.inr (.inr ⟨b,cap,cur',e,sz,rfl,hG,hb,hs,hz,hne,hsz,hcap,hml,fun i x hx j c hj=>?_⟩)⟩;obtain⟨u,hu,hr⟩:=hc i x hx j c hj;exact⟨u,hu,hE.rep hr⟩|succ o=>simp_all
 .obtain⟨u,h1,h2,h3⟩:=h.glob g cs hgl j c hj;exact⟨u,(hE.point h1 h2).1,(hE.point h1 h2).2,hE.rep h3⟩
def encZ(p:Int×Int):List Value:=[.int .i64 p.1,.int .i64 p.2]
def cmpZ(x y:Int×Int):Int:=orSgn (sgnI x.1 y.1) (sgnI x.2 y.2)
theorem qke(x y:Int×Int):ltOf cmpZ x y=q5c x y:=by
 have h:ltOf cmpZ x y=true↔q5c x y=true:=by by_cases a:x.1<y.1<;>by_cases b:y.1<x.1<;>by_cases c:x.2<y.2<;>by_cases d:y.2<x.2<;>simp[ltOf,cmpZ,orSgn,sgnI,q5c,a,b,c,d]<;>omega
 cases h1:ltOf cmpZ x y<;>cases h2:q5c x y<;>simp_all
theorem swoZ:SWO (ltOf cmpZ):=by refine⟨fun x=>?_,fun x y z h h'=>?_,fun x y z h h'=>?_⟩<;>simp only[qke,q5c,Bool.or_eq_true,aT,dT,Bool.or_eq_false_iff,Bool.and_eq_false_iff,decide_eq_false_iff_not]at*<;>omega
theorem partZ(x y:Int×Int)(h:ltOf cmpZ x y=false)(h':ltOf cmpZ y x=false):x=y:=by simp only[qke,q5c,Bool.or_eq_false_iff,Bool.and_eq_false_iff,decide_eq_false_iff_not]at*;grind
def y12:Go.Shelf.Ren:=⟨fun|6=>253|15=>267|14=>266|28=>278|29=>279|20=>270|21=>271|22=>272|23=>273|24=>274|25=>275|26=>276|27=>277|46=>280|47=>281|48=>282|49=>283|50=>284|57=>285|n=>n,fun|22=>51|24=>66|25=>177|3=>3|39=>199|0=>0|53=>219|55=>221|4=>4|46=>225|45=>224|50=>187|5=>5|9=>9|66=>230|70=>234|76=>236|77=>153|n=>n,fun|n=>n⟩
theorem sortL:Go.Proofs.SlLaysF0.n6 Tryz.prog y12:={
 mixed:=by rfl
 f6:=⟨("slices.SortFunc[[]trustquorum/api.Claim,trustquorum/api.Claim]"),by rfl,Tryz.func253.trans (congrArg some (by rfl))⟩
 f14:=⟨("slices.pdqsortCmpFunc[trustquorum/api.Claim]"),by rfl,Tryz.func266.trans (congrArg some (by rfl))⟩
 f15:=Tryz.func267.trans (congrArg some (by rfl))
 f20:=⟨("slices.insertionSortCmpFunc[trustquorum/api.Claim]"),by rfl,Tryz.func270.trans (congrArg some (by rfl))⟩
 f21:=⟨("slices.heapSortCmpFunc[trustquorum/api.Claim]"),by rfl,Tryz.func271.trans (congrArg some (by rfl))⟩
 f22:=⟨("slices.breakPatternsCmpFunc[trustquorum/api.Claim]"),by rfl,Tryz.func272.trans (congrArg some (by rfl))⟩
 f23:=⟨("slices.choosePivotCmpFunc[trustquorum/api.Claim]"),by rfl,Tryz.func273.trans (congrArg some (by rfl))⟩
 f24:=⟨("slices.reverseRangeCmpFunc[trustquorum/api.Claim]"),by rfl,Tryz.func274.trans (congrArg some (by rfl))⟩
 f25:=⟨("slices.partialInsertionSortCmpFunc[trustquorum/api.Claim]"),by rfl,Tryz.func275.trans (congrArg some (by rfl))⟩
 f26:=⟨("slices.partitionEqualCmpFunc[trustquorum/api.Claim]"),by rfl,Tryz.func276.trans (congrArg some (by rfl))⟩
 f27:=⟨("slices.partitionCmpFunc[trustquorum/api.Claim]"),by rfl,Tryz.func277.trans (congrArg some (by rfl))⟩
 f28:=Tryz.func278.trans (congrArg some (by rfl))
 f29:=Tryz.func279.trans (congrArg some (by rfl))
 f46:=⟨("slices.siftDownCmpFunc[trustquorum/api.Claim]"),by rfl,Tryz.func280.trans (congrArg some (by rfl))⟩
 f47:=Tryz.func281.trans (congrArg some (by rfl))
 f48:=Tryz.func282.trans (congrArg some (by rfl))
 f49:=⟨("slices.medianAdjacentCmpFunc[trustquorum/api.Claim]"),by rfl,Tryz.func283.trans (congrArg some (by rfl))⟩
 f50:=⟨("slices.medianCmpFunc[trustquorum/api.Claim]"),by rfl,Tryz.func284.trans (congrArg some (by rfl))⟩
 f57:=⟨("slices.order2CmpFunc[trustquorum/api.Claim]"),by rfl,Tryz.func285.trans (congrArg some (by rfl))⟩
 t0:=Tryz.underlying0
 a0:=Tryz.isAgg0
 z0:=Tryz.sizeOf0
 v0:=Tryz.zeroValue0
 t3:=Tryz.underlying3
 a3:=Tryz.isAgg3
 z3:=Tryz.sizeOf3
 v3:=Tryz.zeroValue3
 t4:=Tryz.underlying4
 a4:=Tryz.isAgg4
 z4:=Tryz.sizeOf4
 v4:=Tryz.zeroValue4
 t5:=Tryz.underlying5
 a5:=Tryz.isAgg5
 z5:=Tryz.sizeOf5
 v5:=Tryz.zeroValue5
 t9:=Tryz.underlying9
 a9:=Tryz.isAgg9
 z9:=Tryz.sizeOf9
 v9:=Tryz.zeroValue9
 t22:=Tryz.underlying51
 a22:=Tryz.isAgg51
 z22:=Tryz.sizeOf51
 v22:=Tryz.zeroValue51
 t25:=Tryz.underlying177
 a25:=Tryz.isAgg177
 z25:=Tryz.sizeOf177
 v25:=Tryz.zeroValue177
 t39:=Tryz.underlying199
 a39:=Tryz.isAgg199
 z39:=Tryz.sizeOf199
 v39:=Tryz.zeroValue199
 t45:=Tryz.underlying224
 a45:=Tryz.isAgg224
 z45:=Tryz.sizeOf224
 v45:=Tryz.zeroValue224
 t46:=Tryz.underlying225
 a46:=Tryz.isAgg225
 z46:=Tryz.sizeOf225
 v46:=Tryz.zeroValue225
 t50:=Tryz.underlying187
 a50:=Tryz.isAgg187
 z50:=Tryz.sizeOf187
 v50:=Tryz.zeroValue187
 t53:=Tryz.underlying219
 a53:=Tryz.isAgg219
 z53:=Tryz.sizeOf219
 v53:=Tryz.zeroValue219
 t55:=Tryz.underlying221
 a55:=Tryz.isAgg221
 z55:=Tryz.sizeOf221
 v55:=Tryz.zeroValue221
 t66:=Tryz.underlying230
 a66:=Tryz.isAgg230
 z66:=Tryz.sizeOf230
 v66:=Tryz.zeroValue230
 t70:=Tryz.underlying234
 a70:=Tryz.isAgg234
 z70:=Tryz.sizeOf234
 v70:=Tryz.zeroValue234
 t76:=Tryz.underlying236
 a76:=Tryz.isAgg236
 z76:=Tryz.sizeOf236
 v76:=Tryz.zeroValue236
 t77:=Tryz.underlying153
 a77:=Tryz.isAgg153
 z77:=Tryz.sizeOf153
 v77:=Tryz.zeroValue153}
theorem qvc{w:World}{b n:Nat}{cur:Array Value}{e:TypeId}{d:Array (Int×Int)}{os:Array Obj}(hw:w.heap[b]?=some (.cells cur e (0,0))):(sortWorldK encZ 2 w b 0 n d os).heap[b]?=some (.cells (Go.Sort.putCells id 0 (Go.Sort.flatK encZ 2 d) cur) e (0,0))/\w.grownBy (sortWorldK encZ 2 w b 0 n d os) (some b):=by
 have hb:b<w.heap.size:=(Array.getElem?_eq_some_iff.1 hw).1;have hs:(Go.Sort.putRowK encZ 2 (Go.Sort.ahead w n) b 0 d).heap.size=w.heap.size:=by simp[Go.Sort.putRowK]
 refine⟨?_,⟨rfl,rfl,rfl,?_,fun k hk hne=>?_⟩⟩;·rw[sortWorldK,Go.Sort.heap_grow_old _ _ (by omega)];simp[Go.Sort.putRowK,Go.Sort.putRow,Go.Sort.mapBlock,hw,Go.Sort.onCells,Array.getElem?_modify]
 .rw[sortWorldK,Go.Sort.size_grow,hs];omega
 .rw[sortWorldK,Go.Sort.heap_grow_old _ _ (by omega)];have:b≠k:=fun e=>hne (by rw[e]);simp[Go.Sort.putRowK,Go.Sort.putRow,Go.Sort.mapBlock,Array.getElem?_modify,this]
theorem y7u:LibOk env 253 (qbt 190):=by
 intro vs hp v hp' hm X w args hH hA;unfold qbt at hm;split at hm
 .rename_i g' xs;split at hm
  .rename_i l hl;split at hm
   .rename_i hcnd;obtain⟨rfl,hlen⟩:=hcnd;simp only[sI,pI]at hm;obtain⟨rfl,rfl⟩:=hm;obtain⟨rfl,_⟩:=qai hl;obtain⟨hmu,hown⟩:=qiw hH (hA.2 0 _ rfl).2;obtain⟨cb,hv1,hcb,_⟩:=(hA.2 1 _ rfl).2;have hcb0:cb=#[]:=Array.eq_empty_of_size_eq_zero hcb;have ha:args=#[args.getD 0 undef,.func (.func 190) #[] #[]]:=by
     have hs:args.size=2:=hA.1;subst hcb0;rw[<-hv1];apply Array.ext;·exact hs
     .intro i h1 h2;rw[hs]at h1;rcases(by omega:i=0\/i=1)with rfl|rfl<;>simp[Array.getD_eq_getD_getElem?,hs]
    rw[ha];generalize args.getD 0 undef=u at hmu hown;rcases hown with⟨h0,a,rfl⟩|⟨h0,_⟩|⟨b,cap,cur,e,sz,rfl,hg,hw,hs,hz,hne,hsz,hcap,hmax,hcells⟩
    .have:l=[]:=by simpa using h0
     subst this;refine(AnyF.slices_SortFunc_none sortL a 0 _ w).mono ?_;rintro e w1⟨rfl,rfl⟩;refine⟨_,rfl,X,⟨[],by simp⟩,Ext.refl X _,by simpa using hH,.inl ⟨⟨rfl,rfl,(fun _ e=>by cases e),⟨#[],rfl,rfl,fun j c hj=>by cases hj⟩⟩,rfl⟩⟩
    .cases h0
    .have hsz2:sz=2:=by obtain⟨x,hx⟩:=List.exists_mem_of_ne_nil _ hne;obtain⟨p,_,rfl⟩:=List.mem_map.1 hx;rw[<-hs _ hx];rfl
     subst hsz2;rw[List.length_map]at*;simp only[fT,if_false]at hg;have hbs:b<w.heap.size:=(Array.getElem?_eq_some_iff.1 hw).1;have hcell:∀j p,l[j]?=some p->cur[j*2]?=some (.int .i64 p.1)/\cur[j*2+1]?=some (.int .i64 p.2):=fun j p hj=>by
      have hj':(l.map fun p:Int×Int=>D.agg [.v (.int .i64 p.1),.v (.int .i64 p.2)])[j]?=some (.agg [.v (.int .i64 p.1),.v (.int .i64 p.2)]):=by rw[List.getElem?_map,hj];rfl
      obtain⟨u0,k0,r0⟩:=hcells j _ hj' 0 _ rfl;obtain⟨u1,k1,r1⟩:=hcells j _ hj' 1 _ rfl;rw[q0y r0]at k0;rw[q0y r1]at k1;exact⟨k0,k1⟩
     have hH0:HoldsK encZ 2 w b 0 l.toArray:=fun j hj=>by
      refine⟨?_,frozen_of_row w b _ cur e hw⟩;have hj2:j<l.length*2:=by simpa[size_flatK]using hj
      rw[get_flatK _ _ _ _ (by simpa using hj2),Nat.zero_add,cell_of_row w b j cur e (0,0) hw];have hj3:j/2<l.length:=by omega
      obtain⟨k0,k1⟩:=hcell (j/2) l[j/2] (by simp[hj3]);have e3:l.toArray[j/2]! =l[j/2]:=by rw[getElem!_pos _ _ (by simpa using hj3)];simp
      rw[e3];rcases(by omega:j%2=0\/j%2=1)with h|h;·rw[show j/2*2=j by omega]at k0;rw[h];simpa[encZ]using k0
      .rw[show j/2*2+1=j by omega]at k1;rw[h];simpa[encZ]using k1
     have hcon:=AnyQ.slices_SortFunc_total sortL 2 Tryz.isAgg66 Tryz.sizeOf66 encZ (fun _=>rfl) (fun x v hv=>by simp[encZ]at hv;rcases hv with rfl|rfl<;>rfl) cmpZ swoZ 190 #[] b 0 cap l.toArray w (enters_of Tryz.func190 (by kernel_rfl) rfl) (fun _ _ _ _ x y=>y3z x y _) hH0 hbs (by simp;unfold q07 at hlen;omega) partZ;rw[List.size_toArray]at hcon;refine Calls.mono hcon ?_;rintro e1 w1⟨rfl,n,os,rfl⟩;have hS:(l.mergeSort fun x y=>!ltOf cmpZ y x)=l.mergeSort fun x y=>!q5c y x:=by congr 1;funext x y;rw[qke]
     rw[hS];generalize hL:(l.mergeSort fun x y=>!q5c y x)=L;have hLl:L.length=l.length:=by rw[<-hL,List.length_mergeSort]
     obtain⟨hb',hgr⟩:=qvc (n:=n) (d:=L.toArray) (os:=os) hw;have hH1:HoldsK encZ 2 (sortWorldK encZ 2 w b 0 n L.toArray os) b 0 L.toArray:=holdsK_grow encZ 2 _ os b 0 _ (by simp[putRowK];exact hbs) (holdsK_putRowK encZ 2 (Go.Sort.ahead w n) b 0 _ _ (holdsK_ahead encZ 2 w n b 0 _ hH0) (by simp[hLl]));have hlm:(L.map twoD).length=l.length:=by rw[List.length_map,hLl]
     refine⟨_,rfl,qt7 (sz:=2) hH (by rw[hlm];exact hmu) hg hgr hb' (fun x hx=>by obtain⟨p,_,rfl⟩:=List.mem_map.1 hx;rfl) (by decide) (fun e=>hne (by rw[List.map_eq_nil_iff]at e⊢;exact List.length_eq_zero_iff.1 (by rw[<-hLl,e];rfl))) (by simpa[putCells]using hsz) (by rw[hlm];exact hcap) hmax fun i x hx j c hj=>?_⟩;rw[List.getElem?_map,Option.map_eq_some_iff]at hx;obtain⟨p,hp,rfl⟩:=hx;have hi:i<L.length:=(List.getElem?_eq_some_iff.1 hp).1;have hj2:j<2:=(List.getElem?_eq_some_iff.1 hj).1;have hcc:=(HoldsK.cell hH1 (i:=i) (c:=j) (by simpa using hi) hj2).1;rw[cell_of_row _ _ _ _ _ _ hb',Nat.zero_add]at hcc;have e3:L.toArray[i]! =p:=by rw[getElem!_pos _ _ (by simpa using hi)];simpa using(List.getElem?_eq_some_iff.1 hp).2
     rw[e3]at hcc;refine⟨_,hcc,?_⟩;rcases(by omega:j=0\/j=1)with rfl|rfl;·simp[twoD,D.cells]at hj;subst hj;exact .v _ rfl
     .simp[twoD,D.cells]at hj;subst hj;exact .v _ rfl
   .cases hm
  .cases hm
 simp_all
end Go.Proofs.YtdmfjabikomgiaaGreat
namespace Go.Proofs.YtdmfjabikomgiaaGreat
open Go Go.Ab Go.RowKit
variable {B b c cap g k x y z : Nat} {w w0 w2 wa wq wr : World} {a cur : Array Value} {hd u v z0 z1 z2 : Value} {xs : List D}
attribute [local go_sem ↓] Go.wp_at_zero Go.wp_at_succ
abbrev Sl:=Option Addr×Nat×Nat
abbrev T3:=Int×Sl×Sl
def rowT(t:T3):List Value:=[.int .i64 t.1,.slice t.2.1.1 t.2.1.2.1 t.2.1.2.2,.slice t.2.2.1 t.2.2.2.1 t.2.2.2.2]
structure RowsC(b:Nat)(w:World)(ds:List (List T3))(cur:Array Value):Prop where
 blk:w.heap[b]?=some (.cells cur 54 (0,0))size:cur.size=ds.length
 row:∀j d,ds[j]?=some d->w.ownsRow (b+1) 56 3 (cur.getD j undef) d.length (d.flatMap rowT)sep:∀i j g,i≠j->(cur.getD i undef).ownBlock=some g->(cur.getD j undef).ownBlock≠some g
def RowsT(b:Nat)(w:World)(ds:List (List T3)):Prop:=∃cur,RowsC b w ds cur
theorem qa5(w:World){a c:Addr}(h:a.block≠c.block)(u v:Value):(w.setCell a u).setCell c v=(w.setCell c v).setCell a u:=by unfold World.setCell;congr 1;grind
theorem qnm{ds:List (List T3)}{d:List T3}{t:T3}(hC:RowsC b w ds cur)(hk:ds[k]?=some d)(hc:c=d.length)(hv:cur.getD k undef=v)(hgr:w.grownBy w2 v.ownBlock)(hgb:b+1<=g)(hat:v.ownBlock=some g\/w.heap.size<=g)(hga:w2.grownBy wa (some g))(s3:wa.ownsRow (b+1) 56 3 (.slice (some ⟨g,0,none⟩) (c+1) cap) (c+1) ((d++[t]).flatMap rowT)):RowsC b (wa.setCell ⟨b,k,none⟩ (.slice (some ⟨g,0,none⟩) (c+1) cap)) (ds.modify k (·++[t])) (cur.setIfInBounds k (.slice (some ⟨g,0,none⟩) (c+1) cap)):=by
 have hne:g≠b:=by omega
 have hrk:=hC.row k d hk;rw[hv]at hrk;have hvb:∀g',v.ownBlock=some g'->b+1<=g':=fun g' e=>(hrk.lt g' e).1;have hbw:b<w.heap.size:=(Array.getElem?_eq_some_iff.1 hC.blk).1;have hba:wa.heap[b]?=some (.cells cur 54 (0,0)):=by rw[hga.block b (Nat.lt_of_lt_of_le hbw hgr.size) (fun e=>hne (Option.some.inj e).symm),hgr.block b hbw (fun e=>by grind)];exact hC.blk
 have hkl:k<cur.size:=by rw[hC.size];grind
 have hsame:(wa.setCell ⟨b,k,none⟩ (.slice (some ⟨g,0,none⟩) (c+1) cap)).heap[b]?=some (.cells (cur.setIfInBounds k (.slice (some ⟨g,0,none⟩) (c+1) cap)) 54 (0,0)):=heap_setCell_same wa b k cur 54 _ hba;have hg3:wa.grownBy (wa.setCell ⟨b,k,none⟩ (.slice (some ⟨g,0,none⟩) (c+1) cap)) (some b):=⟨rfl,rfl,rfl,by simp,fun j _ hn=>heap_setCell_other wa ⟨b,k,none⟩ j _ (fun e=>hn (by rw[e]))⟩;have hnew:∀j,(cur.setIfInBounds k (.slice (some ⟨g,0,none⟩) (c+1) cap)).getD j undef=if j=k then .slice (some ⟨g,0,none⟩) (c+1) cap else cur.getD j undef:=fun j=>by simp only[Array.getD_eq_getD_getElem?,Array.getElem?_setIfInBounds];grind
 have hold:∀j,j≠k->(cur.getD j undef).ownBlock≠some g:=fun j hj e=>by
  rcases hat with h|h;·exact hC.sep j k g hj e (by grind)
  .cases hd:ds[j]? with|none=>
    have hl:cur.size<=j:=by rw[hC.size];grind
    rw[Array.getD_eq_getD_getElem?,Array.getElem?_eq_none hl]at e;cases e|some dj=>have:=((hC.row j dj hd).lt g e).2;omega
 have hown3:∀u n xs,u.ownBlock≠some b->wa.ownsRow (b+1) 56 3 u n xs->(wa.setCell ⟨b,k,none⟩ (.slice (some ⟨g,0,none⟩) (c+1) cap)).ownsRow (b+1) 56 3 u n xs:=fun u n xs hu h=>h.kept hg3 (.inr hu);have hnb:∀u n xs,wa.ownsRow (b+1) 56 3 u n xs->u.ownBlock≠some b:=fun u n xs h e=>by have:=(h.lt b e).1;omega
 refine⟨hsame,by simp[hC.size],fun j dj hj=>?_,fun i j g' hij hi=>?_⟩
 .rw[hnew];rw[List.getElem?_modify]at hj;by_cases h:j=k;·grind
  .rw[if_neg h];simp[Ne.symm h]at hj;have h1:=hC.row j dj hj;have h2:=h1.kept (w':=w2) (row:=v.ownBlock) hgr (by cases hj0:(cur.getD j undef).ownBlock with|none=>simp|some g'=>exact .inr fun e=>hC.sep j k g' h hj0 (by simp_all));have h3:=h2.kept hga (.inr (hold j h));grind
 .rw[hnew]at hi⊢;by_cases h1:i=k;·rw[if_pos h1]at hi;rw[if_neg (fun e=>hij (h1.trans e.symm)),<-hi];exact hold j (fun e=>hij (h1.trans e.symm))
  .rw[if_neg h1]at hi;by_cases h2:j=k;·rw[if_pos h2];intro e;exact hold i h1 (hi.trans e.symm)
   .rw[if_neg h2];exact hC.sep i j g' hij hi
theorem qsm{ds:List (List T3)}{d:List T3}{t:T3}{o:Obj}(hC:RowsC b wr ds cur)(hk:ds[k]?=some d)(hc:c=d.length)(hv:cur.getD k undef=v)(hgq:wr.grownBy wq none)(hg:((wq.alloc o).drew).grownBy w2 v.ownBlock)(hgb:b+1<=g)(hat:v.ownBlock=some g\/g=wq.heap.size+1)(hB:Below B w0 wr)(hb:B<=b)(hga:w2.grownBy wa (some g))(s3:wa.ownsRow (b+1) 56 3 (.slice (some ⟨g,0,none⟩) (c+1) cap) (c+1) ((d++[t]).flatMap rowT)):Below B w0 (wa.setCell ⟨b,k,none⟩ (.slice (some ⟨g,0,none⟩) (c+1) cap))/\RowsT b (wa.setCell ⟨b,k,none⟩ (.slice (some ⟨g,0,none⟩) (c+1) cap)) (ds.modify k (·++[t])):=by
 have hvb:∀g',v.ownBlock=some g'->b+1<=g':=fun g' e=>by have hrk:=hC.row k d hk;rw[hv]at hrk;exact(hrk.lt g' e).1
 have hgr:wr.grownBy w2 v.ownBlock:=by refine⟨hg.os.trans hgq.os,hg.tape.trans hgq.tape,hg.output.trans hgq.output,Nat.le_trans hgq.size (Nat.le_trans (by simp) hg.size),fun j hj hn=>?_⟩;have h1:j<wq.heap.size:=Nat.lt_of_lt_of_le hj hgq.size;exact((hg.block j (Nat.lt_of_lt_of_le h1 (by simp)) hn).trans (heap_alloc_old wq o h1)).trans (hgq.block j hj (by simp))
 have hbw:b<wr.heap.size:=(Array.getElem?_eq_some_iff.1 hC.blk).1;have hBr:B<=wr.heap.size:=by omega
 have h1:Below B w0 w2:=hB.grown hgr hBr fun j e=>by grind
 have h2:Below B w0 wa:=h1.grown hga (Nat.le_trans hBr hgr.size) fun j e=>by grind
 exact⟨h2.grown (row:=some b) ⟨rfl,rfl,rfl,by simp,fun j _ hn=>heap_setCell_other wa ⟨b,k,none⟩ j _ (fun e=>hn (by rw[e]))⟩ (Nat.le_trans (Nat.le_trans hBr hgr.size) hga.size) fun j e=>by simp_all,_,qnm hC hk hc hv hgr hgb (hat.imp_right fun e=>by have:=hgq.size;omega) hga s3⟩
theorem row3{d:List T3}{t:T3}(hx:x=c*3)(hy:y=c*3+1)(hz:z=c*3+2)(hl:(d.flatMap rowT).length=c*3)(ho:w2.ownsRow (b+1) 56 3 (.slice (some ⟨g,0,none⟩) (c+1) cap) (c+1) (d.flatMap rowT++[z0,z1,z2])):∃wa,wa=((w2.setCell ⟨g,x,none⟩ (.int .i64 t.1)).setCell ⟨g,y,none⟩ (.slice t.2.1.1 t.2.1.2.1 t.2.1.2.2)).setCell ⟨g,z,none⟩ (.slice t.2.2.1 t.2.2.2.1 t.2.2.2.2)/\(((w2.setCell ⟨b,k,none⟩ (.slice (some ⟨g,0,none⟩) (c+1) cap)).setCell ⟨g,x,none⟩ (.int .i64 t.1)).setCell ⟨g,y,none⟩ (.slice t.2.1.1 t.2.1.2.1 t.2.1.2.2)).setCell ⟨g,z,none⟩ (.slice t.2.2.1 t.2.2.2.1 t.2.2.2.2)=wa.setCell ⟨b,k,none⟩ (.slice (some ⟨g,0,none⟩) (c+1) cap)/\w2.grownBy wa (some g)/\wa.ownsRow (b+1) 56 3 (.slice (some ⟨g,0,none⟩) (c+1) cap) (c+1) ((d++[t]).flatMap rowT):=by
 have hne:g≠b:=by have:=(ho.lt g rfl).1;omega
 obtain⟨s1,t1⟩:=ho.stored x (.int .i64 t.1);obtain⟨s2,t2⟩:=s1.stored y (.slice t.2.1.1 t.2.1.2.1 t.2.1.2.2);obtain⟨s3,t3⟩:=s2.stored z (.slice t.2.2.1 t.2.2.2.1 t.2.2.2.2);refine⟨_,rfl,?_,⟨t3.os.trans (t2.os.trans t1.os),t3.tape.trans (t2.tape.trans t1.tape),t3.output.trans (t2.output.trans t1.output),Nat.le_trans t1.size (Nat.le_trans t2.size t3.size),fun j hj hn=>?_⟩,?_⟩;·rw[qa5 w2 (a:=⟨b,k,none⟩) (c:=⟨g,x,none⟩) (Ne.symm hne),qa5 _ (a:=⟨b,k,none⟩) (c:=⟨g,y,none⟩) (Ne.symm hne),qa5 _ (a:=⟨b,k,none⟩) (c:=⟨g,z,none⟩) (Ne.symm hne)]
 .have h1:=Nat.lt_of_lt_of_le hj t1.size;exact(t3.block j (Nat.lt_of_lt_of_le h1 t2.size) hn).trans ((t2.block j h1 hn).trans (t1.block j hj hn))
 .have e:((((d.flatMap rowT++[z0,z1,z2]).set x (.int .i64 t.1)).set y (.slice t.2.1.1 t.2.1.2.1 t.2.1.2.2)).set z (.slice t.2.2.1 t.2.2.2.1 t.2.2.2.2))=(d++[t]).flatMap rowT:=by rw[List.set_append_right _ _ (by omega),List.set_append_right _ _ (by omega),List.set_append_right _ _ (by omega),hl,hx,hy,hz,Nat.sub_self,Nat.add_sub_cancel_left,Nat.add_sub_cancel_left,List.flatMap_append];simp[rowT]
  rw[e]at s3;exact s3
theorem qrt{ds:List (List T3)}{d:List T3}{t:T3}{o:Obj}(hx:x=c*3)(hy:y=c*3+1)(hz:z=c*3+2)(hC:RowsC b wr ds cur)(hk:ds[k]?=some d)(hc:c=d.length)(hv:cur.getD k undef=v)(hgq:wr.grownBy wq none)(hg:((wq.alloc o).drew).grownBy w2 v.ownBlock)(ho:w2.ownsRow (b+1) 56 3 (.slice (some ⟨g,0,none⟩) (c+1) cap) (c+1) (d.flatMap rowT++[z0,z1,z2]))(hat:v.ownBlock=some g\/g=wq.heap.size+1)(hB:Below B w0 wr)(hb:B<=b){w3:World}(hw:w3=(((w2.setCell ⟨g,x,none⟩ (.int .i64 t.1)).setCell ⟨g,y,none⟩ (.slice t.2.1.1 t.2.1.2.1 t.2.1.2.2)).setCell ⟨g,z,none⟩ (.slice t.2.2.1 t.2.2.2.1 t.2.2.2.2)).setCell ⟨b,k,none⟩ (.slice (some ⟨g,0,none⟩) (c+1) cap)\/w3=(((w2.setCell ⟨b,k,none⟩ (.slice (some ⟨g,0,none⟩) (c+1) cap)).setCell ⟨g,x,none⟩ (.int .i64 t.1)).setCell ⟨g,y,none⟩ (.slice t.2.1.1 t.2.1.2.1 t.2.1.2.2)).setCell ⟨g,z,none⟩ (.slice t.2.2.1 t.2.2.2.1 t.2.2.2.2)):Below B w0 w3/\RowsT b w3 (ds.modify k (·++[t])):=by
 have hgb:b+1<=g:=(ho.lt g rfl).1;have hl:(d.flatMap rowT).length=c*3:=by rw[hc];exact(hC.row k d hk).1
 obtain⟨wa,ha,he,hga,s3⟩:=row3 (k:=k) (t:=t) hx hy hz hl ho;rw[<-ha,he]at hw;obtain rfl:=hw.elim id id;exact qsm hC hk hc hv hgq hg hgb hat hB hb hga s3
def q5b{α:Type}(p:Bool×α):List α:=if p.1 then [p.2]else []
def begT{α:Type}(ms:List (Bool×α))(k:Nat):List (List α):=(ms.take k).map q5b++List.replicate (ms.length-k) []
theorem qnv{α:Type}(ms:List (Bool×α))(k j:Nat):(begT ms k)[j]?=if j<k then ms[j]?.map q5b else if j<ms.length then some []else none:=by unfold begT;grind
theorem y5q{α:Type}{ms:List (Bool×α)}(h:k<ms.length):(begT ms k)[k]?=some []:=by rw[qnv,if_neg (by omega),if_pos h]
theorem qkg{α:Type}{ms:List (Bool×α)}{p:Bool×α}(h:ms[k]?=some p):begT ms (k+1)=(begT ms k).modify k (·++q5b p):=by have hl:k<ms.length:=(List.getElem?_eq_some_iff.1 h).1;apply List.ext_getElem?;intro j;rw[List.getElem?_modify,qnv,qnv];grind
theorem qrq{α:Type}{ms:List (Bool×α)}{t:α}(h:ms[k]?=some (false,t)):begT ms (k+1)=begT ms k:=by rw[qkg h];apply List.ext_getElem?;intro j;rw[List.getElem?_modify];split<;>simp[q5b]
theorem qs0{α:Type}(ms:List (Bool×α)):begT ms 0=List.replicate ms.length []:=by rfl
theorem qi7{α:Type}(ms:List (Bool×α)):begT ms ms.length=ms.map q5b:=by simp[begT]
theorem qmg{n:Nat}:RowsT w.heap.size (w.alloc (.cells (madeCells #[.slice none 0 0] n) 54)) (List.replicate n []):=by
 have hm:∀j,(madeCells #[.slice none 0 0] n).getD j undef=.slice none 0 0\/(madeCells #[.slice none 0 0] n).getD j undef=undef:=fun j=>by
  by_cases hj:j<n;·left;simp[madeCells,Array.getD_eq_getD_getElem?,hj,Nat.mod_one]
  .right;simp[madeCells,Array.getD_eq_getD_getElem?,hj]
 refine⟨madeCells #[.slice none 0 0] n,⟨heap_alloc_new w _,by simp[size_madeCells],fun j d hj=>?_,fun i j g _ hi=>?_⟩⟩
 .have hjn:j<n:=by grind
  have hd:d=[]:=by simp_all
  subst hd;have:(madeCells #[.slice none 0 0] n).getD j undef=.slice none 0 0:=by simp[madeCells,Array.getD_eq_getD_getElem?,hjn,Nat.mod_one]
  rw[this];exact World.ownsRow_nil _ _ _ _
 .rcases hm i with h|h<;>rw[h]at hi<;>cases hi
theorem qgb{w':World}{ds:List (List T3)}(h:RowsT b w ds)(hg:w.grownBy w' none):RowsT b w' ds:=by obtain⟨cur,h⟩:=h;refine⟨cur,⟨(hg.block b (Array.getElem?_eq_some_iff.1 h.blk).1 (by simp)).trans h.blk,h.size,fun j d hj=>(h.row j d hj).kept hg ?_,h.sep⟩⟩;grind
theorem qj5{α:Type}{ds:List (List α)}{j:Nat}{d:List α}{t:α}(h:∀d∈ds,d.length<=j+1)(_hd:ds[k]?=some d):∀e∈ds.modify k (·++[t]),e.length<=j+1+1:=fun e he=>by obtain⟨i,hi⟩:=List.mem_iff_getElem?.1 he;grind
theorem far1(ng:g≠b)(h:w.cell? ⟨b,k,none⟩=some v):(w.setCell ⟨g,x,none⟩ u).cell? ⟨b,k,none⟩=some v:=(World.cell?_setCell_other w ⟨g,x,none⟩ ⟨b,k,none⟩ u fun e=>ng (congrArg Addr.block e)).trans h
theorem qd4{xs:List Value}(hx:x=c*3)(hy:y=c*3+1)(hz:z=c*3+2)(r0:w.cell? ⟨b,k,none⟩=some hd)(f0:w.frozen? ⟨b,k,none⟩=false)(ho:w.ownsRow (b+1) 56 3 v c xs)(ho2:w2.ownsRow (b+1) 56 3 (.slice (some ⟨g,0,none⟩) (c+1) cap) (c+1) (xs++[z0,z1,z2]))(hg:w.grownBy w2 v.ownBlock):g≠b/\b≠g/\w2.cell? ⟨b,k,none⟩=some hd/\w2.frozen? ⟨b,k,none⟩=false/\(∀j,w2.frozen? ⟨g,j,none⟩=false)/\w2.cell? ⟨g,x,none⟩=some z0/\w2.cell? ⟨g,y,none⟩=some z1/\w2.cell? ⟨g,z,none⟩=some z2/\(∀u,(w2.setCell ⟨b,k,none⟩ u).cell? ⟨g,x,none⟩=some z0)/\(∀u,(w2.setCell ⟨b,k,none⟩ u).cell? ⟨g,y,none⟩=some z1)/\(∀u,(w2.setCell ⟨b,k,none⟩ u).cell? ⟨g,z,none⟩=some z2)/\∀u1 u2 u3,(((w2.setCell ⟨g,x,none⟩ u1).setCell ⟨g,y,none⟩ u2).setCell ⟨g,z,none⟩ u3).cell? ⟨b,k,none⟩=some hd:=by
 have hne:g≠b:=by have:=(ho2.lt g rfl).1;omega
 have hnb:some b≠v.ownBlock:=fun e=>by have:=(ho.lt b e.symm).1;omega
 have e0:w2.cell? ⟨b,k,none⟩=some hd:=hg.cell r0 hnb;have hl:=ho.1;have g0:∀j(zj:Value),[z0,z1,z2][j]?=some zj->w2.cell? ⟨g,c*3+j,none⟩=some zj:=fun j zj hj=>by
  have hj3:j<3:=by simpa using(List.getElem?_eq_some_iff.1 hj).1
  rw[ho2.cellAt _ (by omega),List.getElem?_append_right (by omega),hl,Nat.add_sub_cancel_left];exact hj
 subst hx hy hz;have a0:=g0 0 z0 rfl;have a1:=g0 1 z1 rfl;have a2:=g0 2 z2 rfl;exact⟨hne,Ne.symm hne,e0,(hg.frozen_far _ (World.block_lt_of_cell? w _ r0) hnb).trans f0,fun j=>ho2.frozenAt j,a0,a1,a2,fun u=>far1 (Ne.symm hne) a0,fun u=>far1 (Ne.symm hne) a1,fun u=>far1 (Ne.symm hne) a2,fun u1 u2 u3=>far1 hne (far1 hne (far1 hne e0))⟩
theorem qgi{xs:List Value}{o:Obj}(hx:x=c*3)(hy:y=c*3+1)(hz:z=c*3+2)(r0:wq.cell? ⟨b,k,none⟩=some hd)(f0:wq.frozen? ⟨b,k,none⟩=false)(ho:wq.ownsRow (b+1) 56 3 v c xs)(ho2:w2.ownsRow (b+1) 56 3 (.slice (some ⟨g,0,none⟩) (c+1) cap) (c+1) (xs++[z0,z1,z2]))(hg:((wq.alloc o).drew).grownBy w2 v.ownBlock):g≠b/\b≠g/\w2.cell? ⟨b,k,none⟩=some hd/\w2.frozen? ⟨b,k,none⟩=false/\(∀j,w2.frozen? ⟨g,j,none⟩=false)/\w2.cell? ⟨g,x,none⟩=some z0/\w2.cell? ⟨g,y,none⟩=some z1/\w2.cell? ⟨g,z,none⟩=some z2/\(∀u,(w2.setCell ⟨b,k,none⟩ u).cell? ⟨g,x,none⟩=some z0)/\(∀u,(w2.setCell ⟨b,k,none⟩ u).cell? ⟨g,y,none⟩=some z1)/\(∀u,(w2.setCell ⟨b,k,none⟩ u).cell? ⟨g,z,none⟩=some z2)/\∀u1 u2 u3,(((w2.setCell ⟨g,x,none⟩ u1).setCell ⟨g,y,none⟩ u2).setCell ⟨g,z,none⟩ u3).cell? ⟨b,k,none⟩=some hd:=by exact qd4 hx hy hz (show((wq.alloc o).drew).cell? ⟨b,k,none⟩=some hd from(World.grownBy_alloc wq o none).cell r0 (by simp)) ((World.frozen?_of_block (w:=wq) (heap_alloc_old wq o (World.block_lt_of_cell? wq _ r0))).trans f0) ((ho.alloc o).drew) ho2 hg
theorem hidOf{p:Prop}(h:p):Hid p:=h
def qy7(w:World)(b x:Nat)(p:Int×Int×T3):Prop:=∃(z2 z3 z4 z8 z9 z10:Int)(s11 s12 s13 s14:Sl),w.cell? ⟨b,x,none⟩=some (.int .i64 p.1)/\w.cell? ⟨b,x+1,none⟩=some (.int .i64 p.2.1)/\w.cell? ⟨b,x+2,none⟩=some (.int .i64 z2)/\w.cell? ⟨b,x+3,none⟩=some (.int .i64 z3)/\w.cell? ⟨b,x+4,none⟩=some (.int .i64 z4)/\w.cell? ⟨b,x+5,none⟩=some (.int .i64 p.2.2.1)/\w.cell? ⟨b,x+6,none⟩=some (.slice p.2.2.2.1.1 p.2.2.2.1.2.1 p.2.2.2.1.2.2)/\w.cell? ⟨b,x+7,none⟩=some (.slice p.2.2.2.2.1 p.2.2.2.2.2.1 p.2.2.2.2.2.2)/\w.cell? ⟨b,x+8,none⟩=some (.int .i64 z8)/\w.cell? ⟨b,x+9,none⟩=some (.int .i64 z9)/\w.cell? ⟨b,x+10,none⟩=some (.int .i64 z10)/\w.cell? ⟨b,x+11,none⟩=some (.slice s11.1 s11.2.1 s11.2.2)/\w.cell? ⟨b,x+12,none⟩=some (.slice s12.1 s12.2.1 s12.2.2)/\w.cell? ⟨b,x+13,none⟩=some (.slice s13.1 s13.2.1 s13.2.2)/\w.cell? ⟨b,x+14,none⟩=some (.slice s14.1 s14.2.1 s14.2.2)
def MemAt(w:World)(b x:Nat)(p:Bool×T3):Prop:=w.cell? ⟨b,x,none⟩=some (.bool p.1)/\w.cell? ⟨b,x+1,none⟩=some (.int .i64 p.2.1)/\w.cell? ⟨b,x+2,none⟩=some (.slice p.2.2.1.1 p.2.2.1.2.1 p.2.2.1.2.2)/\w.cell? ⟨b,x+3,none⟩=some (.slice p.2.2.2.1 p.2.2.2.2.1 p.2.2.2.2.2)
theorem qud{I:Nat->Nat->Prop}{sz:Nat}(hr:Rep w I (.list xs) u)(hs:∀x∈xs,x.cells.length=sz):∃a cap,u=.slice a xs.length cap/\∀(j:Nat)x,xs[j]?=some x->∃b o,a=some ⟨b,o,none⟩/\∃V:Nat->Value,∀(i:Nat)c,x.cells[i]?=some c->(w.cell? ⟨b,o+j*sz+i,none⟩=some (V i)/\I b (o+j*sz+i))/\Rep w I c (V i):=by cases hr with|empty a c=>simp|list _ b off cap sz0 V hs0 hc hh hr=>refine⟨_,cap,rfl,fun j x hx=>⟨b,off,rfl,V j,fun i c hi=>?_⟩⟩;grind
theorem ql8{α:Type}{P:Nat->α->Prop}:∀n:Nat,(∀j,j<n->∃p,P j p)->∃l:List α,l.length=n/\∀(j:Nat)p,l[j]?=some p->P j p|0,_=>⟨[],rfl,fun j p h=>by grind⟩|n+1,h=>by obtain⟨l,h1,h2⟩:=ql8 n fun j hj=>h j (by omega);obtain⟨p,hp⟩:=h n (by omega);refine⟨l++[p],by simp[h1],fun j q hq=>?_⟩;grind
theorem q3t{α:Type}{f:D->Option α}:∀{xs:List D}{l:List α},allOf f xs=some l->l.length=xs.length/\∀j:Nat,∀x,xs[j]?=some x->∃y,f x=some y/\l[j]?=some y
 |[],l,h=>by simp only[allOf,sI]at h;simp_all|x::r,l,h=>by
  unfold allOf at h;split at h;·rename_i y l' h1 h2;cases h;obtain⟨g1,g2⟩:=q3t h2;refine⟨by simp[g1],fun j z hz=>?_⟩;cases j with|zero=>simp at hz;subst hz;exact⟨y,h1,rfl⟩|succ j=>simpa using g2 j z (by simpa using hz)
  grind
def RepT(w:World)(I:Nat->Nat->Prop)(l:List D)(t:T3):Prop:=∃y z,l=[.v (.int .i64 t.1),.list y,.list z]/\Rep w I (.list y) (.slice t.2.1.1 t.2.1.2.1 t.2.1.2.2)/\Rep w I (.list z) (.slice t.2.2.1 t.2.2.2.1 t.2.2.2.2)
inductive All2{α β:Type}(R:α->β->Prop):List α->List β->Prop|nil:All2 R [] []|cons{a b l m}:R a b->All2 R l m->All2 R (a::l) (b::m)
theorem All2.of{α β:Type}{R:α->β->Prop}:∀{l:List α}{m:List β},l.length=m.length->(∀(j:Nat)a b,l[j]?=some a->m[j]?=some b->R a b)->All2 R l m|[],[],_,_=>.nil|[],_::_,h,_=>by grind|_::_,[],h,_=>by grind|a::l,b::m,h,k=>.cons (k 0 a b rfl rfl) (All2.of (by simp_all) fun j x y hx hy=>k (j+1) x y (by simp_all) (by simp_all))
theorem All2.len{α β:Type}{R:α->β->Prop}{l:List α}{m:List β}(h:All2 R l m):l.length=m.length:=by induction h with|nil=>rfl|cons _ _ ih=>grind
theorem All2.get{α β:Type}{R:α->β->Prop}{l:List α}{m:List β}(h:All2 R l m):∀{j:Nat}{a b},l[j]?=some a->m[j]?=some b->R a b:=by induction h with|nil=>simp|cons h1 _ ih=>grind
theorem All2.map{α β γ δ:Type}{R:α->β->Prop}{S:γ->δ->Prop}{f:α->γ}{g:β->δ}(k:∀a b,R a b->S (f a) (g b)){l:List α}{m:List β}(h:All2 R l m):All2 S (l.map f) (m.map g):=by induction h with|nil=>exact .nil|cons h1 _ ih=>exact .cons (k _ _ h1) ih
theorem All2.mod{α β:Type}{R:α->β->Prop}{f:α->α}{g:β->β}(k:∀a b,R a b->R (f a) (g b)){l:List α}{m:List β}(h:All2 R l m):∀n,All2 R (l.modify n f) (m.modify n g):=by induction h with|nil=>intro n;cases n<;>exact .nil|cons h1 h2 ih=>intro n;cases n with|zero=>exact .cons (k _ _ h1) h2|succ n=>exact .cons h1 (ih n)
theorem All2.app{α β:Type}{R:α->β->Prop}{l:List α}{m:List β}(h:All2 R l m){a:α}{b:β}(k:R a b):All2 R (l++[a]) (m++[b]):=by induction h with|nil=>exact .cons k .nil|cons h1 _ ih=>exact .cons h1 ih
theorem y0u{α β:Type}{R:α->β->Prop}{ps:List (Int×Int×α)}{qs:List (Int×Int×β)}(h:All2 (fun p q=>p.1=q.1/\p.2.1=q.2.1/\R p.2.2 q.2.2) ps qs):∀{cs:LI}{ds:List (List α)}{es:List (List β)}{out:List (List α)},All2 (All2 R) ds es->q1e ps cs ds=some out->∃out',q1e qs cs es=some out'/\All2 (All2 R) out out':=by induction h with|nil=>intro cs ds es out hd h;simp only[q1e,sI]at h⊢;simp_all|cons h1 _ ih=>rename_i a b l m _;intro cs ds es out hd h;obtain⟨k,x,t⟩:=a;obtain⟨k',x',t'⟩:=b;obtain⟨rfl,rfl,hR⟩:=h1;cases cs with|nil=>simp[q1e]at h|cons c cs=>
   simp only[q1e]at h⊢;split at h
   .split at h;·rw[<-hd.len]at*;rename_i hc hx;rw[if_pos hc,if_pos (by first|exact hx|(rw[<-hd.len];exact hx))];exact ih (hd.mod (fun _ _ h=>h.app hR) _) h
    .cases h
   grind
theorem q13{I:Nat->Nat->Prop}(hr:Rep w I (.list xs) u):∃s:Sl,u=.slice s.1 s.2.1 s.2.2/\s.2.1=xs.length:=by cases hr with|empty a c=>simp|list _ b off cap sz V hs hc hh hr=>simp
theorem qwg:∀{d:List T3}{i:Nat}{t:T3},d[i]?=some t->∀{j:Nat}{u:Value},(rowT t)[j]?=some u->(d.flatMap rowT)[i*3+j]?=some u
 |[],i,t,h,j,u,_=>by grind|a::d,i,t,h,j,u,hu=>by
  have hj3:j<3:=by simpa[rowT]using(List.getElem?_eq_some_iff.1 hu).1
  rw[List.flatMap_cons];cases i with|zero=>grind|succ i=>rw[List.getElem?_append_right (by simp[rowT];omega),show(i+1)*3+j-(rowT a).length=i*3+j by simp[rowT];omega];exact qwg (by simp_all) hu
theorem qxa{X:Cx}{out:List (List T3)}{out0:List (List (List D))}(hb:∀o,X.imm b o)(hg:∀(j:Nat)g,(cur.getD j undef).ownBlock=some g->∀o,X.imm g o)(hC:RowsC b w out cur)(h2:All2 (All2 (RepT w X.imm)) out0 out)(n:Nat)(hn:out.length=n):Rep w X.imm (.list (out0.map fun l=>.list (l.map .agg))) (.slice (some ⟨b,0,none⟩) n n):=by
 have hl:(out0.map fun l=>D.list (l.map .agg)).length=n:=by rw[List.length_map,h2.len,hn]
 rw[<-hl];refine .list _ b 0 _ 1 (fun i _=>cur.getD i undef) (fun x hx=>by obtain⟨l,_,rfl⟩:=List.mem_map.1 hx;rfl) (Nat.le_refl _) (fun i x hx j c hj=>?_) (fun i x hx j c hj=>?_);all_goals
  rw[List.getElem?_map,Option.map_eq_some_iff]at hx;obtain⟨l,hlx,rfl⟩:=hx;have hi:i<cur.size:=by rw[hC.size,<-h2.len];grind
  obtain rfl:j=0:=by cases j with|zero=>rfl|succ j=>simp[D.cells]at hj
  simp[D.cells]at hj;subst hj
 .refine⟨?_,hb _⟩;rw[Nat.zero_add,Nat.mul_one,Nat.add_zero,cell_of_row w b i cur 54 (0,0) hC.blk];simp_all
 .obtain⟨d,hd⟩:∃d,out[i]?=some d:=⟨out[i]'(by grind),by simp⟩;have hrow:=hC.row i d hd;have hrel:=h2.get hlx hd;have hlen:=hrel.len;show Rep w X.imm _ (cur.getD i undef);have himm:=hg i;generalize cur.getD i undef=v at hrow himm;by_cases h0:d=[]
  .subst h0;have:l=[]:=List.length_eq_zero_iff.1 hlen;subst this;rcases hrow.2 with⟨rfl,_⟩|⟨g,cap,c,rfl,_⟩;·exact .empty _ _
   .exact .empty _ _
  .obtain⟨g,cap,rfl,_,_⟩:=hrow.form (List.length_pos_iff.2 h0);obtain⟨hcap,hrow2⟩:d.length<=cap/\True:=by
    rcases hrow.2 with⟨h,_⟩|⟨g',cap',c,h,_,_,h5,_⟩;·cases h
    simp_all
   have hlm:(l.map D.agg).length=d.length:=by simp_all
   rw[<-hlm];refine .list _ g 0 cap 3 (fun i' j=>((d[i']?.map rowT).getD []).getD j undef) (fun x hx=>?_) (by omega) (fun i' x hx' j c hj=>?_) (fun i' x hx' j c hj=>?_);·obtain⟨q,hq,rfl⟩:=List.mem_map.1 hx;obtain⟨i',hi'⟩:=List.mem_iff_getElem?.1 hq;obtain⟨t,ht⟩:∃t,d[i']?=some t:=⟨d[i']'(by grind),by simp⟩;obtain⟨y,z,rfl,_⟩:=hrel.get hi' ht;rfl
   all_goals
    rw[List.getElem?_map,Option.map_eq_some_iff]at hx';obtain⟨q,hq,rfl⟩:=hx';obtain⟨t,ht⟩:∃t,d[i']?=some t:=⟨d[i']'(by grind),by simp⟩;obtain⟨y,z,rfl,r1,r2⟩:=hrel.get hq ht;have hj3:j<3:=by simpa[D.cells]using(List.getElem?_eq_some_iff.1 hj).1
    have hid:i'<d.length:=(List.getElem?_eq_some_iff.1 ht).1
   .refine⟨?_,himm g rfl _⟩;rw[Nat.zero_add,hrow.cellAt _ (by omega)];have:=qwg ht (j:=j) (u:=(rowT t).getD j undef) (by simp[rowT];rcases(by omega:j=0\/j=1\/j=2)with rfl|rfl|rfl<;>rfl);simp_all
   .show Rep w X.imm c (((d[i']?.map rowT).getD []).getD j undef);rw[ht];rcases(by omega:j=0\/j=1\/j=2)with rfl|rfl|rfl;·simp[D.cells]at hj;subst hj;exact .v _ rfl
    .simp[D.cells]at hj;subst hj;exact r1
    .simp[D.cells]at hj;subst hj;exact r2
theorem q5y{I:Nat->Nat->Prop}{cs:List D}(h:Rep w I (.agg cs) u):∃vs:Array Value,u=.agg vs/\vs.size=cs.length/\∀(j:Nat)c,cs[j]?=some c->Rep w I c (vs.getD j undef):=by cases h with|agg cs vs hn hr=>simp_all
theorem arr1(h:a.size=1):a=#[a.getD 0 undef]:=by
 apply Array.ext;·exact h
 simp_all
theorem arr3(h:a.size=3):a=#[a.getD 0 undef,a.getD 1 undef,a.getD 2 undef]:=by
 apply Array.ext;·exact h
 .intro i h1 h2;rcases(by omega:i=0\/i=1\/i=2)with rfl|rfl|rfl<;>simp[Array.getD_eq_getD_getElem?,h1]
theorem y1i{I:Nat->Nat->Prop}{s:Sl}{l0:List (Bool×List D)}(hr:Rep w I (.list xs) (.slice s.1 s.2.1 s.2.2))(h:allOf memD xs=some l0):∃ms:List (Bool×T3),ms.length=xs.length/\(∀(w':World)(J:Nat->Nat->Prop),(∀b o u,w.cell? ⟨b,o,none⟩=some u->I b o->w'.cell? ⟨b,o,none⟩=some u/\J b o)->∀(j:Nat)p,ms[j]?=some p->∃b o,s.1=some ⟨b,o,none⟩/\MemAt w' b (o+j*4) p)/\All2 (fun a b=>a.1=b.1/\RepT w I a.2 b.2) l0 ms:=by
 obtain⟨hl,hx⟩:=q3t h;have hshape:∀x q,memD x=some q->∃t y z,x=.agg [.v (.bool q.1),.v (.int .i64 t),.list y,.list z]/\q.2=[.v (.int .i64 t),.list y,.list z]:=by
  intro x q hq;unfold memD at hq;split at hq;·cases hq;exact⟨_,_,_,rfl,rfl⟩
  .cases hq
 have hs:∀x∈xs,x.cells.length=4:=fun x hm=>by obtain⟨j,hj⟩:=List.mem_iff_getElem?.1 hm;obtain⟨q,hq,_⟩:=hx j x hj;obtain⟨t,y,z,rfl,_⟩:=hshape x q hq;rfl
 obtain⟨a,cap,e,hat⟩:=qud hr hs;injection e with e1 e2 e3;obtain⟨ms,h1,h2⟩:=ql8 (P:=fun j(p:Bool×T3)=>∃q,l0[j]?=some q/\q.1=p.1/\RepT w I q.2 p.2/\∃b o,s.1=some ⟨b,o,none⟩/\MemAt w b (o+j*4) p/\∀i,i<4->I b (o+j*4+i)) xs.length fun j hj=>by
  obtain⟨q,hq,hq2⟩:=hx j xs[j] (by simp[hj]);obtain⟨t,y,z,hxx,hqq⟩:=hshape _ q hq;obtain⟨b,o,ha,V,hV⟩:=hat j xs[j] (by simp[hj]);rw[hxx]at hV;obtain⟨⟨k0,i0⟩,r0⟩:=hV 0 _ rfl;obtain⟨⟨k1,i1⟩,r1⟩:=hV 1 _ rfl;obtain⟨⟨k2,i2⟩,r2⟩:=hV 2 _ rfl;obtain⟨⟨k3,i3⟩,r3⟩:=hV 3 _ rfl;obtain⟨s2,v2,_⟩:=q13 r2;obtain⟨s3,v3,_⟩:=q13 r3;rw[q0y r0]at k0;rw[q0y r1]at k1;rw[v2]at k2 r2;rw[v3]at k3 r3;refine⟨(q.1,t,s2,s3),q,hq2,rfl,⟨y,z,hqq,r2,r3⟩,b,o,by rw[e1];exact ha,⟨k0,k1,k2,k3⟩,fun i hi=>?_⟩;rcases(by omega:i=0\/i=1\/i=2\/i=3)with rfl|rfl|rfl|rfl;·exact i0
  .exact i1
  .exact i2
  .exact i3
 refine⟨ms,h1,fun w' J hp j p hj=>?_,All2.of (by rw[hl,h1]) fun j a b ha hb=>?_⟩;·obtain⟨q,_,_,_,b,o,e,⟨k0,k1,k2,k3⟩,hi⟩:=h2 j p hj;exact⟨b,o,e,(hp _ _ _ k0 (hi 0 (by omega))).1,(hp _ _ _ k1 (hi 1 (by omega))).1,(hp _ _ _ k2 (hi 2 (by omega))).1,(hp _ _ _ k3 (hi 3 (by omega))).1⟩
 grind
theorem qx2{I:Nat->Nat->Prop}{s:Sl}{l0:List (Int×Int×List D)}(hr:Rep w I (.list xs) (.slice s.1 s.2.1 s.2.2))(h:allOf playD xs=some l0):∃ps:List (Int×Int×T3),ps.length=xs.length/\(∀(w':World)(J:Nat->Nat->Prop),(∀b o u,w.cell? ⟨b,o,none⟩=some u->I b o->w'.cell? ⟨b,o,none⟩=some u/\J b o)->∀(j:Nat)p,ps[j]?=some p->∃b o,s.1=some ⟨b,o,none⟩/\qy7 w' b (o+j*15) p)/\All2 (fun a b=>a.1=b.1/\a.2.1=b.2.1/\RepT w I a.2.2 b.2.2) l0 ps:=by
 obtain⟨hl,hx⟩:=q3t h;have hshape:∀x q,playD x=some q->∃z2 z3 z4 t y z z8 z9 z10 l11 l12 l13 l14,x=.agg [.v (.int .i64 q.1),.v (.int .i64 q.2.1),.v (.int .i64 z2),.v (.int .i64 z3),.v (.int .i64 z4),.v (.int .i64 t),.list y,.list z,.v (.int .i64 z8),.v (.int .i64 z9),.v (.int .i64 z10),.list l11,.list l12,.list l13,.list l14]/\q.2.2=[.v (.int .i64 t),.list y,.list z]:=by
  intro x q hq;unfold playD at hq;split at hq;·cases hq;exact⟨_,_,_,_,_,_,_,_,_,_,_,_,_,rfl,rfl⟩
  .cases hq
 have hs:∀x∈xs,x.cells.length=15:=fun x hm=>by obtain⟨j,hj⟩:=List.mem_iff_getElem?.1 hm;obtain⟨q,hq,_⟩:=hx j x hj;obtain⟨_,_,_,_,_,_,_,_,_,_,_,_,_,rfl,_⟩:=hshape x q hq;rfl
 obtain⟨a,cap,e,hat⟩:=qud hr hs;injection e with e1 e2 e3;obtain⟨ps,h1,h2⟩:=ql8 (P:=fun j(p:Int×Int×T3)=>∃q,l0[j]?=some q/\q.1=p.1/\q.2.1=p.2.1/\RepT w I q.2.2 p.2.2/\∃b o,s.1=some ⟨b,o,none⟩/\∀(w':World)(J:Nat->Nat->Prop),(∀b o u,w.cell? ⟨b,o,none⟩=some u->I b o->w'.cell? ⟨b,o,none⟩=some u/\J b o)->qy7 w' b (o+j*15) p) xs.length fun j hj=>by
  obtain⟨q,hq,hq2⟩:=hx j xs[j] (by simp[hj]);obtain⟨z2,z3,z4,t,y,z,z8,z9,z10,l11,l12,l13,l14,hxx,hqq⟩:=hshape _ q hq;obtain⟨b,o,ha,V,hV⟩:=hat j xs[j] (by simp[hj]);rw[hxx]at hV;have hI:∀(i:Nat)x,(D.agg [.v (.int .i64 q.1),.v (.int .i64 q.2.1),.v (.int .i64 z2),.v (.int .i64 z3),.v (.int .i64 z4),.v (.int .i64 t),.list y,.list z,.v (.int .i64 z8),.v (.int .i64 z9),.v (.int .i64 z10),.list l11,.list l12,.list l13,.list l14]).cells[i]?=some (.v (.int .i64 x))->w.cell? ⟨b,o+j*15+i,none⟩=some (.int .i64 x)/\I b (o+j*15+i):=fun i x hi=>by obtain⟨⟨k,i⟩,r⟩:=hV _ _ hi;rw[q0y r]at k;exact⟨k,i⟩
  have hL:∀(i:Nat)l,(D.agg [.v (.int .i64 q.1),.v (.int .i64 q.2.1),.v (.int .i64 z2),.v (.int .i64 z3),.v (.int .i64 z4),.v (.int .i64 t),.list y,.list z,.v (.int .i64 z8),.v (.int .i64 z9),.v (.int .i64 z10),.list l11,.list l12,.list l13,.list l14]).cells[i]?=some (.list l)->∃s:Sl,(w.cell? ⟨b,o+j*15+i,none⟩=some (.slice s.1 s.2.1 s.2.2)/\I b (o+j*15+i))/\Rep w I (.list l) (.slice s.1 s.2.1 s.2.2):=fun i l hi=>by obtain⟨⟨k,i⟩,r⟩:=hV _ _ hi;obtain⟨s,e,_⟩:=q13 r;rw[e]at k r;exact⟨s,⟨k,i⟩,r⟩
  obtain⟨s6,k6,r6⟩:=hL 6 _ rfl;obtain⟨s7,k7,r7⟩:=hL 7 _ rfl;obtain⟨s11,k11,_⟩:=hL 11 _ rfl;obtain⟨s12,k12,_⟩:=hL 12 _ rfl;obtain⟨s13,k13,_⟩:=hL 13 _ rfl;obtain⟨s14,k14,_⟩:=hL 14 _ rfl;exact⟨(q.1,q.2.1,t,s6,s7),q,hq2,rfl,rfl,⟨y,z,hqq,r6,r7⟩,b,o,by rw[e1];exact ha,fun w' J hp=>have f:∀{i:Nat}{u:Value},(w.cell? ⟨b,o+j*15+i,none⟩=some u/\I b (o+j*15+i))->w'.cell? ⟨b,o+j*15+i,none⟩=some u:=fun h=>(hp _ _ _ h.1 h.2).1
   ⟨z2,z3,z4,z8,z9,z10,s11,s12,s13,s14,f (hI 0 _ rfl),f (hI 1 _ rfl),f (hI 2 _ rfl),f (hI 3 _ rfl),f (hI 4 _ rfl),f (hI 5 _ rfl),f k6,f k7,f (hI 8 _ rfl),f (hI 9 _ rfl),f (hI 10 _ rfl),f k11,f k12,f k13,f k14⟩⟩
 refine⟨ps,h1,fun w' J hp j p hj=>?_,All2.of (by rw[hl,h1]) fun j a b ha hb=>?_⟩;·obtain⟨q,_,_,_,_,b,o,e,hw⟩:=h2 j p hj;exact⟨b,o,e,hw w' J hp⟩
 grind
theorem All2.imp{α β:Type}{R S:α->β->Prop}(k:∀a b,R a b->S a b){l:List α}{m:List β}(h:All2 R l m):All2 S l m:=by induction h with|nil=>exact .nil|cons h1 _ ih=>exact .cons (k _ _ h1) ih
theorem qa8{α:Type}:∀{ps:List (Int×Int×α)}{cs:LI}{ds out:List (List α)},q1e ps cs ds=some out->out.length=ds.length
 |[],cs,ds,out,h=>by simp only[q1e,sI]at h;rw[h]|(k,a,t)::r,[],ds,out,h=>by simp[q1e]at h|(k,a,t)::r,c::cs,ds,out,h=>by
  simp only[q1e]at h;split at h
  .split at h;·rw[qa8 h,List.length_modify]
   grind
  .exact qa8 h
theorem qx5{I:Nat->Nat->Prop}{s:Sl}{cs:LI}(hr:Rep w I (.list xs) (.slice s.1 s.2.1 s.2.2))(h:allOf codeD xs=some cs):∀(j:Nat)c,cs[j]?=some c->∃b o,s.1=some ⟨b,o,none⟩/\w.cell? ⟨b,o+j,none⟩=some (.int .i64 c):=fun j c hc=>by
 obtain⟨hl,hx⟩:=q3t h;have hshape:∀x q,codeD x=some q->x=.v (.int .i64 q):=by
  intro x q hq;unfold codeD at hq;split at hq;·cases hq;rfl
  .cases hq
 have hs:∀x∈xs,x.cells.length=1:=fun x hm=>by obtain⟨j,hj⟩:=List.mem_iff_getElem?.1 hm;obtain⟨q,hq,_⟩:=hx j x hj;rw[hshape x q hq];rfl
 obtain⟨a,cap,e,hat⟩:=qud hr hs;injection e with e1 e2 e3;have hj:j<xs.length:=by rw[<-hl];exact(List.getElem?_eq_some_iff.1 hc).1
 obtain⟨q,hq,hq2⟩:=hx j xs[j] (by simp[hj]);rw[hc]at hq2;cases hq2;obtain⟨b,o,ha,V,hV⟩:=hat j xs[j] (by simp[hj]);rw[hshape _ _ hq]at hV;obtain⟨⟨k,_⟩,r⟩:=hV 0 _ rfl;rw[q0y r]at k;grind
end Go.Proofs.YtdmfjabikomgiaaGreat
