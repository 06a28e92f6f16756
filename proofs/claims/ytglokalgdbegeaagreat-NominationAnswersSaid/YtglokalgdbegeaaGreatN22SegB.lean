/- Laws of the printed functions. -/
import Derived.Test.YtglokalgdbegeaaGreatN22SegA
import Derived.Sort.AssemblyPlain
import Derived.Test.YtglokalgdbegeaaGreatN22Fchk
import Derived.Test.YtglokalgdbegeaaGreatMachC
import Derived.Test.YtglokalgdbegeaaGreatMachT
namespace Go.Proofs.YtglokalgdbegeaaGreat
open Go Go.Ab Go.Sort
section
variable {cmp : LU -> LU -> Int} (hc : ∀ x y, z06 x y = some (cmp x y))
include hc
theorem y1s(first:Nat):∀(k:Nat)(d:Array (LU)),first+k<=d.size->d.size<1152921504606846976->z0t (first:Int) 0 ((k:Int)-1) d.toList=some (heapPop (fun x y=>ltB (cmp x y) 0) first k d).toList
 |0,d,hs,hd=>by apply y86;rw[q0e (by omega)];rfl|k+1,d,hs,hd=>by
  apply y86;have e0:((k+1:Nat):Int)-1=(k:Int):=by omega
  have e1:=addN (x:=first) (y:=k) (by omega);have b1:first+k<d.size:=by omega
  have b2:first<d.size:=by omega
  have e2:subI .i64 (k:Int) 1=(k:Int)-1:=q22 (by omega) (by omega);have s1:=qzw hc 0 k first (swp d first (first+k)) (by omega) (by rw[q0t];omega) (by rw[q0t];exact hd);have ih:=y1s first k (siftDown (fun x y=>ltB (cmp x y) 0) k first 0 (swp d first (first+k))) (by rw[q8d k _ _ _ _ (by omega),q0t];omega) (by rw[q8d k _ _ _ _ (by omega),q0t];exact hd);simp only[e0,q0j (show(0:Int)<=(k:Int)by omega),cT,e1,tN,nthA b1,nthA b2,nthNA b1,nthNA b2,nthS _ b1,nthNS _ b1,q1i,e2];rw[show(0:Int)=((0:Nat):Int)from rfl,s1];simp only[bS];rw[heapPop];exact ih
theorem qz5(first hi:Nat):∀(k:Nat)(d:Array (LU)),k<=hi+1->first+hi<=d.size->d.size<1152921504606846976->z0s (first:Int) 0 (hi:Int) ((k:Int)-1) d.toList=some (heapPop (fun x y=>ltB (cmp x y) 0) first hi (heapBuild (fun x y=>ltB (cmp x y) 0) hi first k d)).toList
 |0,d,hk,hs,hd=>by apply y7z;have e:subI .i64 (hi:Int) 1=(hi:Int)-1:=q22 (by omega) (by omega);rw[q0e (by omega),cF,e];exact y1s hc first hi d hs hd|k+1,d,hk,hs,hd=>by
  apply y7z;have e0:((k+1:Nat):Int)-1=(k:Int):=by omega
  have e2:subI .i64 (k:Int) 1=(k:Int)-1:=q22 (by omega) (by omega);have s1:=qzw hc k hi first d (by omega) hs hd;have ih:=qz5 first hi k (siftDown (fun x y=>ltB (cmp x y) 0) hi first k d) (by omega) (by rw[q8d hi _ _ _ _ (by omega)];exact hs) (by rw[q8d hi _ _ _ _ (by omega)];exact hd);simp only[e0,q0j (show(0:Int)<=(k:Int)by omega),cT,s1,bS,e2];rw[heapBuild];exact ih
theorem y8t(a b:Nat)(d:Array (LU))(hab:a<=b)(hbd:b<=d.size)(hd:d.size<1152921504606846976):z1h (a:Int) (b:Int) d.toList=some (heapSort (fun x y=>ltB (cmp x y) 0) d a b).toList:=by
 apply yfh;have e1:=subN hab (show b<4611686018427387904 by omega);have e2:subI .i64 ((b-a:Nat):Int) 1=((b-a:Nat):Int)-1:=q22 (by omega) (by omega);have e3:quoI .i64 (((b-a:Nat):Int)-1) 2=(((b-a-1)/2+1:Nat):Int)-1:=by
  show IntKind.wrap .i64 ((((b-a:Nat):Int)-1).tdiv 2)=_;have:(((b-a:Nat):Int)-1).tdiv 2=(((b-a-1)/2:Nat):Int):=by
   by_cases h0:b-a=0;·rw[h0];rfl
   .rw[show(((b-a:Nat):Int)-1)=((b-a-1:Nat):Int)by omega];rfl
  rw[this,wrap64 (by omega) (by omega)];omega
 rw[e1,e2,e3];exact qz5 hc a (b-a) _ d (by omega) (by omega) hd
end
def Lim(d:Array (LU)):Prop:=d.size<1152921504606846976
theorem y6d:∀(n i j:Nat)(d:Array (LU)),j<=i+n->j<d.size->Lim d->z0w (i:Int) (j:Int) d.toList=some (reverseLoop i j d).toList
 |n,i,j,d,hn,hj,hd=>by
  have hd':d.size<1152921504606846976:=hd;apply ybl;rw[reverseLoop];by_cases h:i<j
  .obtain⟨n,rfl⟩:∃m,n=m+1:=⟨n-1,by omega⟩;have bi:i<d.size:=by omega
   have e2:subI .i64 (j:Int) 1=((j-1:Nat):Int):=by rw[q22 (by omega) (by omega)];omega
   simp only[q03 (show(i:Int)<(j:Int)by omega),cT,tN,nthA bi,nthA hj,nthNA bi,nthNA hj,nthS _ hj,nthNS _ hj,q1i,q01 (show i<4611686018427387904 by omega),e2,if_pos h];exact y6d n (i+1) (j-1) (swp d i j) (by omega) (by rw[q0t];omega) (by unfold Lim;rw[q0t];exact hd)
  .rw[q00 (by omega),if_neg h];rfl
theorem ybm(a b:Nat)(d:Array (LU))(_hab:a<=b)(h0:0<b)(hbd:b<=d.size)(hd:Lim d):z0n (a:Int) (b:Int) d.toList=some (reverseRange d a b).toList:=by have hd':d.size<1152921504606846976:=hd;apply yfp;rw[show subI .i64 (b:Int) 1=((b-1:Nat):Int)by rw[q22 (by omega) (by omega)];omega];exact y6d (b-1) a (b-1) d (by omega) (by omega) hd
section
variable {cmp : LU -> LU -> Int} (hc : ∀ x y, z06 x y = some (cmp x y))
include hc
theorem qjq(d:Array (LU))(a b s:Nat)(ha:a<d.size)(hb:b<d.size)(hs:s<1000):z12 (a:Int) (b:Int) d.toList (s:Int)=some (((order2 (fun x y=>ltB (cmp x y) 0) d a b s).1:Int),((order2 (fun x y=>ltB (cmp x y) 0) d a b s).2.1:Int),d.toList,((order2 (fun x y=>ltB (cmp x y) 0) d a b s).2.2:Int)):=by apply yem;simp only[nthA ha,nthA hb,nthNA ha,nthNA hb,tN,hc,bS,q01 (show s<4611686018427387904 by omega)];unfold order2;cases h:ltB (cmp d[b]! d[a]!) 0<;>simp[h]
omit hc in
theorem qau{lt:LU->LU->Bool}(d:Array (LU))(a b s:Nat)(ha:a<d.size)(hb:b<d.size):(order2 lt d a b s).1<d.size/\(order2 lt d a b s).2.1<d.size/\(order2 lt d a b s).2.2<=s+1:=by unfold order2;split<;>exact⟨by assumption,by assumption,by simp⟩
theorem qj2(d:Array (LU))(a b c s:Nat)(ha:a<d.size)(hb:b<d.size)(hcs:c<d.size)(hs:s<900):z11 (a:Int) (b:Int) (c:Int) d.toList (s:Int)=some (((median (fun x y=>ltB (cmp x y) 0) d a b c s).1:Int),d.toList,((median (fun x y=>ltB (cmp x y) 0) d a b c s).2:Int)):=by apply yd3;obtain⟨i1,i2,i3⟩:=qau (lt:=fun x y=>ltB (cmp x y) 0) d a b s ha hb;rw[qjq hc d a b s ha hb (by omega)];simp only[bS];generalize hr1:order2 (fun x y=>ltB (cmp x y) 0) d a b s=r1 at i1 i2 i3;obtain⟨j1,j2,j3⟩:=qau (lt:=fun x y=>ltB (cmp x y) 0) d r1.2.1 c r1.2.2 i2 hcs;rw[qjq hc d r1.2.1 c r1.2.2 i2 hcs (by omega)];simp only[bS];generalize hr2:order2 (fun x y=>ltB (cmp x y) 0) d r1.2.1 c r1.2.2=r2 at j1 j2 j3;rw[qjq hc d r1.1 r2.1 r2.2.2 i1 j1 (by omega)];simp only[bS];unfold median;simp only[hr1,hr2]
end
def hintI:Hint->Int|.unknown=>0|.increasing=>1|.decreasing=>2
theorem quo4{x:Nat}(h:x<4611686018427387904):quoI .i64 (x:Int) 4=((x/4:Nat):Int):=by show IntKind.wrap .i64 ((x:Int).tdiv 4)=_;rw[show(x:Int).tdiv 4=((x/4:Nat):Int)from rfl,wrap64 (by omega) (by omega)]
theorem mulN{x k:Nat}(h:x*k<4611686018427387904):mulI .i64 (x:Int) (k:Int)=((x*k:Nat):Int):=by show IntKind.wrap .i64 ((x:Int)*(k:Int))=_;rw[<-Int.natCast_mul,wrap64 (by omega) (by omega)]
theorem qb4{lt:LU->LU->Bool}(d:Array (LU))(a b c s:Nat)(ha:a<d.size)(hb:b<d.size)(hc:c<d.size):(median lt d a b c s).1<d.size/\(median lt d a b c s).2<=s+3:=by unfold median;obtain⟨i1,i2,i3⟩:=qau (lt:=lt) d a b s ha hb;obtain⟨j1,j2,j3⟩:=qau (lt:=lt) d _ c (order2 lt d a b s).2.2 i2 hc;obtain⟨k1,k2,k3⟩:=qau (lt:=lt) d _ _ (order2 lt d (order2 lt d a b s).2.1 c (order2 lt d a b s).2.2).2.2 i1 j1;exact⟨k2,by simp only;omega⟩
section
variable {cmp : LU -> LU -> Int} (hc : ∀ x y, z06 x y = some (cmp x y))
include hc
theorem qao(d:Array (LU))(a s:Nat)(h0:1<=a)(ha:a+1<d.size)(hd:Lim d)(hs:s<900):z0m (a:Int) d.toList (s:Int)=some (((medianAdjacent (fun x y=>ltB (cmp x y) 0) d a s).1:Int),d.toList,((medianAdjacent (fun x y=>ltB (cmp x y) 0) d a s).2:Int)):=by have hd':d.size<1152921504606846976:=hd;apply ydz;rw[show subI .i64 (a:Int) 1=((a-1:Nat):Int)by rw[q22 (by omega) (by omega)];omega,q01 (by omega),qj2 hc d (a-1) a (a+1) s (by omega) (by omega) ha hs];rfl
theorem y9w(d:Array (LU))(a b:Nat)(hab:a<b)(hbd:b<=d.size)(hd:Lim d):z0r (a:Int) (b:Int) d.toList=some (((choosePivot (fun x y=>ltB (cmp x y) 0) d a b).1:Int),hintI (choosePivot (fun x y=>ltB (cmp x y) 0) d a b).2,d.toList):=by
 have hd':d.size<1152921504606846976:=hd;apply yev;have el:=subN (x:=b) (y:=a) (by omega) (by omega);have eq:=quo4 (x:=b-a) (by omega);have m1:mulI .i64 (((b-a)/4:Nat):Int) 1=(((b-a)/4*1:Nat):Int):=mulN (k:=1) (by omega);have m2:mulI .i64 (((b-a)/4:Nat):Int) 2=(((b-a)/4*2:Nat):Int):=mulN (k:=2) (by omega);have m3:mulI .i64 (((b-a)/4:Nat):Int) 3=(((b-a)/4*3:Nat):Int):=mulN (k:=3) (by omega);have a1:=addN (x:=a) (y:=(b-a)/4*1) (by omega);have a2:=addN (x:=a) (y:=(b-a)/4*2) (by omega);have a3:=addN (x:=a) (y:=(b-a)/4*3) (by omega);simp only[el,eq,m1,m2,m3,a1,a2,a3];have tail:∀(p:Nat×Nat),p.2<=900->(bif(eqB (p.2:Int) 0)then some ((p.1:Int),(1:Int),d.toList)else bif(eqB (p.2:Int) 12)then some ((p.1:Int),2,d.toList)else some ((p.1:Int),0,d.toList))=some ((p.1:Int),hintI (if p.2=0 then .increasing else if p.2=12 then .decreasing else .unknown),d.toList):=by
  intro p _;by_cases h0:p.2=0;·simp[h0,eqB,hintI]
  .by_cases h12:p.2=12;·simp[h12,eqB,hintI]
   .rw[q0h (by omega),q0h (by omega)];simp[h0,h12,hintI]
 unfold choosePivot;by_cases h8:b-a≥8
 .rw[q0j (show(8:Int)<=((b-a:Nat):Int)by omega)];simp only[cT,if_pos h8];by_cases h50:b-a≥50;·rw[q0j (show(50:Int)<=((b-a:Nat):Int)by omega)];simp only[cT,if_pos h50];have q1:=qao hc d (a+(b-a)/4*1) 0 (by omega) (by omega) hd (by omega);have i1:=qb4 (lt:=fun x y=>ltB (cmp x y) 0) d (a+(b-a)/4*1-1) (a+(b-a)/4*1) (a+(b-a)/4*1+1) 0 (by omega) (by omega) (by omega);rw[show(0:Int)=((0:Nat):Int)from rfl,q1];simp only[bS];change(medianAdjacent (fun x y=>ltB (cmp x y) 0) d (a+(b-a)/4*1) 0).1<d.size/\(medianAdjacent (fun x y=>ltB (cmp x y) 0) d (a+(b-a)/4*1) 0).2<=0+3 at i1;generalize medianAdjacent (fun x y=>ltB (cmp x y) 0) d (a+(b-a)/4*1) 0=r1 at i1;have q2:=qao hc d (a+(b-a)/4*2) r1.2 (by omega) (by omega) hd (by omega);have i2:=qb4 (lt:=fun x y=>ltB (cmp x y) 0) d (a+(b-a)/4*2-1) (a+(b-a)/4*2) (a+(b-a)/4*2+1) r1.2 (by omega) (by omega) (by omega);rw[q2];simp only[bS];change(medianAdjacent (fun x y=>ltB (cmp x y) 0) d (a+(b-a)/4*2) r1.2).1<d.size/\(medianAdjacent (fun x y=>ltB (cmp x y) 0) d (a+(b-a)/4*2) r1.2).2<=r1.2+3 at i2;generalize medianAdjacent (fun x y=>ltB (cmp x y) 0) d (a+(b-a)/4*2) r1.2=r2 at i2;have q3:=qao hc d (a+(b-a)/4*3) r2.2 (by omega) (by omega) hd (by omega);have i3:=qb4 (lt:=fun x y=>ltB (cmp x y) 0) d (a+(b-a)/4*3-1) (a+(b-a)/4*3) (a+(b-a)/4*3+1) r2.2 (by omega) (by omega) (by omega);rw[q3];simp only[bS];change(medianAdjacent (fun x y=>ltB (cmp x y) 0) d (a+(b-a)/4*3) r2.2).1<d.size/\(medianAdjacent (fun x y=>ltB (cmp x y) 0) d (a+(b-a)/4*3) r2.2).2<=r2.2+3 at i3;generalize medianAdjacent (fun x y=>ltB (cmp x y) 0) d (a+(b-a)/4*3) r2.2=r3 at i3;have i4:=qb4 (lt:=fun x y=>ltB (cmp x y) 0) d r1.1 r2.1 r3.1 r3.2 i1.1 i2.1 i3.1;rw[qj2 hc d r1.1 r2.1 r3.1 r3.2 i1.1 i2.1 i3.1 (by omega)];simp only[bS];exact tail _ (by omega)
  .rw[q0e (show((b-a:Nat):Int)<50 by omega)];simp only[cF,if_neg h50];have i4:=qb4 (lt:=fun x y=>ltB (cmp x y) 0) d (a+(b-a)/4*1) (a+(b-a)/4*2) (a+(b-a)/4*3) 0 (by omega) (by omega) (by omega);rw[show(0:Int)=((0:Nat):Int)from rfl,qj2 hc d _ _ _ 0 (by omega) (by omega) (by omega) (by omega)];simp only[bS];exact tail _ (by omega)
 .rw[q0e (show((b-a:Nat):Int)<8 by omega)];simp only[cF,if_neg h8,if_true];rfl
end
theorem qf8(p:LU->Bool)(d:Array (LU))(j:Nat):∀(n i:Nat),j+1-i<=n->i<=scanUp p d j i
 |n,i,h=>by
  rw[scanUp];split;·rename_i hc;simp at hc;obtain⟨n,rfl⟩:∃m,n=m+1:=⟨n-1,by omega⟩;have:=qf8 p d j n (i+1) (by omega);omega
  .exact Nat.le_refl _
theorem q8s(p:LU->Bool)(d:Array (LU))(i:Nat):∀j,scanDown p d i j<=j
 |0=>Nat.le_refl _|j+1=>by
  rw[scanDown];split;·have:=q8s p d i j;omega
  .exact Nat.le_refl _
section
variable {cmp : LU -> LU -> Int} (hc : ∀ x y, z06 x y = some (cmp x y))
include hc
theorem pe_l2(a j:Nat)(d:Array (LU))(ha:a<d.size)(hj:j<d.size)(hd:Lim d):∀(n i:Nat),j+1-i<=n->Le (z0i (a:Int) ((scanUp (fun x=>!ltB (cmp d[a]! x) 0) d j i:Nat):Int) (j:Int) false d.toList) (z0u (a:Int) (i:Int) (j:Int) d.toList)
 |n,i,hn=>fun r hr=>by
  have hd':d.size<1152921504606846976:=hd;apply yeg;rw[scanUp]at hr;by_cases h:i<=j
  .obtain⟨n,rfl⟩:∃m,n=m+1:=⟨n-1,by omega⟩;have bi:i<d.size:=by omega
   simp only[q0j (show(i:Int)<=(j:Int)by omega),cT,tN,nthA ha,nthA bi,nthNA ha,nthNA bi,hc,bS,q01 (show i<4611686018427387904 by omega)];cases hl:ltB (cmp d[a]! d[i]!) 0 with|true=>simp only[nT,cF];simpa[h,hl]using hr|false=>simp only[Bool.not_false,cT];refine pe_l2 a j d ha hj hd n (i+1) (by omega) r ?_;simpa[h,hl]using hr
  .rw[q0e (by omega)];simpa[h]using hr
theorem pe_l4(a i:Nat)(d:Array (LU))(ha:a<d.size)(hi:1<=i)(hd:Lim d):∀(j:Nat),j<d.size->Le (if scanDown (fun x=>ltB (cmp d[a]! x) 0) d i j<i then some ((i:Int),d.toList)else z0a (a:Int) ((i+1:Nat):Int) ((scanDown (fun x=>ltB (cmp d[a]! x) 0) d i j-1:Nat):Int) (swp d i (scanDown (fun x=>ltB (cmp d[a]! x) 0) d i j)).toList) (z0v (a:Int) (i:Int) (j:Int) d.toList)
 |j,hj=>fun r hr=>by
  have hd':d.size<1152921504606846976:=hd;apply ydc;by_cases h:i<=j
  .obtain⟨j,rfl⟩:∃m,j=m+1:=⟨j-1,by omega⟩;have bi:i<d.size:=by omega
   simp only[q0j (show(i:Int)<=((j+1:Nat):Int)by omega),cT,tN,nthA ha,nthA hj,nthA bi,nthNA ha,nthNA hj,nthNA bi,hc,bS,qhk (show j<4611686018427387904 by omega),nthS _ hj,nthNS _ hj,q1i,q01 (show i<4611686018427387904 by omega)];rw[scanDown]at hr;cases hl:ltB (cmp d[a]! d[j+1]!) 0 with|true=>simp only[cT];refine pe_l4 a i d ha hi hd j (by omega) r ?_;simpa[h,hl]using hr|false=>simp only[cF,q00 (show(i:Int)<=((j+1:Nat):Int)by omega)];simp only[h,hl,decide_true,Bool.and_false,fT,if_false]at hr;rw[if_neg (by omega)]at hr;simpa using hr
  .have hs:scanDown (fun x=>ltB (cmp d[a]! x) 0) d i j=j:=by cases j with|zero=>rfl|succ j=>rw[scanDown];simp[h]
   rw[hs,if_pos (by omega)]at hr;rw[q0e (by omega),q03 (by omega)];exact hr
theorem pe_l3(a i:Nat)(d:Array (LU))(ha:a<d.size)(hi:1<=i)(hd:Lim d):∀(j:Nat),j<d.size->Le (if scanDown (fun x=>ltB (cmp d[a]! x) 0) d i j<i then some ((i:Int),d.toList)else z0a (a:Int) ((i+1:Nat):Int) ((scanDown (fun x=>ltB (cmp d[a]! x) 0) d i j-1:Nat):Int) (swp d i (scanDown (fun x=>ltB (cmp d[a]! x) 0) d i j)).toList) (z0i (a:Int) (i:Int) (j:Int) false d.toList)
 |j,hj=>fun r hr=>by
  have hd':d.size<1152921504606846976:=hd;apply ye0;by_cases h:i<=j
  .obtain⟨j,rfl⟩:∃m,j=m+1:=⟨j-1,by omega⟩;have bi:i<d.size:=by omega
   simp only[q0j (show(i:Int)<=((j+1:Nat):Int)by omega),cT,tN,nthA ha,nthA hj,nthA bi,nthNA ha,nthNA hj,nthNA bi,hc,bS,qhk (show j<4611686018427387904 by omega),nthS _ hj,nthNS _ hj,q1i,q01 (show i<4611686018427387904 by omega)];rw[scanDown]at hr;cases hl:ltB (cmp d[a]! d[j+1]!) 0 with|true=>simp only[cT];refine pe_l4 hc a i d ha hi hd j (by omega) r ?_;simpa[h,hl]using hr|false=>simp only[cF,q00 (show(i:Int)<=((j+1:Nat):Int)by omega)];simp only[h,hl,decide_true,Bool.and_false,fT,if_false]at hr;rw[if_neg (by omega)]at hr;simpa using hr
  .have hs:scanDown (fun x=>ltB (cmp d[a]! x) 0) d i j=j:=by cases j with|zero=>rfl|succ j=>rw[scanDown];simp[h]
   rw[hs,if_pos (by omega)]at hr;rw[q0e (by omega),q03 (by omega)];exact hr
theorem pe_l1(a:Nat):∀(n i j:Nat)(d:Array (LU)),j+1-i<=n->a<d.size->1<=i->j<d.size->Lim d->z0a (a:Int) (i:Int) (j:Int) d.toList=some (((partEqLoop (fun x y=>ltB (cmp x y) 0) a i j d).1:Int),(partEqLoop (fun x y=>ltB (cmp x y) 0) a i j d).2.toList)
 |n,i,j,d,hn,ha,hi,hj,hd=>by
  have hd':d.size<1152921504606846976:=hd;have u:=qf8 (fun x=>!ltB (cmp d[a]! x) 0) d j (j+1-i) i (Nat.le_refl _);have v:=q8s (fun x=>ltB (cmp d[a]! x) 0) d (scanUp (fun x=>!ltB (cmp d[a]! x) 0) d j i) j;apply yam;refine pe_l2 hc a j d ha hj hd (j+1-i) i (Nat.le_refl _) _ ?_;refine pe_l3 hc a _ d ha (by omega) hd j hj _ ?_;rw[partEqLoop];generalize scanUp (fun x=>!ltB (cmp d[a]! x) 0) d j i=i2 at u v⊢;generalize scanDown (fun x=>ltB (cmp d[a]! x) 0) d i2 j=j2 at v⊢;by_cases h:j2<i2;·rw[if_pos h,if_pos h]
  .have hg:(j2-1)+1-(i2+1)<j+1-i:=by omega
   rw[if_neg h,if_neg h,dif_pos hg];obtain⟨n,rfl⟩:∃m,n=m+1:=⟨n-1,by omega⟩;exact pe_l1 a n (i2+1) (j2-1) (swp d i2 j2) (by omega) (by rw[q0t];exact ha) (by omega) (by rw[q0t];omega) (by unfold Lim;rw[q0t];exact hd)
theorem y1y(a b p:Nat)(d:Array (LU))(hap:a<=p)(hpb:p<b)(hb:b<=d.size)(hd:Lim d):z04 (a:Int) (b:Int) (p:Int) d.toList=some (((partitionEqual (fun x y=>ltB (cmp x y) 0) d a b p).1:Int),(partitionEqual (fun x y=>ltB (cmp x y) 0) d a b p).2.toList):=by
 have hd':d.size<1152921504606846976:=hd;have ba:a<d.size:=by omega
 have bp:p<d.size:=by omega
 apply ye3;have e1:subI .i64 (b:Int) 1=((b-1:Nat):Int):=by rw[q22 (by omega) (by omega)];omega
 simp only[tN,nthA ba,nthA bp,nthNA ba,nthNA bp,nthS _ bp,nthNS _ bp,q1i,q01 (show a<4611686018427387904 by omega),e1];exact pe_l1 hc a (b-1+1-(a+1)) (a+1) (b-1) (swp d a p) (by omega) (by rw[q0t];exact ba) (by omega) (by rw[q0t];omega) (by unfold Lim;rw[q0t];exact hd)
end
section
variable {cmp : LU -> LU -> Int} (hc : ∀ x y, z06 x y = some (cmp x y))
include hc
theorem pa_l1(a j:Nat)(d:Array (LU))(ha:a<d.size)(hj:j<d.size)(hd:Lim d):∀(n i:Nat),j+1-i<=n->Le (z0o (a:Int) ((scanUp (fun x=>ltB (cmp x d[a]!) 0) d j i:Nat):Int) (j:Int) false d.toList) (z13 (a:Int) (i:Int) (j:Int) d.toList)
 |n,i,hn=>fun r hr=>by
  have hd':d.size<1152921504606846976:=hd;apply yat;rw[scanUp]at hr;by_cases h:i<=j
  .obtain⟨n,rfl⟩:∃m,n=m+1:=⟨n-1,by omega⟩;have bi:i<d.size:=by omega
   simp only[q0j (show(i:Int)<=(j:Int)by omega),cT,tN,nthA ha,nthA bi,nthNA ha,nthNA bi,hc,bS,q01 (show i<4611686018427387904 by omega)];cases hl:ltB (cmp d[i]! d[a]!) 0 with|false=>simp only[cF];simpa[h,hl]using hr|true=>simp only[cT];refine pa_l1 a j d ha hj hd n (i+1) (by omega) r ?_;simpa[h,hl]using hr
  .rw[q0e (by omega)];simpa[h]using hr
theorem pa_l5(a j:Nat)(d:Array (LU))(ha:a<d.size)(hj:j<d.size)(hd:Lim d):∀(n i:Nat),j+1-i<=n->Le (z0p (a:Int) ((scanUp (fun x=>ltB (cmp x d[a]!) 0) d j i:Nat):Int) (j:Int) false d.toList) (z15 (a:Int) (i:Int) (j:Int) d.toList)
 |n,i,hn=>fun r hr=>by
  have hd':d.size<1152921504606846976:=hd;apply ydm;rw[scanUp]at hr;by_cases h:i<=j
  .obtain⟨n,rfl⟩:∃m,n=m+1:=⟨n-1,by omega⟩;have bi:i<d.size:=by omega
   simp only[q0j (show(i:Int)<=(j:Int)by omega),cT,tN,nthA ha,nthA bi,nthNA ha,nthNA bi,hc,bS,q01 (show i<4611686018427387904 by omega)];cases hl:ltB (cmp d[i]! d[a]!) 0 with|false=>simp only[cF];simpa[h,hl]using hr|true=>simp only[cT];refine pa_l5 a j d ha hj hd n (i+1) (by omega) r ?_;simpa[h,hl]using hr
  .rw[q0e (by omega)];simpa[h]using hr
theorem pa_l3(a i:Nat)(d:Array (LU))(ha:a<d.size)(hi:1<=i)(hd:Lim d):∀(j:Nat),j<d.size->Le (if scanDown (fun x=>!ltB (cmp x d[a]!) 0) d i j<i then some (((scanDown (fun x=>!ltB (cmp x d[a]!) 0) d i j:Nat):Int),true,(swp d (scanDown (fun x=>!ltB (cmp x d[a]!) 0) d i j) a).toList)else z07 (a:Int) ((i+1:Nat):Int) ((scanDown (fun x=>!ltB (cmp x d[a]!) 0) d i j-1:Nat):Int) (swp d i (scanDown (fun x=>!ltB (cmp x d[a]!) 0) d i j)).toList) (z14 (a:Int) (i:Int) (j:Int) d.toList)
 |j,hj=>fun r hr=>by
  have hd':d.size<1152921504606846976:=hd;apply yeo;by_cases h:i<=j
  .obtain⟨j,rfl⟩:∃m,j=m+1:=⟨j-1,by omega⟩;have bi:i<d.size:=by omega
   simp only[q0j (show(i:Int)<=((j+1:Nat):Int)by omega),cT,tN,nthA ha,nthA hj,nthA bi,nthNA ha,nthNA hj,nthNA bi,hc,bS,qhk (show j<4611686018427387904 by omega),nthS _ hj,nthNS _ hj,nthS _ ha,nthNS _ ha,q1i,q01 (show i<4611686018427387904 by omega)];rw[scanDown]at hr;cases hl:ltB (cmp d[j+1]! d[a]!) 0 with|false=>simp only[Bool.not_false,cT];refine pa_l3 a i d ha hi hd j (by omega) r ?_;simpa[h,hl]using hr|true=>simp only[nT,cF,q00 (show(i:Int)<=((j+1:Nat):Int)by omega)];simp only[h,hl,decide_true,nT,Bool.and_false,fT,if_false]at hr;rw[if_neg (by omega)]at hr;simpa using hr
  .have hs:scanDown (fun x=>!ltB (cmp x d[a]!) 0) d i j=j:=by cases j with|zero=>rfl|succ j=>rw[scanDown];simp[h]
   rw[hs,if_pos (by omega)]at hr;rw[q0e (by omega),q03 (by omega)];simp only[cF,cT,tN,nthA ha,nthA hj,nthNA ha,nthNA hj,nthS _ ha,nthNS _ ha,q1i];exact hr
theorem pa_l2(a i:Nat)(d:Array (LU))(ha:a<d.size)(hi:1<=i)(hd:Lim d):∀(j:Nat),j<d.size->Le (if scanDown (fun x=>!ltB (cmp x d[a]!) 0) d i j<i then some (((scanDown (fun x=>!ltB (cmp x d[a]!) 0) d i j:Nat):Int),true,(swp d (scanDown (fun x=>!ltB (cmp x d[a]!) 0) d i j) a).toList)else z07 (a:Int) ((i+1:Nat):Int) ((scanDown (fun x=>!ltB (cmp x d[a]!) 0) d i j-1:Nat):Int) (swp d i (scanDown (fun x=>!ltB (cmp x d[a]!) 0) d i j)).toList) (z0o (a:Int) (i:Int) (j:Int) false d.toList)
 |j,hj=>fun r hr=>by
  have hd':d.size<1152921504606846976:=hd;apply ybw;by_cases h:i<=j
  .obtain⟨j,rfl⟩:∃m,j=m+1:=⟨j-1,by omega⟩;have bi:i<d.size:=by omega
   simp only[q0j (show(i:Int)<=((j+1:Nat):Int)by omega),cT,tN,nthA ha,nthA hj,nthA bi,nthNA ha,nthNA hj,nthNA bi,hc,bS,qhk (show j<4611686018427387904 by omega),nthS _ hj,nthNS _ hj,nthS _ ha,nthNS _ ha,q1i,q01 (show i<4611686018427387904 by omega)];rw[scanDown]at hr;cases hl:ltB (cmp d[j+1]! d[a]!) 0 with|false=>simp only[Bool.not_false,cT];refine pa_l3 hc a i d ha hi hd j (by omega) r ?_;simpa[h,hl]using hr|true=>simp only[nT,cF,q00 (show(i:Int)<=((j+1:Nat):Int)by omega)];simp only[h,hl,decide_true,nT,Bool.and_false,fT,if_false]at hr;rw[if_neg (by omega)]at hr;simpa using hr
  .have hs:scanDown (fun x=>!ltB (cmp x d[a]!) 0) d i j=j:=by cases j with|zero=>rfl|succ j=>rw[scanDown];simp[h]
   rw[hs,if_pos (by omega)]at hr;rw[q0e (by omega),q03 (by omega)];simp only[cF,cT,tN,nthA ha,nthA hj,nthNA ha,nthNA hj,nthS _ ha,nthNS _ ha,q1i];exact hr
theorem pa_l7(a i:Nat)(d:Array (LU))(ha:a<d.size)(hi:1<=i)(hd:Lim d):∀(j:Nat),j<d.size->Le (if scanDown (fun x=>!ltB (cmp x d[a]!) 0) d i j<i then some (((scanDown (fun x=>!ltB (cmp x d[a]!) 0) d i j:Nat):Int),false,(swp d (scanDown (fun x=>!ltB (cmp x d[a]!) 0) d i j) a).toList)else z07 (a:Int) ((i+1:Nat):Int) ((scanDown (fun x=>!ltB (cmp x d[a]!) 0) d i j-1:Nat):Int) (swp d i (scanDown (fun x=>!ltB (cmp x d[a]!) 0) d i j)).toList) (z16 (a:Int) (i:Int) (j:Int) d.toList)
 |j,hj=>fun r hr=>by
  have hd':d.size<1152921504606846976:=hd;apply ych;by_cases h:i<=j
  .obtain⟨j,rfl⟩:∃m,j=m+1:=⟨j-1,by omega⟩;have bi:i<d.size:=by omega
   simp only[q0j (show(i:Int)<=((j+1:Nat):Int)by omega),cT,tN,nthA ha,nthA hj,nthA bi,nthNA ha,nthNA hj,nthNA bi,hc,bS,qhk (show j<4611686018427387904 by omega),nthS _ hj,nthNS _ hj,nthS _ ha,nthNS _ ha,q1i,q01 (show i<4611686018427387904 by omega)];rw[scanDown]at hr;cases hl:ltB (cmp d[j+1]! d[a]!) 0 with|false=>simp only[Bool.not_false,cT];refine pa_l7 a i d ha hi hd j (by omega) r ?_;simpa[h,hl]using hr|true=>simp only[nT,cF,q00 (show(i:Int)<=((j+1:Nat):Int)by omega)];simp only[h,hl,decide_true,nT,Bool.and_false,fT,if_false]at hr;rw[if_neg (by omega)]at hr;simpa using hr
  .have hs:scanDown (fun x=>!ltB (cmp x d[a]!) 0) d i j=j:=by cases j with|zero=>rfl|succ j=>rw[scanDown];simp[h]
   rw[hs,if_pos (by omega)]at hr;rw[q0e (by omega),q03 (by omega)];simp only[cF,cT,tN,nthA ha,nthA hj,nthNA ha,nthNA hj,nthS _ ha,nthNS _ ha,q1i];exact hr
theorem pa_l6(a i:Nat)(d:Array (LU))(ha:a<d.size)(hi:1<=i)(hd:Lim d):∀(j:Nat),j<d.size->Le (if scanDown (fun x=>!ltB (cmp x d[a]!) 0) d i j<i then some (((scanDown (fun x=>!ltB (cmp x d[a]!) 0) d i j:Nat):Int),false,(swp d (scanDown (fun x=>!ltB (cmp x d[a]!) 0) d i j) a).toList)else z07 (a:Int) ((i+1:Nat):Int) ((scanDown (fun x=>!ltB (cmp x d[a]!) 0) d i j-1:Nat):Int) (swp d i (scanDown (fun x=>!ltB (cmp x d[a]!) 0) d i j)).toList) (z0p (a:Int) (i:Int) (j:Int) false d.toList)
 |j,hj=>fun r hr=>by
  have hd':d.size<1152921504606846976:=hd;apply yan;by_cases h:i<=j
  .obtain⟨j,rfl⟩:∃m,j=m+1:=⟨j-1,by omega⟩;have bi:i<d.size:=by omega
   simp only[q0j (show(i:Int)<=((j+1:Nat):Int)by omega),cT,tN,nthA ha,nthA hj,nthA bi,nthNA ha,nthNA hj,nthNA bi,hc,bS,qhk (show j<4611686018427387904 by omega),nthS _ hj,nthNS _ hj,nthS _ ha,nthNS _ ha,q1i,q01 (show i<4611686018427387904 by omega)];rw[scanDown]at hr;cases hl:ltB (cmp d[j+1]! d[a]!) 0 with|false=>simp only[Bool.not_false,cT];refine pa_l7 hc a i d ha hi hd j (by omega) r ?_;simpa[h,hl]using hr|true=>simp only[nT,cF,q00 (show(i:Int)<=((j+1:Nat):Int)by omega)];simp only[h,hl,decide_true,nT,Bool.and_false,fT,if_false]at hr;rw[if_neg (by omega)]at hr;simpa using hr
  .have hs:scanDown (fun x=>!ltB (cmp x d[a]!) 0) d i j=j:=by cases j with|zero=>rfl|succ j=>rw[scanDown];simp[h]
   rw[hs,if_pos (by omega)]at hr;rw[q0e (by omega),q03 (by omega)];simp only[cF,cT,tN,nthA ha,nthA hj,nthNA ha,nthNA hj,nthS _ ha,nthNS _ ha,q1i];exact hr
theorem pa_l4(a:Nat):∀(n i j:Nat)(d:Array (LU)),j+1-i<=n->a<d.size->1<=i->j<d.size->Lim d->z07 (a:Int) (i:Int) (j:Int) d.toList=some (((partLoop (fun x y=>ltB (cmp x y) 0) a i j d).1:Int),false,(swp (partLoop (fun x y=>ltB (cmp x y) 0) a i j d).2 (partLoop (fun x y=>ltB (cmp x y) 0) a i j d).1 a).toList)
 |n,i,j,d,hn,ha,hi,hj,hd=>by
  have hd':d.size<1152921504606846976:=hd;have u:=qf8 (fun x=>ltB (cmp x d[a]!) 0) d j (j+1-i) i (Nat.le_refl _);have v:=q8s (fun x=>!ltB (cmp x d[a]!) 0) d (scanUp (fun x=>ltB (cmp x d[a]!) 0) d j i) j;apply yb9;refine pa_l5 hc a j d ha hj hd (j+1-i) i (Nat.le_refl _) _ ?_;refine pa_l6 hc a _ d ha (by omega) hd j hj _ ?_;rw[partLoop];generalize scanUp (fun x=>ltB (cmp x d[a]!) 0) d j i=i2 at u v⊢;generalize scanDown (fun x=>!ltB (cmp x d[a]!) 0) d i2 j=j2 at v⊢;by_cases h:j2<i2;·rw[if_pos h,if_pos h]
  .have hg:(j2-1)+1-(i2+1)<j+1-i:=by omega
   rw[if_neg h,if_neg h,dif_pos hg];obtain⟨n,rfl⟩:∃m,n=m+1:=⟨n-1,by omega⟩;exact pa_l4 a n (i2+1) (j2-1) (swp d i2 j2) (by omega) (by rw[q0t];exact ha) (by omega) (by rw[q0t];omega) (by unfold Lim;rw[q0t];exact hd)
theorem y93(a b p:Nat)(d:Array (LU))(hap:a<=p)(hpb:p<b)(hb:b<=d.size)(hd:Lim d):z02 (a:Int) (b:Int) (p:Int) d.toList=some (((Sort.partition (fun x y=>ltB (cmp x y) 0) d a b p).1:Int),(Sort.partition (fun x y=>ltB (cmp x y) 0) d a b p).2.1,(Sort.partition (fun x y=>ltB (cmp x y) 0) d a b p).2.2.toList):=by
 have hd':d.size<1152921504606846976:=hd;have ba:a<d.size:=by omega
 have bp:p<d.size:=by omega
 apply yb6;have e1:subI .i64 (b:Int) 1=((b-1:Nat):Int):=by rw[q22 (by omega) (by omega)];omega
 simp only[tN,nthA ba,nthA bp,nthNA ba,nthNA bp,nthS _ bp,nthNS _ bp,q1i,q01 (show a<4611686018427387904 by omega),e1];have hs:(swp d a p).size=d.size:=q0t d a p;unfold Sort.partition;generalize swp d a p=d at hs⊢;dsimp only;have hL:Lim d:=by unfold Lim;omega
 have u:=qf8 (fun x=>ltB (cmp x d[a]!) 0) d (b-1) (b-1+1-(a+1)) (a+1) (Nat.le_refl _);have v:=q8s (fun x=>!ltB (cmp x d[a]!) 0) d (scanUp (fun x=>ltB (cmp x d[a]!) 0) d (b-1) (a+1)) (b-1);refine pa_l1 hc a (b-1) d (by omega) (by omega) hL (b-1+1-(a+1)) (a+1) (Nat.le_refl _) _ ?_;refine pa_l2 hc a _ d (by omega) (by omega) hL (b-1) (by omega) _ ?_;generalize scanUp (fun x=>ltB (cmp x d[a]!) 0) d (b-1) (a+1)=i2 at u v⊢;generalize scanDown (fun x=>!ltB (cmp x d[a]!) 0) d i2 (b-1)=j2 at v⊢;by_cases h:j2<i2;·simp only[gt_iff_lt,if_pos h]
 .simp only[gt_iff_lt,if_neg h];exact pa_l4 hc a (j2-1+1-(i2+1)) (i2+1) (j2-1) (swp d i2 j2) (Nat.le_refl _) (by rw[q0t];omega) (by omega) (by rw[q0t];omega) (by unfold Lim;rw[q0t];exact hL)
end
section
variable {cmp : LU -> LU -> Int} (hc : ∀ x y, z06 x y = some (cmp x y))
include hc
theorem pi_l5(a b i s:Nat)(hb:b<1152921504606846976)(hs:s<1000):∀(n j:Nat)(d:Array (LU)),b<=j+n->1<=j->b<=d.size->Lim d->Le (z03 (a:Int) (b:Int) (i:Int) ((s+1:Nat):Int) (shiftUp (fun x y=>ltB (cmp x y) 0) b j d).toList) (z05 (a:Int) (b:Int) (i:Int) (s:Int) (j:Int) d.toList)
 |n,j,d,hn,hj,hbd,hd=>fun r hr=>by
  have hd':d.size<1152921504606846976:=hd;apply yd9;rw[shiftUp]at hr;by_cases h:j<b
  .obtain⟨n,rfl⟩:∃m,n=m+1:=⟨n-1,by omega⟩;have bj:j<d.size:=by omega
   have bp:j-1<d.size:=by omega
   have e1:subI .i64 (j:Int) 1=((j-1:Nat):Int):=by rw[q22 (by omega) (by omega)];omega
   simp only[q03 (show(j:Int)<(b:Int)by omega),cT,e1,tN,nthA bj,nthA bp,nthNA bj,nthNA bp,hc,bS,nthS _ bp,nthNS _ bp,q1i,q01 (show j<4611686018427387904 by omega),q01 (show s<4611686018427387904 by omega)];cases hl:ltB (cmp d[j]! d[j-1]!) 0 with|true=>simp only[nT,cF];refine pi_l5 a b i s hb hs n (j+1) (swp d j (j-1)) (by omega) (by omega) (by rw[q0t];exact hbd) (by unfold Lim;rw[q0t];exact hd) r ?_;simpa[h,hl]using hr|false=>simp only[Bool.not_false,cT];simpa[h,hl]using hr
  .rw[q00 (by omega),q01 (by omega)];simpa[h]using hr
theorem pi_l4(a b i s:Nat)(hi:i<1152921504606846976)(hs:s<1000):∀(j:Nat)(d:Array (LU)),j<d.size->Lim d->Le (bif(leB 2 (subI .i64 (b:Int) (i:Int)))then z05 (a:Int) (b:Int) (i:Int) (s:Int) ((i+1:Nat):Int) (shiftDown (fun x y=>ltB (cmp x y) 0) j d).toList else z03 (a:Int) (b:Int) (i:Int) ((s+1:Nat):Int) (shiftDown (fun x y=>ltB (cmp x y) 0) j d).toList) (z08 (a:Int) (b:Int) (i:Int) (s:Int) (j:Int) d.toList)
 |0,d,hj,hd=>fun r hr=>by apply y6b;rw[q0e (show((0:Nat):Int)<1 by omega),q01 (show i<4611686018427387904 by omega),q01 (show s<4611686018427387904 by omega)];exact hr|j+1,d,hj,hd=>fun r hr=>by
  have hd':d.size<1152921504606846976:=hd;have bp:j<d.size:=by omega
  apply y6b;rw[shiftDown]at hr;simp only[q0j (show(1:Int)<=((j+1:Nat):Int)by omega),cT,qhk (show j<4611686018427387904 by omega),tN,nthA hj,nthA bp,nthNA hj,nthNA bp,hc,bS,nthS _ bp,nthNS _ bp,q1i,q01 (show i<4611686018427387904 by omega),q01 (show s<4611686018427387904 by omega)];cases hl:ltB (cmp d[j+1]! d[j]!) 0 with|true=>simp only[nT,cF];refine pi_l4 a b i s hi hs j (swp d (j+1) j) (by rw[q0t];omega) (by unfold Lim;rw[q0t];exact hd) r ?_;simpa only[hl,nT,fT,if_false]using hr|false=>simp only[Bool.not_false,cT];simpa only[hl,Bool.not_false,if_true]using hr
end
section
variable {cmp : LU -> LU -> Int} (hc : ∀ x y, z06 x y = some (cmp x y))
include hc
theorem pi_l3(a b s:Nat)(hs:s<1000)(d:Array (LU))(hab:a<=b)(hb:b<=d.size)(hd:Lim d):∀(n i:Nat),b<=i+n->a+1<=i->i<=b->Le (let i2:=scanSorted (fun x y=>ltB (cmp x y) 0) d b i
   if i2=b then some (true,d.toList)else if b-a<50 then some (false,d.toList)else bif(leB 2 (subI .i64 (i2:Int) (a:Int)))then z08 (a:Int) (b:Int) (i2:Int) (s:Int) ((i2-1:Nat):Int) (swp d i2 (i2-1)).toList else bif(leB 2 (subI .i64 (b:Int) (i2:Int)))then z05 (a:Int) (b:Int) (i2:Int) (s:Int) ((i2+1:Nat):Int) (swp d i2 (i2-1)).toList else z03 (a:Int) (b:Int) (i2:Int) ((s+1:Nat):Int) (swp d i2 (i2-1)).toList) (z0k (a:Int) (b:Int) (i:Int) (s:Int) d.toList)
 |n,i,hn,hi,hib=>fun r hr=>by
  have hd':d.size<1152921504606846976:=hd;dsimp only at hr;apply ydv;rw[scanSorted]at hr;have eb:subI .i64 (b:Int) (a:Int)=((b-a:Nat):Int):=subN hab (by omega);by_cases h:i<b
  .obtain⟨n,rfl⟩:∃m,n=m+1:=⟨n-1,by omega⟩;have bi:i<d.size:=by omega
   have bp:i-1<d.size:=by omega
   have e1:subI .i64 (i:Int) 1=((i-1:Nat):Int):=by rw[q22 (by omega) (by omega)];omega
   simp only[q03 (show(i:Int)<(b:Int)by omega),cT,e1,eb,tN,nthA bi,nthA bp,nthNA bi,nthNA bp,hc,bS,nthS _ bp,nthNS _ bp,q1i,q01 (show i<4611686018427387904 by omega),q01 (show s<4611686018427387904 by omega)];cases hl:ltB (cmp d[i]! d[i-1]!) 0 with|false=>simp only[Bool.not_false,cT];refine pi_l3 a b s hs d hab hb hd n (i+1) (by omega) (by omega) (by omega) r ?_;simpa only[hl,h,decide_true,Bool.not_false,Bool.and_self,if_true]using hr|true=>
    simp only[nT,cF,q0h (show(i:Int)≠(b:Int)by omega)];simp only[hl,nT,Bool.and_false,fT,if_false,if_neg (show i≠b by omega)]at hr;by_cases h50:b-a<50;·rw[if_pos h50]at hr;rw[q03 (show((b-a:Nat):Int)<50 by omega)];exact hr
    .rw[if_neg h50]at hr;rw[q00 (show(50:Int)<=((b-a:Nat):Int)by omega)];exact hr
  .have hib':i=b:=by omega
   subst hib';rw[q00 (by omega)];simp only[cF,q0m,cT];simpa[h]using hr
theorem pi_l2(a b s:Nat)(hs:s<1000)(d:Array (LU))(hab:a<=b)(hb:b<=d.size)(hd:Lim d):∀(n i:Nat),b<=i+n->a+1<=i->i<=b->Le (let i2:=scanSorted (fun x y=>ltB (cmp x y) 0) d b i
   if i2=b then some (true,d.toList)else if b-a<50 then some (false,d.toList)else bif(leB 2 (subI .i64 (i2:Int) (a:Int)))then z08 (a:Int) (b:Int) (i2:Int) (s:Int) ((i2-1:Nat):Int) (swp d i2 (i2-1)).toList else bif(leB 2 (subI .i64 (b:Int) (i2:Int)))then z05 (a:Int) (b:Int) (i2:Int) (s:Int) ((i2+1:Nat):Int) (swp d i2 (i2-1)).toList else z03 (a:Int) (b:Int) (i2:Int) ((s+1:Nat):Int) (swp d i2 (i2-1)).toList) (z10 (a:Int) (b:Int) (i:Int) (s:Int) true d.toList)
 |n,i,hn,hi,hib=>fun r hr=>by
  have hd':d.size<1152921504606846976:=hd;dsimp only at hr;apply yao;rw[scanSorted]at hr;have eb:subI .i64 (b:Int) (a:Int)=((b-a:Nat):Int):=subN hab (by omega);by_cases h:i<b
  .obtain⟨n,rfl⟩:∃m,n=m+1:=⟨n-1,by omega⟩;have bi:i<d.size:=by omega
   have bp:i-1<d.size:=by omega
   have e1:subI .i64 (i:Int) 1=((i-1:Nat):Int):=by rw[q22 (by omega) (by omega)];omega
   simp only[q03 (show(i:Int)<(b:Int)by omega),cT,e1,eb,tN,nthA bi,nthA bp,nthNA bi,nthNA bp,hc,bS,nthS _ bp,nthNS _ bp,q1i,q01 (show i<4611686018427387904 by omega),q01 (show s<4611686018427387904 by omega)];cases hl:ltB (cmp d[i]! d[i-1]!) 0 with|false=>simp only[Bool.not_false,cT];refine pi_l3 hc a b s hs d hab hb hd n (i+1) (by omega) (by omega) (by omega) r ?_;simpa only[hl,h,decide_true,Bool.not_false,Bool.and_self,if_true]using hr|true=>
    simp only[nT,cF,q0h (show(i:Int)≠(b:Int)by omega)];simp only[hl,nT,Bool.and_false,fT,if_false,if_neg (show i≠b by omega)]at hr;by_cases h50:b-a<50;·rw[if_pos h50]at hr;rw[q03 (show((b-a:Nat):Int)<50 by omega)];exact hr
    .rw[if_neg h50]at hr;rw[q00 (show(50:Int)<=((b-a:Nat):Int)by omega)];exact hr
  .have hib':i=b:=by omega
   subst hib';rw[q00 (by omega)];simp only[cF,q0m,cT];simpa[h]using hr
end
theorem qeo(lt:LU->LU->Bool)(d:Array (LU))(b:Nat):∀(n i:Nat),b<=i+n->i<=b->i<=scanSorted lt d b i/\scanSorted lt d b i<=b
 |n,i,h,hi=>by
  rw[scanSorted];split;·rename_i hc;simp at hc;obtain⟨n,rfl⟩:∃m,n=m+1:=⟨n-1,by omega⟩;have:=qeo lt d b n (i+1) (by omega) (by omega);omega
  .exact⟨Nat.le_refl _,hi⟩
theorem q7q{lt:LU->LU->Bool}:∀(j:Nat)(d:Array (LU)),(shiftDown lt j d).size=d.size
 |0,d=>rfl|j+1,d=>by
  rw[shiftDown];split;·rfl
  .rw[q7q j,q0t]
theorem qhh{lt:LU->LU->Bool}(b:Nat):∀(n j:Nat)(d:Array (LU)),b<=j+n->(shiftUp lt b j d).size=d.size
 |n,j,d,h=>by
  rw[shiftUp];split
  .obtain⟨n,rfl⟩:∃m,n=m+1:=⟨n-1,by omega⟩;split;·rfl
   .rw[qhh b n _ _ (by omega),q0t]
  .rfl
section
variable {cmp : LU -> LU -> Int} (hc : ∀ x y, z06 x y = some (cmp x y))
include hc
theorem pi_l1(a b:Nat)(hab:a<b):∀(k s i:Nat)(d:Array (LU)),s+k=5->a+1<=i->i<=b->b<=d.size->Lim d->z03 (a:Int) (b:Int) (i:Int) (s:Int) d.toList=some ((partialIns (fun x y=>ltB (cmp x y) 0) a b k i d).2,(partialIns (fun x y=>ltB (cmp x y) 0) a b k i d).1.toList)
 |0,s,i,d,hs,hi,hib,hb,hd=>by apply y64;rw[q00 (by omega)];rfl|k+1,s,i,d,hs,hi,hib,hb,hd=>by
  have hd':d.size<1152921504606846976:=hd;apply y64;rw[q03 (by omega)];simp only[cT];refine pi_l2 hc a b s (by omega) d (by omega) hb hd b i (by omega) hi hib _ ?_;obtain⟨u,v⟩:=qeo (fun x y=>ltB (cmp x y) 0) d b b i (by omega) hib;rw[partialIns];dsimp only;generalize scanSorted (fun x y=>ltB (cmp x y) 0) d b i=i2 at u v⊢;by_cases h1:i2=b;·simp only[if_pos h1]
  .by_cases h2:b-a<50;·simp only[if_neg h1,if_pos h2]
   .simp only[if_neg h1,if_neg h2];have e1:=subN (x:=i2) (y:=a) (by omega) (by omega);have e2:=subN (x:=b) (y:=i2) v (by omega);have sz:(swp d i2 (i2-1)).size=d.size:=q0t _ _ _;generalize swp d i2 (i2-1)=d1 at sz⊢;have up:∀d2:Array (LU),d2.size=d.size->∀r,z03 (a:Int) (b:Int) (i2:Int) ((s+1:Nat):Int) (if b-i2≥2 then shiftUp (fun x y=>ltB (cmp x y) 0) b (i2+1) d2 else d2).toList=some r->(bif(leB 2 (subI .i64 (b:Int) (i2:Int)))then z05 (a:Int) (b:Int) (i2:Int) (s:Int) ((i2+1:Nat):Int) d2.toList else z03 (a:Int) (b:Int) (i2:Int) ((s+1:Nat):Int) d2.toList)=some r:=by
     intro d2 h2s r hr;rw[e2];by_cases h3:b-i2≥2;·rw[q0j (show(2:Int)<=((b-i2:Nat):Int)by omega)];rw[if_pos h3]at hr;exact pi_l5 hc a b i2 s (by omega) (by omega) b (i2+1) d2 (by omega) (by omega) (by omega) (by unfold Lim;omega) r hr
     .rw[q0e (show((b-i2:Nat):Int)<2 by omega)];rw[if_neg h3]at hr;exact hr
    have last:∀d2:Array (LU),d2.size=d.size->z03 (a:Int) (b:Int) (i2:Int) ((s+1:Nat):Int) (if b-i2≥2 then shiftUp (fun x y=>ltB (cmp x y) 0) b (i2+1) d2 else d2).toList=some ((partialIns (fun x y=>ltB (cmp x y) 0) a b k i2 (if b-i2≥2 then shiftUp (fun x y=>ltB (cmp x y) 0) b (i2+1) d2 else d2)).2,(partialIns (fun x y=>ltB (cmp x y) 0) a b k i2 (if b-i2≥2 then shiftUp (fun x y=>ltB (cmp x y) 0) b (i2+1) d2 else d2)).1.toList):=by
     intro d2 h2s;have hsz:(if b-i2≥2 then shiftUp (fun x y=>ltB (cmp x y) 0) b (i2+1) d2 else d2).size=d.size:=by
      split;·rw[qhh b b _ _ (by omega),h2s]
      .exact h2s
     exact pi_l1 a b hab k (s+1) i2 _ (by omega) (by omega) v (by omega) (by unfold Lim;omega)
    rw[e1];by_cases h4:i2-a≥2;·rw[q0j (show(2:Int)<=((i2-a:Nat):Int)by omega)];simp only[cT,if_pos h4];refine pi_l4 hc a b i2 s (by omega) (by omega) (i2-1) d1 (by omega) (by unfold Lim;omega) _ ?_;exact up _ (by rw[q7q,sz]) _ (last _ (by rw[q7q,sz]))
    .rw[q0e (show((i2-a:Nat):Int)<2 by omega)];simp only[cF,if_neg h4];exact up _ sz _ (last _ sz)
end
variable {n : Nat}
theorem wrapU(h:n<18446744073709551616):IntKind.wrap .u64 (n:Int)=(n:Int):=by show((n:Int))%18446744073709551616=n;omega
theorem y2l(n:Nat):IntKind.wrap .u64 (n:Int)=((n%18446744073709551616:Nat):Int):=by show((n:Int))%18446744073709551616=_;omega
theorem qtm(a:UInt64):BitVec.ofInt 64 (a.toNat:Int)=a.toBitVec:=by apply BitVec.eq_of_toNat_eq;rw[BitVec.toNat_ofInt];have:=a.toNat_lt;show((a.toNat:Int)%((2^64:Nat):Int)).toNat=a.toNat;omega
theorem xor_u(a b:UInt64):xorI .u64 (a.toNat:Int) (b.toNat:Int)=((a^^^b).toNat:Int):=by have h:(a^^^b).toNat<18446744073709551616:=(a^^^b).toNat_lt;show IntKind.wrap .u64 (((BitVec.ofInt 64 (a.toNat:Int))^^^(BitVec.ofInt 64 (b.toNat:Int))).toNat:Int)=_;rw[qtm,qtm];exact wrapU h
theorem shl_u(a:UInt64)(k:Nat)(c:UInt64)(hk:k<64)(hc:c.toNat=k):shlI .u64 (a.toNat:Int) (k:Int)=((a<<<c).toNat:Int):=by rw[UInt64.toNat_shiftLeft,hc,Nat.mod_eq_of_lt hk,Nat.shiftLeft_eq];show IntKind.wrap .u64 ((a.toNat:Int)*2^(min ((k:Int).toNat) 64))=_;rw[tN,Nat.min_eq_left (by omega)];have:=y2l (a.toNat*2^k);rw[Int.natCast_mul,Int.natCast_pow]at this;exact this
theorem shr_u(a:UInt64)(k:Nat)(c:UInt64)(hk:k<64)(hc:c.toNat=k):shrI .u64 (a.toNat:Int) (k:Int)=((a>>>c).toNat:Int):=by rw[UInt64.toNat_shiftRight,hc,Nat.mod_eq_of_lt hk,Nat.shiftRight_eq_div_pow];show(a.toNat:Int).fdiv (2^(min ((k:Int).toNat) 64))=_;rw[tN,Nat.min_eq_left (by omega),Int.fdiv_eq_ediv_of_nonneg _ (Int.pow_nonneg (by decide))];rw[Int.natCast_ediv,Int.natCast_pow];rfl
theorem y3w(r:UInt64):z51 (r.toNat:Int)=some (((xorNext r).toNat:Int),((xorNext r).toNat:Int)):=by
 apply ydo;have e1:shlI .u64 (r.toNat:Int) 13=((r<<<13).toNat:Int):=shl_u r 13 13 (by decide) rfl;rw[e1,xor_u];generalize hr1:r^^^(r<<<13)=r1;have e2:shrI .u64 (r1.toNat:Int) 7=((r1>>>7).toNat:Int):=shr_u r1 7 7 (by decide) rfl;rw[e2,xor_u];generalize hr2:r1^^^(r1>>>7)=r2;have e3:shlI .u64 (r2.toNat:Int) 17=((r2<<<17).toNat:Int):=shl_u r2 17 17 (by decide) rfl;rw[e3,xor_u];have:xorNext r=r2^^^(r2<<<17):=by simp only[xorNext,hr1,hr2]
 rw[this]
theorem q67{k:Nat}(h:n<2^k):bitsLen n<=k:=by
 unfold bitsLen;split;·omega
 .rename_i h0;have:=(Nat.log2_lt h0).2 h;omega
theorem qxg(n:Nat):n<2^bitsLen n:=by
 unfold bitsLen;split;·rename_i h;subst h;decide
 .rename_i h0;exact(Nat.log2_lt h0).1 (Nat.lt_succ_self _)
theorem qnj(h:256<=n):bitsLen n=8+bitsLen (n/256):=by
 have h0:n≠0:=by omega
 have h1:n/256≠0:=by omega
 unfold bitsLen;rw[if_neg h0,if_neg h1];have a1:2^Nat.log2 (n/256)<=n/256:=Nat.log2_self_le h1;have a2:n/256<2^(Nat.log2 (n/256)+1):=Nat.lt_log2_self;have b1:Nat.log2 (n/256)+8<=Nat.log2 n:=(Nat.le_log2 h0).2 (by rw[Nat.pow_add];omega);have b2:Nat.log2 n<Nat.log2 (n/256)+9:=(Nat.log2_lt h0).2 (by rw[show Nat.log2 (n/256)+9=(Nat.log2 (n/256)+1)+8 by omega,Nat.pow_add];omega);omega
def y0c:LU:=(List.range 256).map fun n=>UInt8.ofNat (bitsLen n)
theorem qy8(h:n<256):y0c[n]?=some (UInt8.ofNat (bitsLen n)):=by unfold y0c;rw[List.getElem?_map,List.getElem?_range h];rfl
theorem qlk(h:n<256):((UInt8.ofNat (bitsLen n)).toNat:Nat)=bitsLen n:=by have:=q67 (n:=n) (k:=8) h;simp;omega
theorem yf9(h:n<256):IntKind.wrap .u8 (n:Int)=(n:Int):=by show((n:Int))%256=n;omega
theorem y1v{β:Type}(T:LU)(hT:T=y0c)(h:n<256)(k:UInt8->Option β):nth T (IntKind.wrap .u8 (n:Int)) k=k (UInt8.ofNat (bitsLen n)):=by subst hT;rw[yf9 h,q0s (by omega) (by rw[tN];exact qy8 h)]
set_option maxRecDepth 100000 in
theorem y5d(h:n<65536):z85 (n:Int)=some ((bitsLen n:Nat):Int):=by
 apply ybs;rw[q0e (show(n:Int)<4294967296 by omega),q0e (show(n:Int)<65536 by omega)];simp only[cF];by_cases h1:256<=n
 .have e:shrI .u64 (n:Int) 8=((n/256:Nat):Int):=by show(n:Int).fdiv (2^(min ((8:Int).toNat) 64))=_;rw[show(min ((8:Int).toNat) 64)=8 from rfl,Int.fdiv_eq_ediv_of_nonneg _ (by decide),Int.natCast_ediv];rfl
  have hs:n/256<256:=by omega
  rw[q0j (by omega)];simp only[cT];rw[e,y1v _ (by kernel_rfl) hs,qlk hs,qnj h1];have:=q67 (n:=n/256) (k:=8) hs;rw[wrap64 (by omega) (by omega),q20 (by omega) (by omega)];congr 1<;>omega
 .have hs:n<256:=by omega
  rw[q0e (by omega)];simp only[cF];rw[y1v _ (by kernel_rfl) hs,qlk hs];have:=q67 (n:=n) (k:=8) hs;rw[wrap64 (by omega) (by omega),q20 (by omega) (by omega)];congr 1<;>omega
theorem y84(h:n<65536):z87 (n:Int)=some ((bitsLen n:Nat):Int):=by apply yaz;rw[y5d h];rfl
theorem y9i(h:n<65536):z4p (n:Int)=some ((2^bitsLen n:Nat):Int):=by apply yb5;have hb:=q67 (n:=n) (k:=16) h;rw[wrapU (by omega),y84 h];simp only[bS];rw[q12 (by omega)];congr 1;show IntKind.wrap .u64 (1*2^(min (((bitsLen n:Nat):Int).toNat) 64))=_;rw[tN,Nat.min_eq_left (by omega),Int.one_mul];have h2:2^bitsLen n<=2^16:=Nat.pow_le_pow_right (by decide) hb;have:=wrapU (n:=2^bitsLen n) (by omega);rw[Int.natCast_pow]at this;exact this
theorem q7h{a length modulus:Nat}(st:UInt64×Array (LU))(idx:Nat):(breakStep a length modulus st idx).2.size=st.2.size:=by simp only[breakStep,q0t]
theorem qfe(a length idx:Nat)(r:UInt64)(d:Array (LU))(hl:8<=length)(hl2:length<65536)(hb:a+length<=d.size)(hd:Lim d)(hi:idx<=a+length/4*2+1)(hi2:idx<d.size):Le (z0b (a:Int) (length:Int) ((2^bitsLen length:Nat):Int) ((idx+1:Nat):Int) (breakStep a length (2^bitsLen length) (r,d) idx).2.toList ((breakStep a length (2^bitsLen length) (r,d) idx).1.toNat:Int)) (z0b (a:Int) (length:Int) ((2^bitsLen length:Nat):Int) (idx:Int) d.toList (r.toNat:Int)):=by
 intro q hq;apply y6p;unfold Lim at hd;have hbl:=q67 (n:=length) (k:=16) hl2;have h2:2^bitsLen length<=2^16:=Nat.pow_le_pow_right (by decide) hbl;have h3:=Nat.two_pow_pos (bitsLen length);have h4:=qxg length;have h5:2^bitsLen length<=2*length:=by
  have:bitsLen length=Nat.log2 length+1:=by unfold bitsLen;rw[if_neg (by omega)]
  rw[this,Nat.pow_succ];have:=Nat.log2_self_le (n:=length) (by omega);omega
 generalize hM:2^bitsLen length=M at*;have e0:addI .i64 (addI .i64 (a:Int) (mulI .i64 (quoI .i64 (length:Int) 4) 2)) 1=((a+length/4*2+1:Nat):Int):=by rw[quo4 (by omega),show(2:Int)=((2:Nat):Int)from rfl,mulN (by omega),addN (by omega),q01 (by omega)]
 rw[e0,q0j (by omega),y3w];simp only[cT,bS];have e1:subI .u64 (M:Int) 1=((M-1:Nat):Int):=by show IntKind.wrap .u64 ((M:Int)-1)=_;rw[show(M:Int)-1=((M-1:Nat):Int)by omega,wrapU (by omega)]
 have e2:andI .u64 ((xorNext r).toNat:Int) ((M-1:Nat):Int)=(((xorNext r).toNat&&&(M-1):Nat):Int):=by show IntKind.wrap .u64 (((BitVec.ofInt 64 ((xorNext r).toNat:Int))&&&(BitVec.ofInt 64 ((M-1:Nat):Int))).toNat:Int)=_;have hr:(xorNext r).toNat<18446744073709551616:=(xorNext r).toNat_lt;have c1:BitVec.ofInt 64 ((M-1:Nat):Int)=BitVec.ofNat 64 (M-1):=BitVec.ofInt_natCast ..;rw[qtm,c1,BitVec.toNat_and,BitVec.toNat_ofNat,Nat.mod_eq_of_lt (show M-1<2^64 by omega)];have:(xorNext r).toBitVec.toNat&&&(M-1)<=M-1:=Nat.and_le_right;exact wrapU (by omega)
 rw[e1,e2];have hother:(xorNext r).toNat&&&(M-1)<=M-1:=Nat.and_le_right;generalize ho:(xorNext r).toNat&&&(M-1)=o at hother;rw[wrap64 (by omega) (by omega),q01 (by omega)];have key:∀p:Nat,p<d.size->breakStep a length M (r,d) idx=(xorNext r,swp d idx p)->z0b (a:Int) (length:Int) (M:Int) ((idx+1:Nat):Int) (List.set (List.set d.toList idx d[p]!) p d[idx]!) ((xorNext r).toNat:Int)=some q:=by intro p hp he;rw[he]at hq;rw[q1i];exact hq
 have hbs:breakStep a length M (r,d) idx=(xorNext r,swp d idx (a+if o≥length then o-length else o)):=by simp only[breakStep,ho]
 by_cases hge:length<=o
 .rw[q0j (by omega)];simp only[cT];rw[subN hge (by omega),addN (by omega)];have hp:a+(o-length)<d.size:=by omega
  rw[nthA hp,nthA hi2,tN,tN,nthNA hp,nthNA hi2,nthA hi2,nthNA hi2,nthS _ hp,nthNS _ hp];exact key _ hp (by rw[hbs,if_pos hge])
 .rw[q0e (by omega)];simp only[cF];rw[addN (by omega)];have hp:a+o<d.size:=by omega
  rw[nthA hp,nthA hi2,tN,tN,nthNA hp,nthNA hi2,nthA hi2,nthNA hi2,nthS _ hp,nthNS _ hp];exact key _ hp (by rw[hbs,if_neg (by omega)])
theorem y5e(a b:Nat)(d:Array (LU))(hab:a<=b)(hbd:b<=d.size)(hd:Lim d)(hs:b-a<65536):z1b (a:Int) (b:Int) d.toList=some (breakPatterns d a b).toList:=by
 apply yck;have hd':=hd;unfold Lim at hd';rw[subN hab (by omega)];by_cases h8:8<=b-a
 .rw[q0j (by omega)];simp only[cT];rw[y9i hs];simp only[bS];rw[wrapU (by omega),quo4 (by omega),show(2:Int)=((2:Nat):Int)from rfl,mulN (by omega),addN (by omega),show(1:Int)=((1:Nat):Int)from rfl,subN (by omega) (by omega)];have hu:((b-a:Nat):Int)=((UInt64.ofNat (b-a)).toNat:Int):=by rw[UInt64.toNat_ofNat_of_lt' (by show b-a<2^64;omega)]
  have hbp:breakPatterns d a b=(breakStep a (b-a) (2^bitsLen (b-a)) (breakStep a (b-a) (2^bitsLen (b-a)) (breakStep a (b-a) (2^bitsLen (b-a)) (UInt64.ofNat (b-a),d) (a+(b-a)/4*2-1)) (a+(b-a)/4*2-1+1)) (a+(b-a)/4*2-1+2)).2:=by simp only[breakPatterns,if_pos h8,Nat.one_shiftLeft]
  rw[hbp];have s1:=q7h (a:=a) (length:=b-a) (modulus:=2^bitsLen (b-a)) (UInt64.ofNat (b-a),d) (a+(b-a)/4*2-1);generalize hst1:breakStep a (b-a) (2^bitsLen (b-a)) (UInt64.ofNat (b-a),d) (a+(b-a)/4*2-1)=st1 at s1⊢;have s2:=q7h (a:=a) (length:=b-a) (modulus:=2^bitsLen (b-a)) st1 (a+(b-a)/4*2-1+1);generalize hst2:breakStep a (b-a) (2^bitsLen (b-a)) st1 (a+(b-a)/4*2-1+1)=st2 at s2⊢;have s3:=q7h (a:=a) (length:=b-a) (modulus:=2^bitsLen (b-a)) st2 (a+(b-a)/4*2-1+2);generalize hst3:breakStep a (b-a) (2^bitsLen (b-a)) st2 (a+(b-a)/4*2-1+2)=st3 at s3⊢;simp only at s1;have g1:=qfe a (b-a) (a+(b-a)/4*2-1) (UInt64.ofNat (b-a)) d h8 hs (by omega) hd (by omega) (by omega);rw[hst1]at g1;have g2:=qfe a (b-a) (a+(b-a)/4*2-1+1) st1.1 st1.2 h8 hs (by omega) (by unfold Lim;omega) (by omega) (by omega);rw[show(st1.1,st1.2)=st1 from rfl,hst2]at g2;have g3:=qfe a (b-a) (a+(b-a)/4*2-1+1+1) st2.1 st2.2 h8 hs (by omega) (by unfold Lim;omega) (by omega) (by omega);rw[show(st2.1,st2.2)=st2 from rfl,show a+(b-a)/4*2-1+1+1=a+(b-a)/4*2-1+2 from rfl,hst3]at g3;have hfin:z0b (a:Int) ((b-a:Nat):Int) ((2^bitsLen (b-a):Nat):Int) ((a+(b-a)/4*2-1+2+1:Nat):Int) st3.2.toList (st3.1.toNat:Int)=some st3.2.toList:=by
   apply y6p;have e0:addI .i64 (addI .i64 (a:Int) (mulI .i64 (quoI .i64 ((b-a:Nat):Int) 4) 2)) 1=((a+(b-a)/4*2+1:Nat):Int):=by rw[quo4 (by omega),show(2:Int)=((2:Nat):Int)from rfl,mulN (by omega),addN (by omega),q01 (by omega)]
   rw[e0,q0e (by omega)];rfl
  have:=g1 _ (g2 _ (g3 _ hfin));rw[<-this];congr 1
 .rw[q0e (by omega)];simp only[cF,breakPatterns,if_neg (show¬(b-a≥8)by omega)]
variable {a b limit p : Nat} {d : Array (LU)}
noncomputable def qoc(a1 a3 p l:Int)(xs:List (LU)):Option (List (LU)):=Option.bind (z02 a1 a3 p xs) fun x10=>bif(ltB (subI .i64 x10.1 a1) (subI .i64 a3 x10.1))then Option.bind (z01 a1 x10.1 l x10.2.2) fun x11=>z00 (addI .i64 x10.1 1) a3 l (leB (quoI .i64 (subI .i64 a3 a1) 8) (subI .i64 x10.1 a1)) x10.2.1 x11 else Option.bind (z01 (addI .i64 x10.1 1) a3 l x10.2.2) fun x12=>z00 a1 x10.1 l (leB (quoI .i64 (subI .i64 a3 a1) 8) (subI .i64 a3 x10.1)) x10.2.1 x12
noncomputable def qa3(a1 a3 p l:Int)(wb wp:Bool)(xs:List (LU)):Option (List (LU)):=bif(ltB 0 a1)then nth xs (subI .i64 a1 1) fun _=>nth xs p fun _=>nthN xs (Int.toNat (subI .i64 a1 1)) fun y6=>nthN xs (Int.toNat p) fun y7=>Option.bind (z06 y6 y7) fun x8=>bif(!(ltB x8 0))then Option.bind (z04 a1 a3 p xs) fun x9=>z00 x9.1 a3 l wb wp x9.2 else qoc a1 a3 p l xs else qoc a1 a3 p l xs
theorem quo8{x:Nat}(h:x<4611686018427387904):quoI .i64 (x:Int) 8=((x/8:Nat):Int):=by show IntKind.wrap .i64 ((x:Int).tdiv 8)=_;rw[Int.tdiv_eq_ediv_of_nonneg (by omega),wrap64 (by omega) (by omega)];omega
def qfd(lt:LU->LU->Bool)(d3:Array (LU))(a b pivot limit:Nat)(wb wp:Bool):Array (LU):=if a>0&&!lt d3[a-1]! d3[pivot]! then match partitionEqual lt d3 a b pivot with|(mid,d4)=>if _h:a<mid/\mid<=b then pdq lt d4 mid b limit wb wp else d4 else match Sort.partition lt d3 a b pivot with|(mid,alreadyPartitioned,d4)=>if _h:a<=mid/\mid<b then if mid-a<b-mid then pdq lt (pdq lt d4 a mid limit true true) (mid+1) b limit (decide (mid-a≥(b-a)/8)) alreadyPartitioned else pdq lt (pdq lt d4 (mid+1) b limit true true) a mid limit (decide (b-mid≥(b-a)/8)) alreadyPartitioned else d4
theorem pi_ok{cmp:LU->LU->Int}(hc:∀x y,z06 x y=some (cmp x y))(a b:Nat)(d:Array (LU))(hab:a<b)(hb:b<=d.size)(hd:Lim d):z09 (a:Int) (b:Int) d.toList=some ((partialInsertionSort (fun x y=>ltB (cmp x y) 0) d a b).2,(partialInsertionSort (fun x y=>ltB (cmp x y) 0) d a b).1.toList):=by apply ycv;have hd':d.size<1152921504606846976:=hd;rw[q01 (by omega)];exact pi_l1 hc a b hab 5 0 (a+1) d rfl (Nat.le_refl _) (by omega) hb hd
theorem yea(lt:LU->LU->Bool)(d:Array (LU))(a b limit:Nat)(wb wp:Bool)(h1:¬b-a<=12)(h2:limit≠0):pdq lt d a b limit wb wp=(let d1:=if !wb then breakPatterns d a b else d
  let l:=if !wb then limit-1 else limit
  let c:=choosePivot lt d1 a b
  let d2:=if c.2=.decreasing then reverseRange d1 a b else d1
  let p:=if c.2=.decreasing then(b-1)-(c.1-a)else c.1
  let hint:=if c.2=.decreasing then Hint.increasing else c.2
  let pi:=if wb&&wp&&hint=.increasing then partialInsertionSort lt d2 a b else(d2,false)
  if pi.2 then pi.1 else qfd lt pi.1 a b p l wb wp):=by rw[pdq,if_neg h1,if_neg h2];rfl
section
variable {cmp : LU -> LU -> Int} (hc : ∀ x y, z06 x y = some (cmp x y)) (hS : SWO (fun x y => ltB (cmp x y) 0))
include hc hS
def Ih(cmp:LU->LU->Int)(n:Nat):Prop:=∀(a b limit:Nat)(wb wp:Bool)(d:Array (LU)),b-a<n->b-a<65536->a<=b->b<=d.size->Lim d->limit<1000->Below (fun x y=>ltB (cmp x y) 0) a b d->z00 (a:Int) (b:Int) (limit:Int) wb wp d.toList=some (pdq (fun x y=>ltB (cmp x y) 0) d a b limit wb wp).toList
theorem qqy(ih:Ih cmp (b-a))(h16:b-a<65536)(hap:a<=p)(hpb:p<b)(hb:b<=d.size)(hd:Lim d)(hl:limit<1000)(hB:Below (fun x y=>ltB (cmp x y) 0) a b d):qoc (a:Int) (b:Int) (p:Int) (limit:Int) d.toList=some (match Sort.partition (fun x y=>ltB (cmp x y) 0) d a b p with|(mid,alreadyPartitioned,d4)=>if _h:a<=mid/\mid<b then if mid-a<b-mid then pdq (fun x y=>ltB (cmp x y) 0) (pdq (fun x y=>ltB (cmp x y) 0) d4 a mid limit true true) (mid+1) b limit (decide (mid-a≥(b-a)/8)) alreadyPartitioned else pdq (fun x y=>ltB (cmp x y) 0) (pdq (fun x y=>ltB (cmp x y) 0) d4 (mid+1) b limit true true) a mid limit (decide (b-mid≥(b-a)/8)) alreadyPartitioned else d4).toList:=by have hd':d.size<1152921504606846976:=hd;unfold qoc;rw[y93 hc a b p d hap hpb hb hd];simp only[bS];cases hx:Sort.partition (fun x y=>ltB (cmp x y) 0) d a b p with|mk mid q=>
  obtain⟨ap,d4⟩:=q;obtain⟨h1,h2,hs4,hB1,hB2,hL1,hL2⟩:=round_part hS (partition_holds _) hap hpb hb hB hx;simp only;rw[dif_pos ⟨h1,h2⟩,subN h1 (by omega),subN (by omega) (by omega),subN (by omega) (by omega),quo8 (by omega),q01 (by omega)];have call:∀(a' b':Nat)(dd:Array (LU)),b'-a'<b-a->a'<=b'->b'<=dd.size->Lim dd->Below (fun x y=>ltB (cmp x y) 0) a' b' dd->z01 (a':Int) (b':Int) (limit:Int) dd.toList=some (pdq (fun x y=>ltB (cmp x y) 0) dd a' b' limit true true).toList:=by intro a' b' dd g1 g2 g3 g4 g5;exact y83 _ _ _ _ _ (ih a' b' limit true true dd g1 (by omega) g2 g3 g4 hl g5)
  have lb:∀x y:Nat,leB ((x/8:Nat):Int) (y:Int)=decide (y≥x/8):=fun x y=>by
   by_cases h:x/8<=y;·rw[q0j (by omega)];simp[h]
   .rw[q0e (by omega)];simp[h]
  have hl4:Lim d4:=by unfold Lim;omega
  by_cases hlt:mid-a<b-mid
  .rw[q03 (by omega),if_pos hlt];simp only[cT];obtain⟨p1,p2⟩:=pdq_sorts (fun x y=>ltB (cmp x y) 0) hS d4 a mid limit true true h1 (by omega) hB1;rw[call a mid d4 (by omega) h1 (by omega) hl4 hB1];simp only[bS];have hsz:(pdq (fun x y=>ltB (cmp x y) 0) d4 a mid limit true true).size=d.size:=by rw[p1.1,hs4]
   rw[ih (mid+1) b limit _ ap _ (by omega) (by omega) (by omega) (by omega) (by unfold Lim;omega) hl (hL1 _ p1 p2).1,lb]
  .rw[q00 (by omega),if_neg hlt];simp only[cF];obtain⟨p1,p2⟩:=pdq_sorts (fun x y=>ltB (cmp x y) 0) hS d4 (mid+1) b limit true true (by omega) (by omega) hB2;rw[call (mid+1) b d4 (by omega) (by omega) (by omega) hl4 hB2];simp only[bS];have hsz:(pdq (fun x y=>ltB (cmp x y) 0) d4 (mid+1) b limit true true).size=d.size:=by rw[p1.1,hs4]
   rw[ih a mid limit _ ap _ (by omega) (by omega) (by omega) (by omega) (by unfold Lim;omega) hl (hL2 _ p1 p2).1,lb]
theorem y2u{wb wp:Bool}(ih:Ih cmp (b-a))(h16:b-a<65536)(hap:a<=p)(hpb:p<b)(hb:b<=d.size)(hd:Lim d)(hl:limit<1000)(hB:Below (fun x y=>ltB (cmp x y) 0) a b d):qa3 (a:Int) (b:Int) (p:Int) (limit:Int) wb wp d.toList=some (qfd (fun x y=>ltB (cmp x y) 0) d a b p limit wb wp).toList:=by
 have hd':d.size<1152921504606846976:=hd;unfold qa3 qfd;by_cases h0:0<a
 .have e1:subI .i64 (a:Int) 1=((a-1:Nat):Int):=subN (y:=1) h0 (by omega);rw[q03 (by omega),e1,nthA (by omega),nthA (by omega),tN,tN,nthNA (by omega),nthNA (by omega),hc];simp only[cT,bS];by_cases hlt:ltB (cmp d[a-1]! d[p]!) 0=true;·rw[hlt];simp only[nT,cF,Bool.and_false,fT,if_false];exact qqy hc hS ih h16 hap hpb hb hd hl hB
  .have hf:ltB (cmp d[a-1]! d[p]!) 0=false:=by simpa using hlt
   rw[hf];simp only[Bool.not_false,cT,Bool.and_true,decide_eq_true h0,if_true];rw[y1y hc a b p d hap hpb hb hd];simp only[bS];cases hx:partitionEqual (fun x y=>ltB (cmp x y) 0) d a b p with|mk mid d4=>obtain⟨h1,h2,hs4,hB4,_⟩:=round_eq hS (partitionEqual_holds _) h0 hap hpb hb hB hf hx;simp only;rw[dif_pos ⟨h1,h2⟩];exact ih mid b limit wb wp d4 (by omega) (by omega) h2 (by omega) (by unfold Lim;omega) hl hB4
 .rw[q00 (by omega)];simp only[cF,gt_iff_lt,decide_eq_false h0,Bool.false_and,fT,if_false];exact qqy hc hS ih h16 hap hpb hb hd hl hB
theorem y88:∀n,Ih cmp n
 |0=>fun a b limit wb wp d h=>by omega|n+1=>by
  intro a b limit wb wp d hn h16 hab hb hd hl hB;have hd':d.size<1152921504606846976:=hd;have ih:Ih cmp (b-a):=fun a' b' l' wb' wp' dd g=>y88 n a' b' l' wb' wp' dd (by omega);apply yex;have e12:=subN hab (show b<4611686018427387904 by omega);by_cases h12:b-a<=12;·rw[show leB (subI .i64 (b:Int) (a:Int)) 12=true by rw[e12,q0j (by omega)],yff hc a b d hab hb (by omega)];rw[pdq,if_pos h12];rfl
  .rw[show leB (subI .i64 (b:Int) (a:Int)) 12=false by rw[e12,q0e (by omega)]];simp only[cF];by_cases h0:limit=0;·subst h0;rw[Int.natCast_zero,q0m,y8t hc a b d hab hb (by omega)];rw[pdq,if_neg h12,if_pos rfl];rfl
   .rw[q0h (by omega),yea _ d a b limit wb wp h12 h0];simp only[cF];have hlt:a<b:=by omega
    have tail:∀(d2:Array (LU))(p l:Nat)(wb wp:Bool),PermIn a b d d2->a<=p->p<b->l<1000->qa3 (a:Int) (b:Int) (p:Int) (l:Int) wb wp d2.toList=some (qfd (fun x y=>ltB (cmp x y) 0) d2 a b p l wb wp).toList:=by intro d2 p l wb wp hp g1 g2 g3;exact y2u hc hS ih h16 g1 g2 (by rw[hp.1];exact hb) (by unfold Lim;rw[hp.1];exact hd') g3 (hB.perm hb hp)
    have both:∀(d1:Array (LU))(l:Nat)(wb wp:Bool),PermIn a b d d1->l<1000->(Option.bind (z0r (a:Int) (b:Int) d1.toList) fun x3=>bif(eqB x3.2.1 2)then Option.bind (z0n (a:Int) (b:Int) x3.2.2) fun x4=>bif wb&&wp then Option.bind (z09 (a:Int) (b:Int) x4) fun x5=>bif x5.1 then some x5.2 else qa3 (a:Int) (b:Int) (subI .i64 (subI .i64 (b:Int) 1) (subI .i64 x3.1 (a:Int))) (l:Int) wb wp x5.2 else qa3 (a:Int) (b:Int) (subI .i64 (subI .i64 (b:Int) 1) (subI .i64 x3.1 (a:Int))) (l:Int) wb wp x4 else bif wb&&wp&&eqB x3.2.1 1 then Option.bind (z09 (a:Int) (b:Int) x3.2.2) fun x5=>bif x5.1 then some x5.2 else qa3 (a:Int) (b:Int) x3.1 (l:Int) wb wp x5.2 else qa3 (a:Int) (b:Int) x3.1 (l:Int) wb wp x3.2.2)=some (let c:=choosePivot (fun x y=>ltB (cmp x y) 0) d1 a b
       let d2:=if c.2=.decreasing then reverseRange d1 a b else d1
       let p:=if c.2=.decreasing then(b-1)-(c.1-a)else c.1
       let hint:=if c.2=.decreasing then Hint.increasing else c.2
       let pi:=if wb&&wp&&hint=.increasing then partialInsertionSort (fun x y=>ltB (cmp x y) 0) d2 a b else(d2,false)
       if pi.2 then pi.1 else qfd (fun x y=>ltB (cmp x y) 0) pi.1 a b p l wb wp).toList:=by
     intro d1 l wb wp hp hl1;have hb1:b<=d1.size:=by rw[hp.1];exact hb
     have hd1:Lim d1:=by unfold Lim;rw[hp.1];exact hd'
     have hd1':d1.size<1152921504606846976:=hd1;rw[y9w hc d1 a b hlt hb1 hd1];obtain⟨c1,c2⟩:=choosePivot_holds (fun x y=>ltB (cmp x y) 0) d1 a b hlt;simp only[bS];generalize choosePivot (fun x y=>ltB (cmp x y) 0) d1 a b=c at c1 c2;have fin:∀(d2:Array (LU))(p:Nat),PermIn a b d d2->a<=p->p<b->(Option.bind (z09 (a:Int) (b:Int) d2.toList) fun x5=>bif x5.1 then some x5.2 else qa3 (a:Int) (b:Int) (p:Int) (l:Int) wb wp x5.2)=some (if(partialInsertionSort (fun x y=>ltB (cmp x y) 0) d2 a b).2 then(partialInsertionSort (fun x y=>ltB (cmp x y) 0) d2 a b).1 else qfd (fun x y=>ltB (cmp x y) 0) (partialInsertionSort (fun x y=>ltB (cmp x y) 0) d2 a b).1 a b p l wb wp).toList:=by
      intro d2 p hp2 g1 g2;have hb2:b<=d2.size:=by rw[hp2.1];exact hb
      rw[pi_ok hc a b d2 hlt hb2 (by unfold Lim;rw[hp2.1];exact hd')];simp only[bS];obtain⟨q1,_⟩:=partialInsertionSort_holds hS d2 a b hlt hb2 (hB.perm hb hp2);cases hok:(partialInsertionSort (fun x y=>ltB (cmp x y) 0) d2 a b).2 with|true=>rfl|false=>simp only[cF,fT,if_false];exact tail _ p l wb wp (permIn_trans _ _ _ a b hp2 q1) g1 g2 hl1
     cases hh:c.2 with
     |decreasing=>
      have e2:eqB (hintI Hint.decreasing) 2=true:=rfl;rw[e2];simp only[cT,if_true];rw[ybm a b d1 hab (by omega) hb1 hd1];simp only[bS];have e3:subI .i64 (subI .i64 (b:Int) 1) (subI .i64 (c.1:Int) (a:Int))=((b-1-(c.1-a):Nat):Int):=by rw[subN c1 (by omega),show(1:Int)=((1:Nat):Int)from rfl,subN (by omega) (by omega),subN (by omega) (by omega)]
      rw[e3];have hp2:=permIn_trans _ _ _ a b hp (reverseRange_holds d1 a b hab hb1);cases hw:(wb&&wp)with|true=>simp only[cT,tA',decide_true,if_true];exact fin _ _ hp2 (by omega) (by omega)|false=>simp only[cF,Bool.false_and,fT,if_false];exact tail _ _ l wb wp hp2 (by omega) (by omega) hl1
     |increasing=>have e2:eqB (hintI Hint.increasing) 2=false:=rfl;have e4:eqB (hintI Hint.increasing) 1=true:=rfl;rw[e2,e4];simp only[cF,Bool.and_true,reduceCtorEq,if_false,decide_true];cases hw:(wb&&wp)with|true=>simp only[cT,if_true];exact fin _ _ hp c1 c2|false=>simp only[cF,fT,if_false];exact tail _ _ l wb wp hp c1 c2 hl1
     |unknown=>have e2:eqB (hintI Hint.unknown) 2=false:=rfl;have e4:eqB (hintI Hint.unknown) 1=false:=rfl;rw[e2,e4];simp only[cF,Bool.and_false,reduceCtorEq,if_false,decide_false,fT];exact tail _ _ l wb wp hp c1 c2 hl1
    cases wb with
    |false=>simp only[Bool.not_false,cT,if_true,Bool.false_and];have hp1:=breakPatterns_holds d a b hab hb;have el:subI .i64 (limit:Int) 1=((limit-1:Nat):Int):=subN (y:=1) (by omega) (by omega);rw[y5e a b d hab hb hd h16,el];simp only[bS];cases wp with|true=>exact both _ (limit-1) false true hp1 (by omega)|false=>exact both _ (limit-1) false false hp1 (by omega)
    |true=>simp only[nT,cF,fT,if_false,tA'];cases wp with|true=>exact both d limit true true (permIn_refl d a b) hl|false=>exact both d limit true false (permIn_refl d a b) hl
theorem y8j(xs:List (LU))(hl:xs.length<65536):∃ys,z1e xs=some ys/\ys.Perm xs/\ys.Pairwise fun x y=>ltB (cmp y x) 0=false:=by
 have hd:Lim xs.toArray:=by unfold Lim;simp;omega
 have hb:=q67 (n:=xs.length) (k:=16) hl;obtain⟨p1,p2⟩:=pdq_sorts (fun x y=>ltB (cmp x y) 0) hS xs.toArray 0 xs.length (bitsLen xs.length) true true (Nat.zero_le _) (by simp) (.inl rfl);refine⟨(pdq (fun x y=>ltB (cmp x y) 0) xs.toArray 0 xs.length (bitsLen xs.length) true true).toList,?_,?_,?_⟩;·apply yfi;rw[wrapU (by omega),y84 hl];simp only[bS];have:=y88 hc hS (xs.length+1) 0 xs.length (bitsLen xs.length) true true xs.toArray (by omega) (by omega) (by omega) (by simp) hd (by omega) (.inl rfl);have h2:z01 0 (xs.length:Int) ((bitsLen xs.length:Nat):Int) xs=some _:=y83 _ _ _ _ _ this;rw[h2];rfl
 .have:=p1.2.2;have hsz:(pdq (fun x y=>ltB (cmp x y) 0) xs.toArray 0 xs.length (bitsLen xs.length) true true).size=xs.length:=by rw[p1.1];simp
  have e1:∀d:Array (LU),d.size=xs.length->d.extract 0 xs.length=d:=fun d hd=>by rw[<-hd];simp
  rw[e1 _ hsz,e1 _ (by simp)]at this;simpa using this
 .have hsz:(pdq (fun x y=>ltB (cmp x y) 0) xs.toArray 0 xs.length (bitsLen xs.length) true true).size=xs.length:=by rw[p1.1];simp
  rw[List.pairwise_iff_getElem];intro i j hi hj hij;have hi':i<xs.length:=by rw[<-hsz];simpa using hi
  have hj':j<xs.length:=by rw[<-hsz];simpa using hj
  have:=p2 i j (Nat.zero_le _) hij hj';rw[getElem!_pos _ _ (by omega),getElem!_pos _ _ (by omega)]at this;simpa using this
end
def okS(s:Int):Bool:=decide (0<=s)&&decide (s<1024)
theorem y06(s:Int):z2w s=some (okS s):=by
 apply y7f;have:z63 s 10=some (okS s):=by
  apply y7n;unfold okS;by_cases h0:0<=s
  .rw[q0j h0];simp only[cT];rw[q12 (by decide),shl1 (by decide) (by decide)];by_cases h1:s<1024;·rw[q03 (by simpa using h1)];simp[h0,h1]
   .rw[q00 (by simpa using h1)];simp[h0,h1]
  .rw[q0e (by omega)];simp[h0]
 rw[this];rfl
theorem y92{n:Nat}(h:n<1024):okS (n:Int)=true:=by simp[okS];omega
end Go.Proofs.YtglokalgdbegeaaGreat
namespace Go.Proofs.YtglokalgdbegeaaGreat
open Go Go.Ab Go.Sort
end Go.Proofs.YtglokalgdbegeaaGreat
namespace Go.Proofs.YtglokalgdbegeaaGreat
open Go Go.Ab Go.Sort
theorem qo4{l:List Nat}{i k:Nat}{suf:List Nat}(h:l.drop i=k::suf):(l.map Int.ofNat).drop i=(k:Int)::suf.map Int.ofNat:=by rw[<-List.map_drop,h];rfl
end Go.Proofs.YtglokalgdbegeaaGreat
namespace Go.Proofs.YtglokalgdbegeaaGreat
open Go Go.Ab Go.Sort
end Go.Proofs.YtglokalgdbegeaaGreat
namespace Go.Proofs.YtglokalgdbegeaaGreat
open Go Go.Ab Go.Sort
variable {c : Config} {s : Nat}
theorem y09{c:Config}{s:Nat}(hs:s<1024)(hd:Sub s (decl c))(hc:q7g c)(l:List Nat)(hl:l.length<=10):∀(suf:List Nat)(i:Nat),l.drop i=suf->(∀k∈suf,s.testBit k=true)->z3x (s:Int) (l.map Int.ofNat) ((l.length:Nat):Int) (i:Int) c.Members=some (match suf.find? (fun k=>!sat s (tr c k))with|some k=>((k:Int),true)|none=>(0,false))
 |[],i,h,hm=>by apply y7s;rw[q0c h];rfl|k::suf,i,h,hm=>by
  have hlt:=q09 h;obtain⟨m,h1,h2,_⟩:=qf4 (hd k (hm k (by simp)));have ih:=y09 hs hd hc l hl suf (i+1) (q02 h) (fun j hj=>hm j (by simp[hj]));have hcon:z6x c (k:Int) (s:Int)=some (sat s (tr c k)):=by apply yee;rw[q0s (by omega) (by simpa using h1),qek hs m.Trust (hc.2 m (List.mem_of_getElem? h1)),h2];rfl
  apply y7s;rw[q05 h];simp only[cT,q04 (qo4 h)];rw[show Config.mk c.Members=c from rfl,hcon,q01 (by omega),ih,List.find?_cons];cases sat s (tr c k)<;>rfl
theorem y3f(hs:s<1024)(hd:Sub s (decl c))(hc:q7g c):z6w c (s:Int)=some (match q6d c s with|some k=>((k:Int),true)|none=>(0,false)):=by apply yce;rw[qq1 hs];simp only[bS,List.length_map];exact y09 hs hd hc (nodes s) (qim s) (nodes s) 0 rfl fun k hk=>(qjc.1 hk).1
theorem y1u{k:Nat}(h:s.testBit k=true):ndiff s (2^k)=s-2^k:=by
 apply Nat.eq_of_testBit_eq;intro i;rw[q5y,q6g h,qjv];by_cases hi:k=i;·subst hi;simp
 .have:i≠k:=fun e=>hi e.symm;simp[hi,this]
theorem qrr{c:Config}(hc:q7g c):∀(n s:Nat)(acc:LI),s<n->s<1024->Sub s (decl c)->acc.length+s<1024->∃l,z34 (s:Int) acc c.Members=some ((((elim c n s).2:Nat):Int),l)|0,s,acc,h,_,_,_=>by omega|n+1,s,acc,h,hs,hd,ha=>by simp only[elim];cases hu:q6d c s with|none=>refine⟨acc,?_⟩;apply y6y;rw[show Config.mk c.Members=c from rfl,y3f hs hd hc,hu];rfl|some k=>obtain⟨h1,h2,_⟩:=q57 hu;obtain⟨q1,q2⟩:=qj8 h1;have hp:=qkj h2;obtain⟨l,ih⟩:=qrr hc n (s-2^k) (acc++[(k:Int)]) (by omega) (by omega) (q2.trans hd) (by simp;omega);refine⟨l,?_⟩;apply y6y;rw[show Config.mk c.Members=c from rfl,y3f hs hd hc,hu];simp only[bS,nT,cF];rw[q07 (by simp[q0a];omega),q12 (by omega),shl1 (by omega) (by omega),tN,ql5 (by omega) (by omega),y1u h1];exact ih
theorem qgs(hs:s<1024)(hc:q7g c):z5h c (s:Int)=some ((q7a c s:Nat):Int):=by
 have hd:=qcm c;have hlt:s&&&decl c<1024:=y9c hs;obtain⟨l,h⟩:=qrr hc 1024 (s&&&decl c) [] hlt hlt (Sub.and_right _ _) (by simp;omega);have he:z67 c (s:Int)=some ((((elim c 1024 (s&&&decl c)).2:Nat):Int),l):=by apply yd7;rw[y06,y92 hs];simp only[bS,nT,cF];rw[qgo c hc.1];simp only[bS];rw[qej (by omega) (by omega)];exact h
 apply yc5;rw[he];rfl
end Go.Proofs.YtglokalgdbegeaaGreat
namespace Go.Proofs.YtglokalgdbegeaaGreat
open Go Go.Ab Go.Sort
end Go.Proofs.YtglokalgdbegeaaGreat
namespace Go.Proofs.YtglokalgdbegeaaGreat
open Go Go.Ab Go.Sort
end Go.Proofs.YtglokalgdbegeaaGreat
namespace Go.Proofs.YtglokalgdbegeaaGreat
open Go Go.Ab
variable {l : LI} {t x : Trust}
mutual
def wf : Trust -> Bool
 | ⟨thr, _, inner⟩ => decide (thr < 9223372036854775808) && wfs inner
def wfs : LT -> Bool
 | [] => true
 | x :: r => wf x && wfs r
end
theorem wf_eq(t:Trust):wf t=(decide (t.Threshold<9223372036854775808)&&wfs t.Inner):=by cases t;simp only[wf]
theorem y9u{l:LT}(h:wfs l=true):∀x∈l,wf x=true:=by induction l with|nil=>intro x hx;cases hx|cons y r ih=>
  simp only[wfs,aT]at h;intro x hx;rcases List.mem_cons.1 hx with rfl|hx;·exact h.1
  .exact ih h.2 x hx
def Fits(t:Trust):Prop:=size t<1073741824
theorem Fits.small(h:Fits t):Small t:=by unfold Fits at h;unfold Small;omega
theorem Fits.mem(h:Fits t)(hx:x∈t.Inner):Fits x:=by unfold Fits at*;rw[q1q]at h;have:=qei hx;omega
theorem y8n:∀t:Trust,Fits t->good t=true->wf t=true:=by
 apply Trust.ind;intro t ih ht hg;have hsz:size t<1073741824:=ht;rw[q1q]at hsz;rw[qkc]at hg;simp only[aT,dT]at hg;obtain⟨g1,g2,g3,g4,g5⟩:=hg;rw[wf_eq];simp only[aT,dT];refine⟨by omega,?_⟩;have hin:∀l:LT,(∀x∈l,good x=true->wf x=true)->goods l=true->wfs l=true:=by intro l;induction l with|nil=>intro _ _;rfl|cons y r ihr=>intro h hgl;simp only[goods,aT]at hgl;simp only[wfs,h y (by simp) hgl.1,ihr (fun x hx=>h x (by simp[hx])) hgl.2,Bool.and_self]
 exact hin t.Inner (fun x hx=>ih x hx (ht.mem hx)) g5
theorem q4s(h:valid t=true):Fits t/\wf t=true:=by
 simp only[valid,aT,dT]at h;have hf:Fits t:=by unfold Fits;omega
 exact⟨hf,y8n t hf h.2.2⟩
theorem qq5{y y':Trust}:∀(l:LT)(i:Nat),l[i]?=some y->sizes (l.set i y')+size y=sizes l+size y'|[],i,h=>by simp at h|x::r,0,h=>by simp at h;subst h;simp only[List.set_cons_zero,sizes];omega|x::r,i+1,h=>by have:=qq5 (y':=y') r i (by simpa using h);simp only[List.set_cons_succ,sizes];omega
theorem qz7{y':Trust}(hy:wf y'=true):∀(l:LT)(i:Nat),wfs l=true->wfs (l.set i y')=true|[],i,_=>rfl|x::r,0,h=>by simp only[wfs,aT]at h;simp only[List.set_cons_zero,wfs,hy,h.2,Bool.and_self]|x::r,i+1,h=>by simp only[wfs,aT]at h;simp only[List.set_cons_succ,wfs,h.1,qz7 hy r i h.2,Bool.and_self]
theorem qfi(a b:LT):wfs (a++b)=(wfs a&&wfs b):=by induction a with|nil=>simp[wfs]|cons x r ih=>simp[wfs,ih,Bool.and_assoc]
theorem wf_mk{thr:Int}{a:LI}{b:LT}(h:thr<9223372036854775808)(hb:wfs b=true):wf ⟨thr,a,b⟩=true:=by rw[wf_eq];simp[h,hb]
theorem y0t{l:LI}(a8:Int)(a10:LI)(a12:LT)(a14:Int)(a16:LI)(a18:LT)(i:Int):∀(n:Nat)(t:Trust),n<1000000->wf t=true->∃y,z4w (n:Int) l i a8 a10 a12 a14 a16 a18 t.Threshold t.Nodes t.Inner=some (y,l,i)/\size y<=size t+n/\wf y=true
 |0,t,_,hw=>⟨t,by apply y6f;rw[q00 (by omega)];simp only[cF,Trust.eta],by omega,hw⟩|n+1,t,hn,hw=>by
  obtain⟨y,h1,h2,h3⟩:=y0t a8 a10 a12 a14 a16 a18 i n ⟨1,[],[t]⟩ (by omega) (wf_mk (by omega) (by simp[wfs,hw]));refine⟨y,?_,?_,h3⟩;·apply y6f;rw[q03 (by omega),q22 (by omega) (by omega),show(((n+1:Nat):Int)-1)=((n:Nat):Int)by omega];simp only[cT,Trust.eta];exact h1
  .simp[size,sizes]at h2;omega
theorem ya6(a8:Int)(a10:LI)(a12:LT)(a14:Int)(a16:LI)(a18:LT)(i:Int)(n:Nat)(t:Trust)(hn:n<1000000)(hw:wf t=true):∃y,z4a (n:Int) l i a8 a10 a12 a14 a16 a18 t.Threshold t.Nodes t.Inner=some (y,l,i)/\size y<=size t+n/\wf y=true:=by cases n with|zero=>exact⟨t,by apply y77;rw[q00 (by omega)];simp only[cF,Trust.eta],by omega,hw⟩|succ n=>
  obtain⟨y,h1,h2,h3⟩:=y0t (l:=l) a8 a10 a12 a14 a16 a18 i n ⟨1,[],[t]⟩ (by omega) (wf_mk (by omega) (by simp[wfs,hw]));refine⟨y,?_,?_,h3⟩;·apply y77;rw[q03 (by omega),q22 (by omega) (by omega),show(((n+1:Nat):Int)-1)=((n:Nat):Int)by omega];simp only[cT,Trust.eta];exact h1
  .simp[size,sizes]at h2;omega
theorem y3h{l:LI}(i:Int)(thr:Int)(nodes:LI)(inner:LT)(a16:Int)(a18:LI)(a20:LT)(ht:thr<9223372036854775808)(hi:wfs inner=true)(hl:inner.length<1000000):∀(n:Nat)(acc:LT),n+acc.length<1000000->wfs acc=true->∃y,z3i acc (n:Int) l i thr nodes inner a16 a18 a20=some (y,l,i)/\size y<=nodes.length+inner.length+sizes inner+acc.length+sizes acc+2*n/\wf y=true
 |0,acc,hn,ha=>⟨⟨thr,nodes,acc++inner⟩,by apply y62;rw[q00 (by omega)];simp only[cF];rw[q07 (by simp[q0a];omega)],by simp[size,q6x];omega,wf_mk ht (by rw[qfi,ha,hi];rfl)⟩|n+1,acc,hn,ha=>by
  obtain⟨y,h1,h2,h3⟩:=y3h i thr nodes inner a16 a18 a20 ht hi hl n (acc++[⟨1,[remI .i64 ((n+1:Nat):Int) 10],[]⟩]) (by simp;omega) (by rw[qfi,ha];rfl);refine⟨y,?_,?_,h3⟩;·apply y62;rw[q03 (by omega),q22 (by omega) (by omega),show(((n+1:Nat):Int)-1)=((n:Nat):Int)by omega];simp only[cT];rw[q07 (by simp[q0a];omega)];exact h1
  .simp[q6x,size,sizes]at h2;omega
theorem qvp(hs:size x<1000000)(hw:wf x=true){i:Int}(h:q0w l i):∃y j,(Option.bind (z1l 6 l i) fun x10=>bif(eqB x10.1 0)then Option.bind (z1n ([0,(-1),(addI .i64 ((List.length x.Nodes:Nat):Int) ((List.length x.Inner:Nat):Int)),(addI .i64 (addI .i64 ((List.length x.Nodes:Nat):Int) ((List.length x.Inner:Nat):Int)) 1)]:List (Int)) x10.2.1 x10.2.2) fun x11=>some ((Trust.mk x11.1 x.Nodes x.Inner),x11.2.1,x11.2.2)else bif(eqB x10.1 1)then capOk (List.length ([]:List (Int))+List.length x.Nodes)<|Option.bind (z1n ([(-1),0,9,10]:List (Int)) x10.2.1 x10.2.2) fun x12=>capOk (List.length (([]:List (Int))++x.Nodes)+List.length ([x12.1]:List (Int)))<|some ((Trust.mk x.Threshold ((([]:List (Int))++x.Nodes)++([x12.1]:List (Int))) x.Inner),x12.2.1,x12.2.2)else bif(eqB x10.1 2)then some ((Trust.mk x.Threshold ([]:List (Int)) x.Inner),x10.2.1,x10.2.2)else bif(eqB x10.1 3)then capOk (List.length ([]:List (Trust))+List.length x.Inner)<|capOk (List.length (([]:List (Trust))++x.Inner)+List.length ([(Trust.mk 0 ([]:List (Int)) ([]:List (Trust)))]:List (Trust)))<|some ((Trust.mk x.Threshold x.Nodes ((([]:List (Trust))++x.Inner)++([(Trust.mk 0 ([]:List (Int)) ([]:List (Trust)))]:List (Trust)))),x10.2.1,x10.2.2)else bif(eqB x10.1 4)then Option.bind (z2e 1 4 x10.2.1 x10.2.2) fun x13=>z4a x13.1 x13.2.1 x13.2.2 x.Threshold x.Nodes x.Inner 0 ([]:List (Int)) ([]:List (Trust)) x.Threshold x.Nodes x.Inner else Option.bind (z1n ([20,60,101]:List (Int)) x10.2.1 x10.2.2) fun x14=>z3i ([]:List (Trust)) x14.1 x14.2.1 x14.2.2 x.Threshold x.Nodes x.Inner 0 ([]:List (Int)) ([]:List (Trust)))=some (y,l,j)/\size y<=size x+1000/\wf y=true/\q0w l j:=by
 have hsz:=hs;rw[q1q]at hsz;have hw':=hw;rw[wf_eq,aT,dT]at hw';obtain⟨v,j,a1,a2,a3,a4⟩:=N_ok (n:=6) (by decide) (by decide) h;rw[a1];simp only[bS];by_cases h0:v=0;·subst h0;obtain⟨p,j2,b1,b2,b3⟩:=q6i (ps:=[0,(-1),(addI .i64 ((List.length x.Nodes:Nat):Int) ((List.length x.Inner:Nat):Int)),(addI .i64 (addI .i64 ((List.length x.Nodes:Nat):Int) ((List.length x.Inner:Nat):Int)) 1)]) (by simp) (by simp) a4;rw[b1];refine⟨⟨p,x.Nodes,x.Inner⟩,j2,rfl,by rw[q1q x];simp only[size];omega,wf_mk ?_ hw'.2,b3⟩;rw[q20 (by omega) (by omega),q20 (by omega) (by omega)]at b2;simp at b2;omega
 rw[q0h h0];simp only[cF];by_cases h1:v=1;·subst h1;obtain⟨p,j2,b1,b2,b3⟩:=q6i (ps:=[(-1),0,9,10]) (by simp) (by simp) a4;rw[b1,q07 (by simp[q0a];omega)];simp only[bS,q0m,cT];rw[q07 (by simp[q0a];omega)];exact⟨_,j2,rfl,by rw[q1q x];simp[size];omega,wf_mk hw'.1 hw'.2,b3⟩
 rw[q0h h1];simp only[cF];by_cases h2:v=2;·subst h2;exact⟨_,j,rfl,by rw[q1q x];simp[size];omega,wf_mk hw'.1 hw'.2,a4⟩
 rw[q0h h2];simp only[cF];by_cases h3:v=3;·subst h3;simp only[q0m,cT];rw[q07 (by simp[q0a];omega),q07 (by simp[q0a];omega)];exact⟨_,j,rfl,by rw[q1q x];simp[size,q6x,sizes];omega,wf_mk hw'.1 (by simp[qfi,hw'.2,wfs,wf]),a4⟩
 rw[q0h h3];simp only[cF];by_cases h4:v=4;·subst h4;obtain⟨p,j2,b1,b2,b3,b4⟩:=qbo (a:=1) (b:=4) (by decide) (by decide) (by decide) a4;obtain⟨n,rfl⟩:=Int.eq_ofNat_of_zero_le (show 0<=p by omega);obtain⟨y,c1,c2,c3⟩:=ya6 (l:=l) x.Threshold x.Nodes x.Inner 0 [] [] j2 n x (by omega) hw;rw[b1];simp only[bS,q0m,cT];exact⟨y,j2,c1,by omega,c3,b4⟩
 rw[q0h h4];simp only[cF];obtain⟨p,j2,b1,b2,b3⟩:=q6i (ps:=[20,60,101]) (by simp) (by simp) a4;have hp:0<=p/\p<=101:=by simp at b2;omega
 obtain⟨n,rfl⟩:=Int.eq_ofNat_of_zero_le hp.1;obtain⟨y,c1,c2,c3⟩:=y3h (l:=l) j2 x.Threshold x.Nodes x.Inner 0 [] [] hw'.1 hw'.2 (by omega) n [] (by simp;omega) rfl;rw[b1];exact⟨y,j2,c1,by rw[q1q x];simp[sizes]at c2;omega,c3,b3⟩
theorem y9a:∀x:Trust,size x<1000000->wf x=true->∀i,q0w l i->∃y j,z4b x l i=some (y,l,j)/\size y<=size x+1000/\wf y=true/\q0w l j:=by
 apply Trust.ind;intro x ih hs hw i h;have hsz:=hs;rw[q1q]at hsz;have hw':=hw;rw[wf_eq,aT,dT]at hw';by_cases hne:0<x.Inner.length
 .obtain⟨v,j,a1,a2,a3,a4⟩:=N_ok (n:=2) (by decide) (by decide) h;by_cases h1:v=1
  .subst h1;obtain⟨p,j2,b1,b2,b3,b4⟩:=N_ok (n:=((x.Inner.length:Nat):Int)) (by omega) (by omega) a4;have hp:p.toNat<x.Inner.length:=by omega
   have hg:x.Inner[p.toNat]?=some x.Inner[p.toNat]:=List.getElem?_eq_getElem hp;have hm:=List.getElem_mem hp;generalize x.Inner[p.toNat]=y2 at hg hm;obtain⟨y,j3,c1,c2,c3,c4⟩:=ih y2 hm (by have:=qei hm;omega) (y9u hw'.2 y2 hm) j2 b4;refine⟨⟨x.Threshold,x.Nodes,x.Inner.set p.toNat y⟩,j3,?_,?_,wf_mk hw'.1 (qz7 c3 _ _ hw'.2),c4⟩;·apply qyq;rw[q03 (by omega),a1];simp only[bS,q0m,cT,List.nil_append];rw[q07 (by simp[q0a];omega),b1];simp only[bS,q0s b2 hg,q44 hg];rw[c1];simp only[bS,Trust.eta]
   .have:=qq5 (y':=y) x.Inner p.toNat hg;rw[q1q x];simp only[size,List.length_set];omega
  .obtain⟨y,j2,b1,b2,b3,b4⟩:=qvp hs hw a4;refine⟨y,j2,?_,b2,b3,b4⟩;apply qyq;rw[q03 (by omega),a1];simp only[bS,q0h h1,cT,cF];exact b1
 .obtain⟨y,j2,b1,b2,b3,b4⟩:=qvp hs hw h;refine⟨y,j2,?_,b2,b3,b4⟩;apply qyq;rw[q00 (by omega)];simp only[cF];exact b1
mutual
def raw : Trust -> Bool
 | ⟨thr, nodes, inner⟩ => decide (thr < 9223372036854775808) && (decide (nodes.length < 1152921504606846976) && (decide (inner.length < 1152921504606846976) && raws inner))
def raws : LT -> Bool
 | [] => true
 | x :: r => raw x && raws r
end
theorem y8a(t:Trust):raw t=(decide (t.Threshold<9223372036854775808)&&(decide (t.Nodes.length<1152921504606846976)&&(decide (t.Inner.length<1152921504606846976)&&raws t.Inner))):=by cases t;simp only[raw]
theorem y4k{l:LT}(h:raws l=true):∀x∈l,raw x=true:=by induction l with|nil=>intro x hx;cases hx|cons y r ih=>
  simp only[raws,aT]at h;intro x hx;rcases List.mem_cons.1 hx with rfl|hx;·exact h.1
  .exact ih h.2 x hx
theorem qxc:∀t:Trust,raw t=true->∀n:Nat,n<=400->∃m:Nat,z7u t (n:Int)=some ((m:Nat):Int)/\n+1<=m/\m<1152921504606847378/\(m<=400->n+size t+1<=m):=by
 apply Trust.ind;intro t ih h n hn;rw[y8a]at h;simp only[aT,dT]at h;obtain⟨_,hN,hI,hR⟩:=h;have l1:∀(suf:LT)(i m0:Nat),t.Inner.drop i=suf->m0<1152921504606847378->∃m:Nat,z59 ((m0:Nat):Int) (i:Int) t.Threshold t.Nodes t.Inner=some ((m:Nat):Int)/\m0<=m/\m<1152921504606847378/\(m<=400->m0+suf.length+sizes suf<=m):=by intro suf;induction suf with|nil=>intro i m0 hd hm;refine⟨m0,?_,Nat.le_refl _,hm,fun _=>by simp[sizes]⟩;apply y2w;simp only[q0c hd,cF]|cons y suf ihs=>
   intro i m0 hd hm;have hlt:=q09 hd;have hy:y∈t.Inner:=List.mem_of_mem_drop (by rw[hd];exact List.mem_cons_self);by_cases h4:m0<=400
   .obtain⟨m1,e1,e2,e3,e4⟩:=ih y hy (y4k hR y hy) m0 h4;obtain⟨m,f1,f2,f3,f4⟩:=ihs (i+1) m1 (q02 hd) e3;refine⟨m,?_,by omega,f3,fun hm=>?_⟩;·apply y2w;simp only[q05 hd,cT,q0j (show((m0:Nat):Int)<=400 by omega),q04 hd,e1,bS,q01 (show i<4611686018427387904 by omega)];exact f1
    .have:=f4 hm;have:=e4 (by omega);simp only[List.length_cons,sizes];omega
   .refine⟨m0,?_,Nat.le_refl _,hm,fun hh=>by omega⟩;apply y2w;simp only[q05 hd,cT,q0e (show(400:Int)<((m0:Nat):Int)by omega),cF]
 obtain⟨m,f1,f2,f3,f4⟩:=l1 t.Inner 0 (n+(1+t.Nodes.length)) rfl (by omega);refine⟨m,?_,by omega,f3,fun hm=>by have:=f4 hm;rw[q1q];omega⟩;apply ydp;rw[q20 (a:=1) (by omega) (by omega),q20 (by omega) (by omega),show(n:Int)+(1+((t.Nodes.length:Nat):Int))=((n+(1+t.Nodes.length):Nat):Int)by omega];exact f1
theorem ql0(h:raw t=true):∃b,z61 t=some b/\(b=true->size t<=400):=by
 obtain⟨m,e1,e2,e3,e4⟩:=qxc t h 0 (by decide);refine⟨leB ((m:Nat):Int) 400,?_,fun hb=>?_⟩;·apply yby;rw[show(0:Int)=((0:Nat):Int)from rfl,e1];rfl
 .have:m<=400:=by simp[leB]at hb;omega
  have:=e4 this;omega
theorem qyp(h:valid t=true):size t<=200:=by simp only[valid,aT,dT]at h;exact h.2.1
end Go.Proofs.YtglokalgdbegeaaGreat
namespace Go.Proofs.YtglokalgdbegeaaGreat
open Go Go.Ab
end Go.Proofs.YtglokalgdbegeaaGreat
namespace Go.Proofs.YtglokalgdbegeaaGreat
open Go Go.Ab
end Go.Proofs.YtglokalgdbegeaaGreat
namespace Go.Proofs.YtglokalgdbegeaaGreat
open Go Go.Ab Go.Sort
section
variable {c : Config} {R : Nat -> Nat}
end
section
variable {c : Config} {R : Nat -> Nat}
end
end Go.Proofs.YtglokalgdbegeaaGreat
namespace Go.Proofs.YtglokalgdbegeaaGreat
open Go Go.Ab Go.Sort
end Go.Proofs.YtglokalgdbegeaaGreat
namespace Go.Proofs.YtglokalgdbegeaaGreat
open Go Go.Ab
theorem ye9:∀f m,env.lib f=some m->LibOk env f m:=by
 intro f m h;have h':look1 none qzm f=some m:=h;simp only[qzm,look1]at h';by_cases h0:72=f;·rw[if_pos h0]at h';cases h';rw[<-h0];exact qty
 rw[if_neg h0]at h';by_cases h1:145=f;·rw[if_pos h1]at h';cases h';rw[<-h1];exact qt4
 rw[if_neg h1]at h';by_cases h2:167=f;·rw[if_pos h2]at h';cases h';rw[<-h2];exact qqj
 rw[if_neg h2]at h';cases h'
theorem yaf:∀f g k,env.pre f=some (g,k)->PreOk env f g k:=fun f g k h=>by cases h
theorem y54:qo8 env:=⟨(fun f nx xs h=>by cases h),ye9,yaf⟩
theorem y9r:qn0 env (q7y an):=by
 intro h hok;have hlt:h<lastF+1:=by have:okF h=true:=hok;simp only[okF,aT,dT]at this;omega
 have h1:=List.all_eq_true.1 qo7 h (List.mem_range.2 hlt);have hok':okF h=true:=hok;rw[hok',nT,Bool.false_or]at h1;unfold q5f at h1;cases hf:Tryz.prog.funcs[h]? with|none=>simp[hf]at h1|some fn=>cases hb:fn.body with|none=>simp[hf,hb]at h1|some c=>simp only[hf,hb,aT,dT]at h1;exact⟨fn,c,hf,hb,h1.1,fun _ hl=>by have h2:=h1.2;rw[hl]at h2;exact h2⟩
theorem ydr(n:Nat):q81 env n:=sound (E:=env) mixed y9r y54 n
end Go.Proofs.YtglokalgdbegeaaGreat
namespace Go.Proofs.YtglokalgdbegeaaGreat
open Go Go.Ab Go.Sort
variable {a b x : Claim} {l : LC}
instance:DecidableEq Claim:=fun a b=>decidable_of_iff (a.Topic=b.Topic/\a.Value=b.Value) (by cases a;cases b;simp)
def vcl(x:Claim):Bool:=decide (0<=x.Topic)&&(decide (x.Topic<8)&&(decide (0<=x.Value)&&decide (x.Value<=15)))
theorem y98:vcl x=true↔0<=x.Topic/\x.Topic<8/\0<=x.Value/\x.Value<=15:=by simp[vcl]
def ltc(a b:Claim):Prop:=a.Topic<b.Topic\/a.Topic=b.Topic/\a.Value<b.Value
instance(a b:Claim):Decidable (ltc a b):=inferInstanceAs(Decidable (_\/_/\_))
theorem qpd{c:Claim}(h:ltc a b)(h':ltc b c):ltc a c:=by unfold ltc at*;omega
theorem q82(a:Claim):¬ltc a a:=by unfold ltc;omega
def cmpc(a b:Claim):Int:=if ltc a b then-1 else if a=b then 0 else 1
theorem eqc:((eqB a.Topic b.Topic)&&((eqB a.Value b.Value)&&true))=decide (a=b):=by cases a;cases b;simp[eqB]
theorem qqa(x:Claim):z7t x=some (vcl x):=by apply ybh;unfold vcl leB ltB;by_cases h1:0<=x.Topic<;>by_cases h2:x.Topic<8<;>by_cases h3:0<=x.Value<;>simp[h1,h2,h3]
theorem qm1(x:Claim):z81 x=some (vcl x):=by apply yfq;unfold vcl leB ltB;by_cases h1:0<=x.Topic<;>by_cases h2:x.Topic<8<;>by_cases h3:0<=x.Value<;>simp[h1,h2,h3]
theorem qdw(x y:Int):z3n x y=some (if x<y then-1 else if y<x then 1 else 0):=by
 have hn:∀z,z6d z=some false:=fun z=>ycn _ _ (by simp[neB]);apply ycy;rw[hn,hn];by_cases h:x<y;·simp[ltB,h]
 .by_cases h':y<x<;>simp[ltB,h,h']
theorem qvv(x y:Int):z7l [x,y]=some (if x≠0 then x else y):=by
 apply ycp;apply y0p;rw[q03 (by simp),q0s (y:=x) (by omega) rfl];simp only[cT];by_cases h:x=0
 .subst h;simp only[q0u,cF];rw[show addI .i64 0 1=1 from rfl];apply y0p;rw[q03 (by simp),q0s (y:=y) (by omega) rfl];simp only[cT];by_cases h':y=0;·subst h';simp only[q0u,cF];rw[show addI .i64 1 1=2 from rfl];apply y0p;rw[q00 (by simp)];simp
  .rw[q2o h'];simp
 .rw[q2o h];simp[h]
theorem y8u(a b:Claim):z78 a b=some (cmpc a b):=by apply yb3;rw[qdw,qdw];simp only[bS,qvv];cases a with|mk a1 a2=>cases b with|mk b1 b2=>simp only[cmpc,ltc,Claim.mk.injEq];congr 1;split<;>split<;>(try split)<;>(try split)<;>(try split)<;>omega
theorem y4v(a b:Claim):z7h a b=some (cmpc a b):=by
 apply yeb;rw[eqc];by_cases h:a=b;·subst h;simp[cmpc,q82]
 .have:¬(a.Topic=b.Topic/\a.Value=b.Value):=fun e=>h (by cases a;cases b;simp_all);simp only[h,decide_false,cF,cmpc,ltc,ltB,eqB];by_cases h1:a.Topic<b.Topic;·simp[h1]
  .by_cases h2:a.Topic=b.Topic;·by_cases h3:a.Value<b.Value<;>simp[h2,h3]
   .simp[h1,h2]
def plainC:LC->Bool|[]=>true|[x]=>vcl x|x::y::r=>vcl x&&(decide (ltc x y)&&plainC (y::r))
theorem qjx{y:Claim}{r:LC}:plainC (x::y::r)=(vcl x&&(decide (ltc x y)&&plainC (y::r))):=rfl
theorem q4q:∀{l:LC},plainC l=true↔(∀x∈l,vcl x=true)/\l.Pairwise ltc
 |[]=>by simp[plainC]|[x]=>by simp[plainC]|x::y::r=>by
  rw[qjx,aT,aT,dT,q4q (l:=y::r),List.pairwise_cons (a:=x)];constructor
  .rintro⟨h1,h2,h3,h4⟩;refine⟨fun z hz=>by rcases List.mem_cons.1 hz with rfl|hz;exact h1;exact h3 z hz,fun z hz=>?_,h4⟩;rcases List.mem_cons.1 hz with rfl|hz;·exact h2
   .exact qpd h2 ((List.pairwise_cons.1 h4).1 z hz)
  .rintro⟨h1,h2,h3⟩;exact⟨h1 x (by simp),h2 y (by simp),fun z hz=>h1 z (by simp[hz]),h3⟩
theorem y89:leB 0 (cmpc a b)=!decide (ltc a b):=by
 unfold cmpc leB;by_cases h:ltc a b;·simp[h]
 .by_cases h':a=b;·subst h';simp[q82]
  .simp[h,h']
def plP:Option Claim->LC->Bool|_,[]=>true|none,y::r=>vcl y&&plP (some y) r|some z,y::r=>vcl y&&(decide (ltc z y)&&plP (some y) r)
theorem qvx:∀{z:Claim}{l:LC},vcl z=true->plP (some z) l=plainC (z::l)
 |z,[],h=>by simp[plP,plainC,h]|z,y::r,h=>by
  rw[qjx,h,tA',plP];by_cases hy:vcl y=true;·rw[qvx hy,hy,tA']
  .have:plainC (y::r)=false:=by cases hp:plainC (y::r)with|false=>rfl|true=>exact absurd ((q4q.1 hp).1 y (by simp)) hy
   rw[this];simp[hy]
theorem qwe(l:LC):plP none l=plainC l:=by cases l with|nil=>rfl|cons y r=>
  rw[plP];by_cases hy:vcl y=true;·rw[hy,tA',qvx hy]
  .have:plainC (y::r)=false:=by cases hp:plainC (y::r)with|false=>rfl|true=>exact absurd ((q4q.1 hp).1 y (by simp)) hy
   rw[this];simp[hy]
theorem qrp(l:LC)(hl:l.length<1152921504606846976):∀(suf:LC)(i:Nat)(z:Claim),l[i]?=some z->l.drop (i+1)=suf->z31 l l ((l.length:Nat):Int) ((i+1:Nat):Int)=some (plP (some z) suf)|[],i,z,hz,h=>by apply qvt;rw[q0c h];rfl|y::suf,i,z,hz,h=>by have hlt:=q09 h;apply qvt;rw[q05 h,cT,q04 h,qqa,bS,q03 (by omega),cT,q22 (by omega) (by omega),q0s (y:=z) (by omega) (by rw[show(((i+1:Nat):Int)-1).toNat=i by omega];exact hz),y8u,bS,y89,q01 (by omega),qrp l hl suf (i+1) y (by have:=congrArg (·[0]?) h;simpa using this) (q02 h)];rw[plP];cases vcl y<;>by_cases hc:ltc z y<;>simp[hc]
theorem qrz(l:LC)(hl:l.length<1152921504606846976):z77 l=some (plainC l):=by apply yb8;rw[<-qwe];cases l with|nil=>apply qvt;simp[ltB,plP]|cons y r=>apply qvt;have h:(y::r).drop 0=y::r:=rfl;have h0:ltB 0 (((y::r).length:Nat):Int)=true:=q03 (by rw[List.length_cons];omega);rw[h0,cT,q0s (y:=y) (by omega) rfl,qqa,bS,q00 (by omega),cF,show addI .i64 0 1=((0+1:Nat):Int)from rfl,qrp (y::r) hl r 0 y rfl rfl,plP];cases vcl y<;>simp
theorem qqp(l:LC)(hl:l.length<1152921504606846976):∀(suf:LC)(i:Nat)(z:Claim),l[i]?=some z->l.drop (i+1)=suf->z3b l l ((l.length:Nat):Int) ((i+1:Nat):Int)=some (plP (some z) suf)|[],i,z,hz,h=>by apply qv9;rw[q0c h];rfl|y::suf,i,z,hz,h=>by have hlt:=q09 h;apply qv9;rw[q05 h,cT,q04 h,qm1,bS,q03 (by omega),cT,q22 (by omega) (by omega),q0s (y:=z) (by omega) (by rw[show(((i+1:Nat):Int)-1).toNat=i by omega];exact hz),y4v,bS,y89,q01 (by omega),qqp l hl suf (i+1) y (by have:=congrArg (·[0]?) h;simpa using this) (q02 h)];rw[plP];cases vcl y<;>by_cases hc:ltc z y<;>simp[hc]
theorem qpz(l:LC)(hl:l.length<1152921504606846976):z7o l=some (plainC l):=by apply ycr;rw[<-qwe];cases l with|nil=>apply qv9;simp[ltB,plP]|cons y r=>apply qv9;have h0:ltB 0 (((y::r).length:Nat):Int)=true:=q03 (by rw[List.length_cons];omega);rw[h0,cT,q0s (y:=y) (by omega) rfl,qm1,bS,q00 (by omega),cF,show addI .i64 0 1=((0+1:Nat):Int)from rfl,qqp (y::r) hl r 0 y rfl rfl,plP];cases vcl y<;>simp
def allC:LC:=(List.range 8).flatMap fun(i:Nat)=>(List.range 16).map fun(k:Nat)=>⟨(i:Int),(k:Int)⟩
def qft(l:LC):LC:=allC.filter fun x=>decide (x∈l)
theorem y5a:x∈allC↔vcl x=true:=by
 rw[y98,allC];simp only[List.mem_flatMap,List.mem_map,List.mem_range];constructor;·rintro⟨i,hi,k,hk,rfl⟩;dsimp only;omega
 .rintro⟨h1,h2,h3,h4⟩;exact⟨x.Topic.toNat,by omega,x.Value.toNat,by omega,by cases x;simp_all;omega⟩
theorem y4b:allC.Pairwise ltc:=by decide+kernel
theorem qje:x∈qft l↔vcl x=true/\x∈l:=by simp[qft,y5a]
theorem qsd(l:LC):(qft l).Pairwise ltc:=List.Pairwise.filter _ y4b
theorem qu0(l:LC):(qft l).length<=128:=by
 have:allC.length=128:=by decide+kernel
 rw[<-this];exact List.length_filter_le _ _
theorem qo2(l:LC):plainC (qft l)=true:=q4q.2 ⟨fun _x hx=>(qje.1 hx).1,qsd l⟩
theorem y0i:∀{l k:LC},l.Pairwise ltc->k.Pairwise ltc->(∀x,x∈l↔x∈k)->l=k
 |[],[],_,_,_=>rfl|[],y::k,_,_,h=>by have:=(h y).2 (by simp);cases this|x::l,[],_,_,h=>by have:=(h x).1 (by simp);cases this|x::l,y::k,h1,h2,h=>by
  rw[List.pairwise_cons]at h1 h2;have hxy:x=y:=by
   by_cases e:x=y;·exact e
   .have hx:x∈k:=by rcases List.mem_cons.1 ((h x).1 (by simp))with h|h;exact absurd h e;exact h
    have hy:y∈l:=by rcases List.mem_cons.1 ((h y).2 (by simp))with h|h;exact absurd h.symm e;exact h
    exact absurd (qpd (h1.1 y hy) (h2.1 x hx)) (q82 x)
  subst hxy;rw[y0i h1.2 h2.2 fun z=>?_];constructor
  .intro hz;rcases List.mem_cons.1 ((h z).1 (by simp[hz]))with e|h';·subst e;exact absurd (h1.1 z hz) (q82 z)
   .exact h'
  .intro hz;rcases List.mem_cons.1 ((h z).2 (by simp[hz]))with e|h';·subst e;exact absurd (h2.1 z hz) (q82 z)
   .exact h'
theorem qy1{k:LC}(h1:plainC l=true)(h2:plainC k=true)(h:∀x,x∈l↔x∈k):l=k:=y0i (q4q.1 h1).2 (q4q.1 h2).2 h
theorem qym(h:plainC l=true):qft l=l:=qy1 (qo2 l) h fun x=>by rw[qje];exact⟨fun h=>h.2,fun hx=>⟨(q4q.1 h).1 x hx,hx⟩⟩
def yc3(a b:Claim):Prop:=a.Topic=b.Topic/\a.Value≠b.Value
instance(a b:Claim):Decidable (yc3 a b):=inferInstanceAs(Decidable (_/\_))
end Go.Proofs.YtglokalgdbegeaaGreat
namespace Go.Proofs.YtglokalgdbegeaaGreat
open Go Go.Ab
variable {m : Message} {k : Int} {t : Trust}
noncomputable instance:DecidableEq Trust:=fun a b=>Classical.propDecidable (a=b)
theorem Trust.etaM(t:Trust):Trust.mk t.Threshold t.Nodes t.Inner=t:=by cases t;rfl
theorem q6v(t:Trust):eqB (verr t) 0=valid t:=by have:=q2d t;cases h:valid t with|true=>rw[h]at this;simp[eqB,this.2 rfl]|false=>rw[h]at this;simp only[fT,iff_false]at this;simp[eqB,this]
theorem qq9(t:Trust):neB (verr t) 0=!valid t:=by rw[<-q6v];simp[neB,eqB]
theorem qqx(l k:LI)(hl:l.length<1152921504606846976)(hk:l.length=k.length):∀(suf suk:LI)(i:Nat),l.drop i=suf->k.drop i=suk->z26 l k ((l.length:Nat):Int) (i:Int)=some (decide (suf=suk))
 |[],suk,i,h,h'=>by
  have:suk=[]:=by rw[<-h',List.drop_eq_nil_iff,<-hk];exact List.drop_eq_nil_iff.1 h
  subst this;apply y6n;rw[q0c h];simp|y::suf,[],i,h,h'=>by have:=q09 h;have:=List.drop_eq_nil_iff.1 h';omega|y::suf,z::suk,i,h,h'=>by
  have hlt:=q09 h;apply y6n;rw[q05 h,cT,q04 h,q04 h',q01 (by omega),qqx l k hl hk suf suk (i+1) (q02 h) (q02 h')];by_cases hx:y=z;·subst hx;rw[q0u];simp
  .rw[q2o hx];simp[hx]
theorem y0h(l k:LI)(hl:l.length<1152921504606846976):z44 l k=some (decide (l=k)):=by
 apply ycl;by_cases hk:l.length=k.length;·rw[hk,q0u,cF,<-hk];exact qqx l k hl hk l k 0 rfl rfl
 .rw[q2o (by omega),cT];have:l≠k:=fun e=>hk (by rw[e]);simp[this]
theorem y1c(l k:LT)(hl:l.length<1152921504606846976)(hk:l.length=k.length)(hf:∀x∈l,∀y,z41 x y=some (decide (x=y))):∀(suf suk:LT)(i:Nat),l.drop i=suf->k.drop i=suk->z0l k l ((l.length:Nat):Int) (i:Int)=some (decide (suf=suk))
 |[],suk,i,h,h'=>by
  have:suk=[]:=by rw[<-h',List.drop_eq_nil_iff,<-hk];exact List.drop_eq_nil_iff.1 h
  subst this;apply y8e;rw[q0c h];simp|y::suf,[],i,h,h'=>by have:=q09 h;have:=List.drop_eq_nil_iff.1 h';omega|y::suf,z::suk,i,h,h'=>by have hlt:=q09 h;apply y8e;rw[q05 h,cT,q04 h,q04 h',hf y (List.mem_of_mem_drop (i:=i) (by rw[h];simp)),bS,q01 (by omega),y1c l k hl hk hf suf suk (i+1) (q02 h) (q02 h')];by_cases hx:y=z<;>simp[hx]
theorem qnh:∀a:Trust,Small a->∀b:Trust,z41 a b=some (decide (a=b)):=by
 apply Trust.ind;intro a ih ha b;have hn:=ha.nodes;have hi:=ha.inner;apply ybo;have h1:z1d a.Inner b.Inner=some (decide (a.Inner=b.Inner)):=by
  apply yfj;by_cases hk:a.Inner.length=b.Inner.length;·rw[hk,q0u,cF,<-hk];exact y1c a.Inner b.Inner hi hk (fun x hx y=>ih x hx (ha.mem hx) y) a.Inner b.Inner 0 rfl rfl
  .rw[q2o (by omega),cT];have:a.Inner≠b.Inner:=fun e=>hk (by rw[e]);simp[this]
 rw[y0h _ _ hn,h1];cases a;cases b;simp only[Trust.mk.injEq,bS];rename_i t n i t' n' i';by_cases h1:t=t'<;>by_cases h2:n=n'<;>by_cases h3:i=i'<;>simp[eqB,h1,h2,h3]
theorem qij(a:Trust)(ha:Small a)(b:Trust):z40 a b=some (decide (a=b)):=by obtain⟨r,h1,h2⟩:=y8x a ha b;rw[h1];congr 1;rw[Bool.eq_iff_iff,h2];simp
def msgB(m:Message):Bool:=inR m.Node&&(decide (1<=m.Seq)&&(valid m.Trust&&(plainC m.Votes&&plainC m.Accepts)))
structure SmallM(m:Message):Prop where
 tr:Small m.Trust
 votes:m.Votes.length<1000000
 accs:m.Accepts.length<1000000
theorem qmt{l:LC}(h:plainC l=true):l.length<=128:=by rw[<-qym h];exact qu0 l
theorem qi5:msgB m=true↔inR m.Node=true/\1<=m.Seq/\valid m.Trust=true/\plainC m.Votes=true/\plainC m.Accepts=true:=by simp[msgB]
theorem qfy(h:msgB m=true):SmallM m:=by obtain⟨_,_,h1,h2,h3⟩:=qi5.1 h;have:=qmt h2;have:=qmt h3;exact⟨q1c h1,by omega,by omega⟩
theorem qwk(k:Int):z6g k=some (inR k):=by
 apply yez;by_cases h:0<=k;·simp[leB,ltB,inR,h]
 .simp[leB,ltB,inR,h]
theorem y9d(h:SmallM m):z6v m=some (msgB m):=by apply ybz;rw[qwk,q9g _ h.tr,qrz _ (by have:=h.votes;omega),qrz _ (by have:=h.accs;omega)];simp only[bS,q6v,msgB,leB];cases inR m.Node<;>cases decide (1<=m.Seq)<;>cases valid m.Trust<;>cases plainC m.Votes<;>rfl
theorem y9j(h:SmallM m):z80 m=some (msgB m):=by apply yeu;rw[q8x _ h.tr,qpz _ (by have:=h.votes;omega),qpz _ (by have:=h.accs;omega)];simp only[bS,q6v,msgB,leB,ltB,inR];cases decide (0<=m.Node)<;>cases decide (m.Node<10)<;>cases decide (1<=m.Seq)<;>cases valid m.Trust<;>cases plainC m.Votes<;>rfl
theorem qmr:∀t:Trust,Fits t->z4i t=some t:=by
 apply Trust.ind;intro t ih ht;have hsz:size t<1073741824:=ht;rw[q1q]at hsz;have l1:∀(suf:LT)(i:Nat)(acc:LT)(a8:Int)(a10:LI)(a12:LT)(a14:Int)(a16:LI)(a18:LT)(a20:Int)(a22:LI),t.Inner.drop i=suf->acc.length<=i->z3g t.Inner ((t.Inner.length:Nat):Int) (i:Int) a8 a10 a12 a14 a16 a18 a20 a22 acc=some ⟨a20,a22,acc++suf⟩:=by intro suf;induction suf with|nil=>intro i acc a8 a10 a12 a14 a16 a18 a20 a22 h ha;apply y75;simp only[q0c h,cF,List.append_nil]|cons y suf ihs=>intro i acc a8 a10 a12 a14 a16 a18 a20 a22 h ha;have hlt:=q09 h;have hy:y∈t.Inner:=List.mem_of_mem_drop (by rw[h];exact List.mem_cons_self);apply y75;simp only[q05 h,cT,q04 h,ih y hy (ht.mem hy),bS,q01 (show i<4611686018427387904 by omega),Trust.etaM];rw[q07 (by simp[q0a];omega),ihs (i+1) (acc++[y]) _ _ _ _ _ _ _ _ (q02 h) (by simp;omega)];simp
 apply yel;rw[q07 (by simp[q0a];omega),show(0:Int)=((0:Nat):Int)from rfl,l1 t.Inner 0 [] _ _ _ _ _ _ _ _ rfl (Nat.le_refl _)];show some (Trust.mk t.Threshold t.Nodes t.Inner)=some t;rw[Trust.etaM]
def seeM(ms:LB)(m:Message):LB:=ms.set m.Node.toNat ⟨true,m.Trust⟩
def viewC(v:Int)(t:Trust)(l:LM):Config:=⟨(l.foldl seeM (List.replicate 10 ⟨false,⟨0,[],[]⟩⟩)).set v.toNat ⟨true,t⟩⟩
theorem q9c(h:inR k=true):0<=k/\k.toNat<10:=by simp[inR]at h;omega
theorem qwl{v:Int}{t:Trust}(hv:inR v=true)(ht:valid t=true)(l:LM)(hl:l.length<1152921504606846976)(hm:∀m∈l,msgB m=true/\m.Node≠v):∀(suf:LM)(i:Nat)(ms:LB)(a17:LB),l.drop i=suf->ms.length=10->z2u v l ((l.length:Nat):Int) (i:Int) t.Threshold t.Nodes t.Inner a17 ms=some ⟨(suf.foldl seeM ms).set v.toNat ⟨true,t⟩⟩|[],i,ms,a17,h,hms=>by obtain⟨h0,h10⟩:=q9c hv;apply y6r;rw[q0c h,cF,qwk,bS,hv,cT,Trust.etaM,q9g _ (q1c ht),bS,q6v,ht,cT,qmr _ (q4s ht).1,bS,Trust.etaM,q0s (y:=ms[v.toNat]'(by omega)) h0 (by simp),q44 (y:=ms[v.toNat]'(by omega)) (by simp)];rfl|m::suf,i,ms,a17,h,hms=>by have hlt:=q09 h;obtain⟨g1,g2⟩:=hm m (List.mem_of_mem_drop (i:=i) (by rw[h];simp));obtain⟨k1,_,k3,_⟩:=qi5.1 g1;obtain⟨h0,h10⟩:=q9c k1;apply y6r;rw[q05 h,cT,q04 h,q2o g2,cT,y9d (qfy g1),bS,g1,cT,qmr _ (q4s k3).1,bS,Trust.etaM,q0s (y:=ms[m.Node.toNat]'(by omega)) h0 (by simp),q44 (y:=ms[m.Node.toNat]'(by omega)) (by simp),q01 (by omega),qwl hv ht l hl hm suf (i+1) _ a17 (q02 h) (by simp[hms])];rfl
theorem y50{v:Int}(hv:inR v=true)(ht:valid t=true)(l:LM)(hl:l.length<1152921504606846976)(hm:∀m∈l,msgB m=true/\m.Node≠v):z73 v t l=some (viewC v t l):=by apply yfv;exact qwl hv ht l hl hm l 0 _ _ rfl rfl
theorem qvo{v:Int}{t:Trust}(hv:inR v=true)(ht:valid t=true)(l:LM)(hl:l.length<1152921504606846976)(hm:∀m∈l,msgB m=true/\m.Node≠v):∀(suf:LM)(i:Nat)(ms:LB)(a17:LB),l.drop i=suf->ms.length=10->z5c v l ((l.length:Nat):Int) (i:Int) t.Threshold t.Nodes t.Inner a17 ms=some ⟨(suf.foldl seeM ms).set v.toNat ⟨true,t⟩⟩|[],i,ms,a17,h,hms=>by obtain⟨h0,h10⟩:=q9c hv;apply y6l;rw[q0c h,cF,q0j h0,cT,q03 (by omega),cT,q0s (y:=ms[v.toNat]'(by omega)) h0 (by simp),q44 (y:=ms[v.toNat]'(by omega)) (by simp),Trust.etaM,q8x _ (q1c ht),bS,q6v,ht,cT,q0s (y:=⟨false,⟨0,[],[]⟩⟩) h0 (by rw[List.getElem?_set_self (by omega)]),q44 (y:=⟨false,⟨0,[],[]⟩⟩) (by rw[List.getElem?_set_self (by omega)]),List.set_set];rfl|m::suf,i,ms,a17,h,hms=>by have hlt:=q09 h;obtain⟨g1,g2⟩:=hm m (List.mem_of_mem_drop (i:=i) (by rw[h];simp));obtain⟨k1,_,k3,_⟩:=qi5.1 g1;obtain⟨h0,h10⟩:=q9c k1;apply y6l;rw[q05 h,cT,q04 h,y9j (qfy g1),bS,g1,cT,Trust.etaM,q0s (y:=ms[m.Node.toNat]'(by omega)) h0 (by simp),q44 (y:=ms[m.Node.toNat]'(by omega)) (by simp),q01 (by omega),qvo hv ht l hl hm suf (i+1) _ a17 (q02 h) (by simp[hms])];rfl
theorem y4p{v:Int}(hv:inR v=true)(ht:valid t=true)(l:LM)(hl:l.length<1152921504606846976)(hm:∀m∈l,msgB m=true/\m.Node≠v):z86 v t l=some (viewC v t l):=by apply yei;exact qvo hv ht l hl hm l 0 _ _ rfl rfl
theorem shlOr{s:Nat}(hs:s<1024)(h:inR k=true):orI .i64 (s:Int) (shlI .i64 1 k)=((s|||bit k:Nat):Int):=by have:=q9l h;rw[qnf h,q7n (by omega) (by omega)]
section
variable (l : LM) (hl : l.length < 1152921504606846976) (hm : ∀ m ∈ l, msgB m = true) (x : Claim)
include hl hm
end
def accB(c:Config)(v:Nat)(vs ac:Nat):Bool:=blk c v ac||(q7a c (vs|||ac)).testBit v
def confB(c:Config)(v:Nat)(ac:Nat):Bool:=(q7a c ac).testBit v
section
variable {c : Config} (hc : q7g c) {vs ac : Nat} (hv : vs < 1024) (ha : ac < 1024) {v : Nat} (hn : v < 10)
include hc ha hn
theorem y5k:z4o c (v:Int) (ac:Int)=some (confB c v ac):=by apply ye4;rw[qgs ha hc,bS,q2k (q9b c ha),qfr hn];rfl
theorem y4l:z6f c (v:Int) (ac:Int)=some (confB c v ac):=by apply yfy;rw[qja ha hc,bS,q21 (q9b c ha),qfr hn];rfl
include hv
theorem y3n:z56 c (v:Int) (vs:Int) (ac:Int)=some (accB c v vs ac):=by apply yef;rw[q36 hv,q36 ha,qxh hc ha,q7n (by omega) (by omega),qgs (or_lt hv ha) hc];simp only[bS,q2k (q9b c (or_lt hv ha)),qfr hn,accB];cases blk c v ac<;>rfl
theorem y4g:z6o c (v:Int) (vs:Int) (ac:Int)=some (accB c v vs ac):=by apply ycb;rw[q2n hv,q2n ha,qsn hc ha,q7n (by omega) (by omega),qja (or_lt hv ha) hc];simp only[bS,q21 (q9b c (or_lt hv ha)),qfr hn,accB];cases blk c v ac<;>rfl
end
theorem qeb{t:Member}:∀(l:LM)(ms:LB),t∈l.foldl seeM ms->t∈ms\/∃m∈l,t=⟨true,m.Trust⟩
 |[],ms,h=>.inl h|m::l,ms,h=>by
  rcases qeb l _ h with h|⟨m',h1,h2⟩
  .rcases List.mem_or_eq_of_mem_set h with h|h;·exact .inl h
   .exact .inr ⟨m,by simp,h⟩
  .exact .inr ⟨m',by simp[h1],h2⟩
theorem qe2:∀(l:LM)(ms:LB),(l.foldl seeM ms).length=ms.length|[],_=>rfl|m::l,ms=>by rw[List.foldl_cons,qe2 l];simp[seeM]
theorem qse{v:Int}(ht:valid t=true){l:LM}(hm:∀m∈l,msgB m=true):q7g (viewC v t l):=by
 refine⟨by simp[viewC,qe2],fun m h=>?_⟩;rcases List.mem_or_eq_of_mem_set h with h|h
 .rcases qeb l _ h with h|⟨m',h1,h2⟩;·rw[List.eq_of_mem_replicate h];simp[Small,size,sizes]
  .rw[h2];exact(qfy (hm m' h1)).tr
 .rw[h];exact q1c ht
abbrev Val:=LU
theorem y0x{a b c:Val}(h:a<b)(h':b<c):a<c:=List.lt_trans h h'
theorem qlp(a:Val):¬a<a:=List.lt_irrefl a
theorem y9t{a b:Val}(h:a≠b)(h':¬b<a):a<b:=by have h1:a<=b:=List.not_lt.1 h';exact List.not_le.1 fun h2=>h (List.le_antisymm h1 h2)
def ltv(a b:Val):Prop:=a.length<b.length\/a.length=b.length/\a<b
instance(a b:Val):Decidable (ltv a b):=inferInstanceAs(Decidable (_\/_/\_))
theorem q4i{a b c:Val}(h:ltv a b)(h':ltv b c):ltv a c:=by
 rcases h with h|⟨h,g⟩<;>rcases h' with h'|⟨h',g'⟩;·exact .inl (by omega)
 .exact .inl (by omega)
 .exact .inl (by omega)
 .exact .inr ⟨by omega,y0x g g'⟩
theorem q2e(a:Val):¬ltv a a:=by rintro(h|⟨_,h⟩);omega;exact qlp _ h
theorem q8r{a b:Val}(h:a≠b)(h':¬ltv b a):ltv a b:=by
 by_cases h1:a.length<b.length;·exact .inl h1
 .by_cases h2:b.length<a.length;·exact absurd (.inl h2) h'
  .exact .inr ⟨by omega,y9t h fun g=>h' (.inr ⟨by omega,g⟩)⟩
theorem qdr{a b:Val}(h:ltv a b):¬ltv b a:=fun h'=>q2e _ (q4i h h')
def cmpv(a b:Val):Int:=if ltv a b then-1 else if a=b then 0 else 1
theorem y05{a b:Val}:leB 0 (cmpv a b)=!decide (ltv a b):=by
 unfold cmpv leB;by_cases h:ltv a b;·simp[h]
 .by_cases h':a=b;·subst h';simp[q2e]
  .simp[h,h']
theorem qjr{a b:Val}:ltB (cmpv a b) 0=decide (ltv a b):=by
 unfold cmpv ltB;by_cases h:ltv a b;·simp[h]
 .by_cases h':a=b;·subst h';simp[q2e]
  .simp[h,h']
theorem qsy{a b:Val}:ltB 0 (cmpv a b)=decide (ltv b a):=by
 unfold cmpv ltB;by_cases h:ltv a b;·simp[h,qdr h]
 .by_cases h':a=b;·subst h';simp[q2e]
  .simp[h,h',q8r (fun e=>h' e.symm) h]
theorem y9z{a b:Val}:eqB (cmpv a b) 0=decide (a=b):=by
 unfold cmpv eqB;by_cases h:ltv a b;·have:a≠b:=fun e=>q2e _ (by rw[e]at h;exact h);simp[h,this]
 .by_cases h':a=b;·subst h';simp[q2e]
  .simp[h,h']
theorem quv:∀(a b:Val),ltS a b=decide (a<b)
 |[],[]=>by simp[ltS,Op.bytesLess]|_::_,[]=>by simp[ltS,Op.bytesLess]|[],_::_=>by simp[ltS,Op.bytesLess]|a::x,b::y=>by
  have ih:=quv x y;unfold ltS at*;rw[Op.bytesLess,ih];by_cases h:a=b;·subst h;simp[]
  .by_cases h2:a<b<;>simp[List.cons_lt_cons_iff,h,h2]
def vvl(x:Val):Bool:=decide (1<=x.length)&&decide (x.length<=200)
theorem qu2{x:Val}:vvl x=true↔1<=x.length/\x.length<=200:=by simp[vvl]
abbrev Asc(l:List Val):Prop:=l.Pairwise ltv
theorem qm0{l:List Val}(h:Asc l):l.Nodup:=List.Pairwise.imp (fun{a b}(hab:ltv a b)=>fun(e:a=b)=>q2e a (by rw[<-e]at hab;exact hab)) h
theorem qux:∀{l m:List Val},Asc l->Asc m->(∀x,x∈l↔x∈m)->l=m
 |[],[],_,_,_=>rfl|[],y::m,_,_,h=>by simpa using(h y).2 (by simp)|x::l,[],_,_,h=>by simpa using(h x).1 (by simp)|x::l,y::m,hl,hm,h=>by
  obtain⟨a1,a2⟩:=List.pairwise_cons.1 hl;obtain⟨b1,b2⟩:=List.pairwise_cons.1 hm;have hxy:x=y:=by
   rcases List.mem_cons.1 ((h x).1 (by simp))with e|e;·exact e
   .rcases List.mem_cons.1 ((h y).2 (by simp))with e'|e';·exact e'.symm
    .exact absurd (a1 y e') (qdr (b1 x e))
  subst hxy;congr 1;refine qux a2 b2 fun z=>?_;have hz:=h z;simp only[List.mem_cons]at hz;constructor
  .intro g;rcases hz.1 (.inr g)with e|e;·exact absurd (a1 z g) (by rw[e];exact q2e _)
   .exact e
  .intro g;rcases hz.2 (.inr g)with e|e;·exact absurd (b1 z g) (by rw[e];exact q2e _)
   .exact e
def insV:List Val->Val->List Val|[],x=>[x]|y::r,x=>if ltv x y then x::y::r else y::insV r x
theorem q90{x z:Val}:∀{l:List Val},z∈insV l x↔z=x\/z∈l
 |[]=>by simp[insV]|y::r=>by
  rw[insV];split;·simp
  .rw[List.mem_cons,q90 (l:=r),List.mem_cons];constructor<;>(rintro(h|h|h)<;>simp[h])
theorem qig{x:Val}:∀{l:List Val},Asc l->x∉l->Asc (insV l x)
 |[],_,_=>by simp[insV,Asc]|y::r,h,hx=>by
  obtain⟨h1,h2⟩:=List.pairwise_cons.1 h;rw[insV];split
  .rename_i hxy;refine List.pairwise_cons.2 ⟨fun z hz=>?_,h⟩;rcases List.mem_cons.1 hz with e|hz;·rw[e];exact hxy
   .exact q4i hxy (h1 z hz)
  .rename_i hxy;refine List.pairwise_cons.2 ⟨fun z hz=>?_,qig h2 fun g=>hx (by simp[g])⟩;rcases q90.1 hz with e|hz;·rw[e];exact q8r (fun e=>hx (by simp[e])) hxy
   .exact h1 z hz
theorem qi6{x:Val}:∀{l:List Val},(insV l x).length=l.length+1|[]=>rfl|y::r=>by rw[insV];split<;>simp[qi6]
theorem y1z{x:Val}:∀{l:List Val}{i:Nat},Asc l->i<=l.length->(∀y∈l.take i,ltv y x)->(∀y∈l.drop i,ltv x y)->insV l x=l.take i++x::l.drop i|[],i,_,_,_,_=>by simp[insV]|y::r,0,_,_,_,h2=>by rw[insV,if_pos (h2 y (by simp))];rfl|y::r,i+1,h,hi,h1,h2=>by rw[insV,if_neg (qdr (h1 y (by simp))),y1z (i:=i) (List.pairwise_cons.1 h).2 (by simpa using hi) (fun z hz=>h1 z (by simp[hz])) (fun z hz=>h2 z (by simpa using hz))];rfl
def putV(l:List Val)(x:Val):List Val:=if x∈l\/40<=l.length then l else insV l x
theorem y4w{l:List Val}{x:Val}(h:Asc l):Asc (putV l x):=by
 unfold putV;split;·exact h
 .exact qig h fun g=>by simp_all
theorem qbp{l:List Val}{x y:Val}(h:y∈l):y∈putV l x:=by
 unfold putV;split;·exact h
 .exact q90.2 (.inr h)
theorem qi0{l:List Val}{x y:Val}(h:y∈putV l x):y∈l\/y=x:=by
 unfold putV at h;split at h;·exact .inl h
 .rcases q90.1 h with h|h;·exact .inr h
  .exact .inl h
theorem y5m{l:List Val}{x:Val}(h:l.length<40):x∈putV l x:=by
 unfold putV;split
 .rename_i g;rcases g with g|g;·exact g
  .omega
 .exact q90.2 (.inl rfl)
theorem y3z{l:List Val}{x:Val}(h:l.length<=40):(putV l x).length<=40:=by
 unfold putV;split;·exact h
 .rename_i g;rw[qi6];have:¬40<=l.length:=fun e=>g (.inr e);omega
theorem qnc{l:List Val}{x:Val}(h:l.length<40)(hx:x∉l):(putV l x).length=l.length+1:=by rw[putV,if_neg (by simp[hx];omega),qi6]
def setV(l:List Val):List Val:=l.foldr (fun x r=>if x∈r then r else insV r x) []
theorem q49{z:Val}:∀{l:List Val},z∈setV l↔z∈l
 |[]=>by simp[setV]|x::l=>by
  show z∈(if x∈setV l then setV l else insV (setV l) x)↔_;split
  .rename_i h;rw[q49,List.mem_cons];constructor;·exact .inr
   .rintro(e|e);·rw[e];exact q49.1 h
    .exact e
  .rw[q90,q49,List.mem_cons]
theorem q74:∀{l:List Val},Asc (setV l)
 |[]=>List.Pairwise.nil|x::l=>by
  show Asc (if x∈setV l then setV l else insV (setV l) x);split;·exact q74
  .exact qig q74 (by assumption)
theorem qeu{l m:List Val}(h:Asc m)(h':∀x,x∈m↔x∈l):m=setV l:=qux h q74 fun x=>by rw[h',q49]
def plV:Option Val->List Val->Bool|_,[]=>true|none,y::r=>vvl y&&plV (some y) r|some z,y::r=>vvl y&&(decide (ltv z y)&&plV (some y) r)
def q0x(l:List Val):Bool:=plV none l&&decide (l.length<=40)
theorem y0j:∀{o:Option Val}{l:List Val},plV o l=true↔(∀x∈l,vvl x=true)/\(∀z,o=some z->∀x∈l,ltv z x)/\Asc l
 |o,[]=>by cases o<;>simp[plV]|o,y::r=>by
  have ih:=y0j (o:=some y) (l:=r);have h1:plV o (y::r)=true↔vvl y=true/\(∀z,o=some z->ltv z y)/\plV (some y) r=true:=by cases o<;>simp[plV]
  rw[h1,ih,show Asc (y::r)↔_ from List.pairwise_cons];constructor
  .rintro⟨g1,g2,g3,g4,g5⟩;refine⟨fun x hx=>?_,fun k hk x hx=>?_,g4 _ rfl,g5⟩
   .rcases List.mem_cons.1 hx with e|hx;·subst e;exact g1
    .exact g3 x hx
   .rcases List.mem_cons.1 hx with e|hx;·subst e;exact g2 k hk
    .exact q4i (g2 k hk) (g4 _ rfl x hx)
  .rintro⟨g1,g2,g3,g4⟩;exact⟨g1 y (by simp),fun k hk=>g2 k hk y (by simp),fun x hx=>g1 x (by simp[hx]),fun k hk x hx=>by cases hk;exact g3 x hx,g4⟩
theorem q0l{l:List Val}:q0x l=true↔(∀x∈l,vvl x=true)/\Asc l/\l.length<=40:=by
 rw[q0x,aT,y0j,dT];constructor;·rintro⟨⟨a,_,b⟩,c⟩;exact⟨a,b,c⟩
 .rintro⟨a,b,c⟩;exact⟨⟨a,fun z hz=>by simp at hz,b⟩,c⟩
theorem q3q{l:List Val}{x:Val}(h:q0x l=true)(hx:vvl x=true):q0x (putV l x)=true:=by
 obtain⟨h1,h2,h3⟩:=q0l.1 h;refine q0l.2 ⟨fun y hy=>?_,y4w h2,y3z h3⟩;rcases qi0 hy with hy|hy;·exact h1 y hy
 .rw[hy];exact hx
def compV(o:Val)(l:List Val):Val:=l.foldl (fun o x=>if vvl x=true/\ltv o x then x else o) o
theorem y8v{x:Val}(h:vvl x=true):ltv [] x:=.inl (by have:=(qu2.1 h).1;simp;omega)
variable {m : Nomination} {l : LN} {x : Val} {V : List Val} {u : Int}
def sayN(n:Nominator):Nomination:=⟨n.Node,n.Seq,n.Trust,n.Votes,n.Accepts⟩
def nomB(m:Nomination):Bool:=inR m.Node&&(decide (1<=m.Seq)&&(valid m.Trust&&(q0x m.Votes&&q0x m.Accepts)))
theorem q1s:nomB m=true↔inR m.Node=true/\1<=m.Seq/\valid m.Trust=true/\q0x m.Votes=true/\q0x m.Accepts=true:=by simp[nomB]
def q30(n:Int):Option Int->LN->Bool|_,[]=>true|none,m::r=>nomB m&&(!decide (m.Node=n)&&q30 n (some m.Node) r)|some q,m::r=>nomB m&&(!decide (m.Node=n)&&(decide (q<m.Node)&&q30 n (some m.Node) r))
theorem q37{n:Int}:∀{l:LN}{q:Option Int},q30 n q l=true↔(∀m∈l,nomB m=true/\m.Node≠n)/\(∀k,q=some k->∀m∈l,k<m.Node)/\l.Pairwise (fun a b=>a.Node<b.Node)
 |[],q=>by cases q<;>simp[q30]|m::r,q=>by
  have ih:=q37 (n:=n) (l:=r) (q:=some m.Node);have h1:q30 n q (m::r)=true↔nomB m=true/\m.Node≠n/\(∀k,q=some k->k<m.Node)/\q30 n (some m.Node) r=true:=by cases q<;>simp[q30]
  rw[h1,ih,List.pairwise_cons];constructor
  .rintro⟨g1,g2,g3,g4,g5,g6⟩;refine⟨fun x hx=>?_,fun k hk x hx=>?_,g5 _ rfl,g6⟩
   .rcases List.mem_cons.1 hx with e|hx;·subst e;exact⟨g1,g2⟩
    .exact g4 x hx
   .rcases List.mem_cons.1 hx with e|hx;·subst e;exact g3 k hk
    .exact Int.lt_trans (g3 k hk) (g5 _ rfl x hx)
  .rintro⟨g1,g2,g3,g4⟩;exact⟨(g1 m (by simp)).1,(g1 m (by simp)).2,fun k hk=>g2 k hk m (by simp),fun x hx=>g1 x (by simp[hx]),fun k hk x hx=>by cases hk;exact g3 x hx,g4⟩
theorem qyi{n:Int}(h:q30 n none l=true):l.length<=10:=by obtain⟨h1,_,h3⟩:=q37.1 h;have:=ya7 (m:=10) (l:=l.map (·.Node)) (by decide) (fun k hk=>by obtain⟨m,hm,rfl⟩:=List.mem_map.1 hk;have:=(q1s.1 (h1 m hm).1).1;simpa[inR]using this) (List.pairwise_map.2 h3);simp at this;omega
def numsN(n:Nominator):Bool:=inR n.Node&&(decide (0<=n.Slot)&&(decide (n.Slot<=1000000)&&(decide (1<=n.Round)&&(decide (n.Round<=1000)&&(decide (1<=n.Seq)&&decide (n.Seq<=1000000))))))
def q4m(n:Nominator):Bool:=numsN n&&(valid n.Trust&&(decide (n.Own.length<=200)&&(q0x n.Votes&&(q0x n.Accepts&&(q0x n.Candidates&&(n.Candidates.all (fun x=>decide (x∈n.Accepts))&&q30 n.Node none n.Heard))))))
structure ReadyN(n:Nominator):Prop where
 node:inR n.Node=true
 slot:0<=n.Slot/\n.Slot<=1000000
 round:1<=n.Round/\n.Round<=1000
 seq:1<=n.Seq/\n.Seq<=1000000
 tr:valid n.Trust=true
 own:n.Own.length<=200
 votes:q0x n.Votes=true
 accs:q0x n.Accepts=true
 cands:q0x n.Candidates=true
 sub:∀x∈n.Candidates,x∈n.Accepts
 heard:q30 n.Node none n.Heard=true
theorem q23{n:Nominator}:q4m n=true↔ReadyN n:=by
 simp only[q4m,numsN,aT,dT,List.all_eq_true];constructor;·rintro⟨⟨h1,h2,h3,h4,h5,h6,h7⟩,h8,h9,h10,h11,h12,h13,h14⟩;exact⟨h1,⟨h2,h3⟩,⟨h4,h5⟩,⟨h6,h7⟩,h8,h9,h10,h11,h12,h13,h14⟩
 .rintro⟨h1,⟨h2,h3⟩,⟨h4,h5⟩,⟨h6,h7⟩,h8,h9,h10,h11,h12,h13,h14⟩;exact⟨⟨h1,h2,h3,h4,h5,h6,h7⟩,h8,h9,h10,h11,h12,h13,h14⟩
def allN(n:Nominator):LN:=n.Heard++[sayN n]
section
variable {n : Nominator} (h : ReadyN n)
include h
theorem ReadyN.msg:∀m∈n.Heard,nomB m=true/\m.Node≠n.Node:=(q37.1 h.heard).1
theorem ReadyN.asc:n.Heard.Pairwise (fun a b=>a.Node<b.Node):=(q37.1 h.heard).2.2
theorem ReadyN.say:nomB (sayN n)=true:=q1s.2 ⟨h.node,h.seq.1,h.tr,h.votes,h.accs⟩
theorem ReadyN.all:∀m∈allN n,nomB m=true:=fun m hm=>by
 rcases List.mem_append.1 hm with hm|hm;·exact(h.msg m hm).1
 .simp at hm;subst hm;exact h.say
theorem ReadyN.hlen:n.Heard.length<=10:=qyi h.heard
theorem ReadyN.len:(allN n).length<=11:=by have:=h.hlen;simp[allN];omega
theorem ReadyN.alen:n.Accepts.length<=40:=(q0l.1 h.accs).2.2
theorem ReadyN.vlen:n.Votes.length<=40:=(q0l.1 h.votes).2.2
theorem ReadyN.clen:n.Candidates.length<=40:=(q0l.1 h.cands).2.2
theorem ReadyN.node':n.Node.toNat<10/\((n.Node.toNat:Nat):Int)=n.Node:=by have:=q9c h.node;omega
theorem ReadyN.avv:∀z∈n.Accepts,vvl z=true:=(q0l.1 h.accs).1
end
structure SmallN(m:Nomination):Prop where
 tr:Small m.Trust
 votes:m.Votes.length<1000000
 accs:m.Accepts.length<1000000
structure SmallR(n:Nominator):Prop where
 tr:Small n.Trust
 own:n.Own.length<1000000
 votes:n.Votes.length<1000000
 accs:n.Accepts.length<1000000
 cands:n.Candidates.length<1000000
 heard:n.Heard.length<1000000
 msgs:∀m∈n.Heard,SmallN m
theorem q3m(h:nomB m=true):SmallN m:=by obtain⟨_,_,h1,h2,h3⟩:=q1s.1 h;have:=(q0l.1 h2).2.2;have:=(q0l.1 h3).2.2;exact⟨q1c h1,by omega,by omega⟩
theorem ReadyN.small{n:Nominator}(h:ReadyN n):SmallR n:=⟨q1c h.tr,by have:=h.own;omega,by have:=h.vlen;omega,by have:=h.alen;omega,by have:=h.clen;omega,by have:=h.hlen;omega,fun m hm=>q3m (h.msg m hm).1⟩
def q3f(l:LN):List Val:=l.flatMap fun m=>m.Votes++m.Accepts
def q8c(n:Nominator):List Val:=setV (q3f (allN n))
theorem qwx:x∈q3f l↔∃m∈l,x∈m.Votes\/x∈m.Accepts:=by simp[q3f]
theorem qif(h:nomB m=true):∀x∈m.Votes++m.Accepts,vvl x=true:=fun x hx=>by
 obtain⟨_,_,_,h1,h2⟩:=q1s.1 h;rcases List.mem_append.1 hx with hx|hx;·exact(q0l.1 h1).1 x hx
 .exact(q0l.1 h2).1 x hx
theorem qke{n:Nominator}(h:ReadyN n)(hx:x∈q8c n):vvl x=true:=by obtain⟨m,hm,hx⟩:=qwx.1 (q49.1 hx);exact qif (h.all m hm) x (List.mem_append.2 hx)
def qc7(V l:List Val):List Val:=l.foldl putV V
def leadV(n:Nominator)(V:List Val)(u:Int):List Val:=if u=n.Node then(if n.Own=[]then V else putV V n.Own)else n.Heard.foldl (fun V m=>if m.Node=u then qc7 V (setV (m.Votes++m.Accepts))else V) V
def qc3(L:LI)(n:Nominator):List Val:=L.foldl (leadV n) n.Votes
theorem q75:∀{l V:List Val},q0x V=true->(∀x∈l,vvl x=true)->q0x (qc7 V l)=true|[],V,h,_=>h|x::l,V,h,hl=>by have h1:=q3q h (hl x (by simp));exact q75 (l:=l) (V:=putV V x) h1 fun y hy=>hl y (by simp[hy])
theorem qmd:∀{l V:List Val}{x:Val},x∈V->x∈qc7 V l|[],_V,_x,h=>h|_y::l,_V,_x,h=>qmd (l:=l) (qbp h)
theorem qh2{u:Int}:∀{l:LN}{V:List Val},q0x V=true->(∀m∈l,nomB m=true)->q0x (l.foldl (fun V m=>if m.Node=u then qc7 V (setV (m.Votes++m.Accepts))else V) V)=true
 |[],V,h,_=>h|m::l,V,h,hm=>by
  rw[List.foldl_cons];refine qh2 ?_ fun k hk=>hm k (by simp[hk]);split;·exact q75 h fun x hx=>qif (hm m (by simp)) x (q49.1 hx)
  .exact h
theorem qln{u:Int}:∀{l:LN}{V:List Val}{x:Val},x∈V->x∈l.foldl (fun V m=>if m.Node=u then qc7 V (setV (m.Votes++m.Accepts))else V) V
 |[],V,x,h=>h|m::l,V,x,h=>by
  rw[List.foldl_cons];refine qln ?_;split;·exact qmd h
  .exact h
section
variable {n : Nominator} (h : ReadyN n)
include h
theorem qcr(hV:q0x V=true):q0x (leadV n V u)=true:=by
 unfold leadV;split
 .split;·exact hV
  .rename_i ho;have:=h.own;have:n.Own.length≠0:=fun e=>ho (List.length_eq_zero_iff.1 e);exact q3q hV (qu2.2 ⟨by omega,by omega⟩)
 .exact qh2 hV fun m hm=>(h.msg m hm).1
theorem qjg:∀{L:LI}{V:List Val},q0x V=true->q0x (L.foldl (leadV n) V)=true|[],_V,hV=>hV|_u::L,_V,hV=>qjg (L:=L) (qcr h hV)
theorem qry(L:LI):q0x (qc3 L n)=true:=qjg h h.votes
theorem ReadyN.withV(hV:q0x V=true):ReadyN {n with Votes:=V}:=⟨h.node,h.slot,h.round,h.seq,h.tr,h.own,hV,h.accs,h.cands,h.sub,h.heard⟩
end
theorem y0d{n:Nominator}(hx:x∈V):x∈leadV n V u:=by
 unfold leadV;split
 .split;·exact hx
  .exact qbp hx
 .exact qln hx
theorem qpx{n:Nominator}{x:Val}:∀{L:LI}{V:List Val},x∈V->x∈L.foldl (leadV n) V|[],_V,hV=>hV|_u::L,_V,hV=>qpx (L:=L) (y0d hV)
theorem qxd{n:Nominator}(L:LI)(hx:x∈n.Votes):x∈qc3 L n:=qpx hx
def msgOf(m:Nomination):Message:=⟨m.Node,m.Seq,m.Trust,[],[]⟩
def viewN(n:Nominator):Config:=viewC n.Node n.Trust (n.Heard.map msgOf)
theorem y44(h:nomB m=true):msgB (msgOf m)=true:=by obtain⟨h1,h2,h3,_⟩:=q1s.1 h;exact qi5.2 ⟨h1,h2,h3,rfl,rfl⟩
theorem ReadyN.msgs{n:Nominator}(h:ReadyN n):∀m∈n.Heard.map msgOf,msgB m=true/\m.Node≠n.Node:=fun m hm=>by obtain⟨k,hk,rfl⟩:=List.mem_map.1 hm;exact⟨y44 (h.msg k hk).1,(h.msg k hk).2⟩
theorem ReadyN.view{n:Nominator}(h:ReadyN n):q7g (viewN n):=qse h.tr fun m hm=>(h.msgs m hm).1
def whoN(p:Nomination->Bool)(s:Nat)(l:LN):Nat:=l.foldl (fun s m=>if p m then s|||bit m.Node else s) s
def q6j(l:LN)(x:Val):Nat:=whoN (fun m=>decide (x∈m.Votes)) 0 l
def accsN(l:LN)(x:Val):Nat:=whoN (fun m=>decide (x∈m.Accepts)) 0 l
theorem qa2(p:Nomination->Bool)(s:Nat)(m:Nomination)(l:LN):whoN p s (m::l)=whoN p (if p m then s|||bit m.Node else s) l:=rfl
theorem qtr(p:Nomination->Bool):∀(l:LN)(s:Nat),s<1024->(∀m∈l,inR m.Node=true)->whoN p s l<1024
 |[],s,h,_=>h|m::l,s,h,hm=>by
  rw[qa2];refine qtr p l _ ?_ fun m hm'=>hm m (by simp[hm']);split;·exact or_lt h (q9l (hm m (by simp)))
  .exact h
theorem qrq(hm:∀m∈l,nomB m=true)(x:Val):q6j l x<1024:=qtr _ l 0 (by decide) fun m h=>(q1s.1 (hm m h)).1
theorem qie(hm:∀m∈l,nomB m=true)(x:Val):accsN l x<1024:=qtr _ l 0 (by decide) fun m h=>(q1s.1 (hm m h)).1
def canN(n:Nominator)(x:Val):Bool:=!decide (x∈n.Accepts)&&(decide (n.Accepts.length<40)&&accB (viewN n) n.Node.toNat (q6j (allN n) x) (accsN (allN n) x))
def nextN(n:Nominator):Option Val:=(q8c n).find? (canN n)
theorem qg3{n:Nominator}(h:nextN n=some x):x∈q8c n/\x∉n.Accepts/\n.Accepts.length<40/\accB (viewN n) n.Node.toNat (q6j (allN n) x) (accsN (allN n) x)=true:=by have h1:=List.mem_of_find?_eq_some h;have h2:=List.find?_some h;simp only[canN,aT,Bool.not_eq_true',dT,decide_eq_false_iff_not]at h2;exact⟨h1,h2⟩
def qh5(n:Nominator)(x:Val):Nominator:={n with Accepts:=putV n.Accepts x}
def q3z:Nat->Nominator->Nominator|0,n=>n|k+1,n=>match nextN n with|none=>n|some x=>q3z k (qh5 n x)
theorem ReadyN.withA{n:Nominator}(h:ReadyN n)(hx:vvl x=true):ReadyN (qh5 n x):=⟨h.node,h.slot,h.round,h.seq,h.tr,h.own,h.votes,q3q h.accs hx,h.cands,fun y hy=>qbp (h.sub y hy),h.heard⟩
theorem qab:∀(k:Nat)(n:Nominator),ReadyN n->40-n.Accepts.length<k->ReadyN (q3z k n)/\nextN (q3z k n)=none|0,n,h,hn=>by omega|k+1,n,h,hn=>by rw[q3z];cases hx:nextN n with|none=>exact⟨h,hx⟩|some x=>obtain⟨h1,h2,h3,_⟩:=qg3 hx;have hv:=qke h h1;have hl:=qnc h3 h2;exact qab k (qh5 n x) (h.withA hv) (by show 40-(putV n.Accepts x).length<k;omega)
theorem qgg:∀(k:Nat)(n:Nominator),∃A,q3z k n={n with Accepts:=A}/\∀x∈n.Accepts,x∈A|0,n=>⟨n.Accepts,rfl,fun _ h=>h⟩|k+1,n=>by rw[q3z];cases nextN n with|none=>exact⟨n.Accepts,rfl,fun _ h=>h⟩|some x=>obtain⟨A,h1,h2⟩:=qgg k (qh5 n x);exact⟨A,h1,fun y hy=>h2 y (qbp hy)⟩
def candN(n:Nominator)(C:List Val)(l:List Val):List Val:=l.foldl (fun C x=>if confB (viewN n) n.Node.toNat (accsN (allN n) x)then putV C x else C) C
def qfn(n:Nominator):Nominator:={n with Candidates:=candN n n.Candidates n.Accepts}
def q26(L:LI)(n:Nominator):Nominator:=if n.Candidates=[]then{n with Votes:=qc3 L n}else n
def q11(L:LI)(n:Nominator):Nominator:=qfn (q3z 60 (q26 L n))
theorem qkx(n:Nominator):∀(l C:List Val),q0x C=true->(∀x∈l,vvl x=true)->q0x (candN n C l)=true
 |[],C,h,_=>h|x::l,C,h,hl=>by
  show q0x (candN n (if _ then _ else _) l)=true;refine qkx n l _ ?_ fun y hy=>hl y (by simp[hy]);split;·exact q3q h (hl x (by simp))
  .exact h
theorem q9a(n:Nominator){y:Val}:∀(l C:List Val),y∈C->y∈candN n C l
 |[],C,h=>h|x::l,C,h=>by
  show y∈candN n (if _ then _ else _) l;refine q9a n l _ ?_;split;·exact qbp h
  .exact h
theorem qhf(n:Nominator){y:Val}:∀(l C:List Val),y∈candN n C l->y∈C\/y∈l/\confB (viewN n) n.Node.toNat (accsN (allN n) y)=true
 |[],C,h=>.inl h|x::l,C,h=>by
  have h':y∈candN n (if confB (viewN n) n.Node.toNat (accsN (allN n) x)then putV C x else C) l:=h;rcases qhf n l _ h' with g|g
  .split at g
   .rename_i hc;rcases qi0 g with g|g;·exact .inl g
    .exact .inr ⟨by simp[g],by rw[g];exact hc⟩
   .exact .inl g
  .exact .inr ⟨by simp[g.1],g.2⟩
theorem q8o:∀{A B:List Val},A.Nodup->(∀x∈A,x∈B)->A.length<=B.length|[],B,_,_=>by simp|x::A,B,hA,h=>by obtain⟨h1,h2⟩:=List.nodup_cons.1 hA;have hx:=h x (by simp);have ih:=q8o (B:=B.erase x) h2 fun y hy=>(List.mem_erase_of_ne (fun e=>h1 (by rw[<-e];exact hy))).2 (h y (by simp[hy]));rw[List.length_erase_of_mem hx]at ih;have:=List.length_pos_of_mem hx;simp;omega
theorem qtt{A B:List Val}(hA:Asc A)(h:∀x∈A,x∈B):A.length<=B.length:=q8o (qm0 hA) h
theorem qpg(n:Nominator){A:List Val}(hA:A.length<=40)(hsA:∀x∈A,vvl x=true){y:Val}:∀(l C:List Val),q0x C=true->(∀x∈C,x∈A)->(∀x∈l,x∈A)->y∈l->confB (viewN n) n.Node.toNat (accsN (allN n) y)=true->y∈candN n C l
 |[],C,_,_,_,h,_=>by simp at h|x::l,C,hC,hCA,hl,hy,hc=>by
  show y∈candN n (if _ then _ else _) l;have hxA:=hl x (by simp);by_cases e:y=x
  .subst e;refine q9a n l _ ?_;rw[if_pos hc];by_cases g:y∈C;·exact qbp g
   .refine y5m ?_;have h1:Asc (insV C y):=qig (q0l.1 hC).2.1 g;have h2:=qtt h1 (B:=A) fun z hz=>by
     rcases q90.1 hz with hz|hz;·rw[hz];exact hxA
     .exact hCA z hz
    rw[qi6]at h2;omega
  .refine qpg n hA hsA l _ ?_ ?_ (fun z hz=>hl z (by simp[hz])) (by simpa[e]using hy) hc
   .split;·exact q3q hC (hsA x hxA)
    .exact hC
   .split
    .intro z hz;rcases qi0 hz with hz|hz;·exact hCA z hz
     .rw[hz];exact hxA
    .exact hCA
theorem ReadyN.finish{n:Nominator}(h:ReadyN n):ReadyN (qfn n):=⟨h.node,h.slot,h.round,h.seq,h.tr,h.own,h.votes,h.accs,qkx n _ _ h.cands h.avv,fun x hx=>by
  rcases qhf n _ _ hx with hx|hx;·exact h.sub x hx
  .exact hx.1,h.heard⟩
theorem ReadyN.listen{n:Nominator}(h:ReadyN n)(L:LI):ReadyN (q26 L n):=by
 unfold q26;split;·exact h.withV (qry h L)
 .exact h
theorem ReadyN.settle{n:Nominator}(h:ReadyN n)(L:LI):ReadyN (q11 L n):=((qab 60 _ (h.listen L) (by omega)).1).finish
noncomputable def turnN(b w:Nominator):Nominator:=if b.Trust=w.Trust/\b.Votes=w.Votes/\b.Accepts=w.Accepts then w else{w with Seq:=w.Seq+1}
variable {m : Nomination} {n w : Nominator}
def q5p(m:Nomination):LN->LN|[]=>[m]|x::r=>if x.Node<m.Node then x::q5p m r else if x.Node=m.Node then m::r else m::x::r
def oldN(l:LN)(m:Nomination):Bool:=l.any fun x=>decide (x.Node=m.Node)&&decide (m.Seq<=x.Seq)
theorem qgy{n:Int}{m:Nomination}(hm:nomB m=true)(hn:m.Node≠n):∀{l:LN}{q:Option Int},q30 n q l=true->(∀k,q=some k->k<m.Node)->q30 n q (q5p m l)=true
 |[],q,_,hq=>by cases q with|none=>simp[q5p,q30,hm,hn]|some k=>simp[q5p,q30,hm,hn,hq k rfl]
 |y::r,q,h,hq=>by
  have hi:=q37.1 h;rw[q5p];split
  .rename_i hlt;have hr:q30 n (some y.Node) r=true:=by rw[List.pairwise_cons]at hi;exact q37.2 ⟨fun x hx=>hi.1 x (by simp[hx]),fun k hk x hx=>by cases hk;exact hi.2.2.1 x hx,hi.2.2.2⟩
   have ih:=qgy hm hn hr (fun k hk=>by cases hk;exact hlt);have hj:=q37.1 ih;refine q37.2 ⟨fun x hx=>?_,fun k hk x hx=>?_,List.pairwise_cons.2 ⟨fun x hx=>hj.2.1 _ rfl x hx,hj.2.2⟩⟩
   .rcases List.mem_cons.1 hx with e|hx;·subst e;exact hi.1 x (by simp)
    .exact hj.1 x hx
   .have hy:=hi.2.1 k hk y (by simp);rcases List.mem_cons.1 hx with e|hx;·subst e;exact hy
    .exact Int.lt_trans hy (hj.2.1 _ rfl x hx)
  .rename_i hge;rw[List.pairwise_cons]at hi;split
   .rename_i heq;refine q37.2 ⟨fun x hx=>?_,fun k hk x hx=>?_,List.pairwise_cons.2 ⟨fun x hx=>by rw[<-heq];exact hi.2.2.1 x hx,hi.2.2.2⟩⟩
    .rcases List.mem_cons.1 hx with e|hx;·subst e;exact⟨hm,hn⟩
     .exact hi.1 x (by simp[hx])
    .rcases List.mem_cons.1 hx with e|hx;·subst e;exact hq k hk
     .exact hi.2.1 k hk x (by simp[hx])
   .rename_i hne;have hlt:m.Node<y.Node:=by omega
    refine q37.2 ⟨fun x hx=>?_,fun k hk x hx=>?_,List.pairwise_cons.2 ⟨fun x hx=>?_,List.pairwise_cons.2 hi.2.2⟩⟩
    .rcases List.mem_cons.1 hx with e|hx;·subst e;exact⟨hm,hn⟩
     .exact hi.1 x hx
    .rcases List.mem_cons.1 hx with e|hx;·subst e;exact hq k hk
     .exact hi.2.1 k hk x hx
    .rcases List.mem_cons.1 hx with e|hx;·subst e;exact hlt
     .exact Int.lt_trans hlt (hi.2.2.1 x hx)
def posN(k:Int):LN->Nat|[]=>0|x::r=>if x.Node<k then posN k r+1 else 0
theorem qtd(k:Int):∀l:LN,posN k l<=l.length
 |[]=>Nat.le_refl _|x::r=>by
  rw[posN];split;·simp;exact qtd k r
  .simp
theorem qg0{k:Int}:∀{l:LN},l.Pairwise (fun a b=>a.Node<b.Node)->∀(i:Nat)(x:Nomination),l[i]?=some x->(x.Node<k↔i<posN k l)|[],_,i,x,h=>by simp at h|y::r,hp,i,x,h=>by rw[List.pairwise_cons]at hp;rw[posN];cases i with|zero=>simp at h;subst h;split<;>simp_all|succ i=>
   have h':r[i]?=some x:=by simpa using h
   have hyx:=hp.1 x (List.mem_of_getElem? h');split;·rw[qg0 hp.2 i x h'];omega
   .constructor;·intro g;omega
    .intro g;omega
def q7u(k:Int)(l:LN):Bool:=match l[posN k l]? with|some x=>decide (x.Node=k)|none=>false
theorem qkt{m:Nomination}:∀{l:LN},q5p m l=if q7u m.Node l=true then l.set (posN m.Node l) m else l.take (posN m.Node l)++m::l.drop (posN m.Node l)
 |[]=>by simp[q5p,q7u,posN]|x::r=>by
  rw[q5p];by_cases h1:x.Node<m.Node
  .have hp:posN m.Node (x::r)=posN m.Node r+1:=by rw[posN,if_pos h1]
   have hf:q7u m.Node (x::r)=q7u m.Node r:=by simp[q7u,hp]
   rw[if_pos h1,qkt (l:=r),hp,hf];split<;>simp
  .have hp:posN m.Node (x::r)=0:=by rw[posN,if_neg h1]
   have hf:q7u m.Node (x::r)=decide (x.Node=m.Node):=by simp[q7u,hp]
   rw[if_neg h1,hp,hf];by_cases h2:x.Node=m.Node<;>simp[h2]
theorem qmu{l:LN}(hp:l.Pairwise (fun a b=>a.Node<b.Node)):oldN l m=match l[posN m.Node l]? with|some x=>decide (x.Node=m.Node)&&decide (m.Seq<=x.Seq)|none=>false:=by cases hx:l[posN m.Node l]? with|none=>rw[oldN,List.any_eq_false];intro x hx';obtain⟨i,hi,rfl⟩:=List.mem_iff_getElem.1 hx';have h1:=(qg0 (k:=m.Node) hp i l[i] (by simp[hi]));have h2:=List.getElem?_eq_none_iff.1 hx;have:l[i].Node<m.Node:=h1.2 (by omega);simp;omega|some y=>
  show oldN l m=(decide (y.Node=m.Node)&&decide (m.Seq<=y.Seq));rw[oldN,Bool.eq_iff_iff,List.any_eq_true];constructor
  .rintro⟨x,hx',h⟩;simp only[aT,dT]at h;obtain⟨i,hi,rfl⟩:=List.mem_iff_getElem.1 hx';have h1:=(qg0 (k:=m.Node) hp i l[i] (by simp[hi]));have h3:=(qg0 (k:=m.Node) hp _ y hx);have hge:posN m.Node l<=i:=by
    have:¬l[i].Node<m.Node:=by omega
    rw[h1]at this;omega
   have hpl:=(List.getElem?_eq_some_iff.1 hx).1;have:i=posN m.Node l:=by
    by_cases e:i=posN m.Node l;·exact e
    .have hlt:posN m.Node l<i:=by omega
     have:=List.pairwise_iff_getElem.1 hp _ _ hpl hi hlt;have h4:l[posN m.Node l]=y:=(List.getElem?_eq_some_iff.1 hx).2;rw[h4]at this;have:¬y.Node<m.Node:=by rw[h3];omega
     omega
   subst this;have h4:l[posN m.Node l]=y:=(List.getElem?_eq_some_iff.1 hx).2;rw[h4]at h;simp[h]
  .intro h;exact⟨y,List.mem_of_getElem? hx,h⟩
theorem qzc:∀{l:LN},(∀x∈l,m.Node<x.Node)->q5p m l=m::l|[],_=>rfl|y::r,h=>by have:=h y (by simp);rw[q5p,if_neg (by omega),if_neg (by omega)]
theorem qqu(y:Nomination)(l:LN)(m:Nomination):oldN (y::l) m=(decide (y.Node=m.Node)&&decide (m.Seq<=y.Seq)||oldN l m):=rfl
theorem ReadyN.withH(h:ReadyN n)(hm:nomB m=true)(hn:m.Node≠n.Node):ReadyN {n with Heard:=q5p m n.Heard}:=⟨h.node,h.slot,h.round,h.seq,h.tr,h.own,h.votes,h.accs,h.cands,h.sub,qgy hm hn h.heard (fun k hk=>by cases hk)⟩
theorem ReadyN.withT(h:ReadyN n){t:Trust}(ht:valid t=true):ReadyN {n with Trust:=t}:=⟨h.node,h.slot,h.round,h.seq,ht,h.own,h.votes,h.accs,h.cands,h.sub,h.heard⟩
theorem ReadyN.withR(h:ReadyN n){r:Int}(h1:1<=r)(h2:r<=1000):ReadyN {n with Round:=r}:=⟨h.node,h.slot,⟨h1,h2⟩,h.seq,h.tr,h.own,h.votes,h.accs,h.cands,h.sub,h.heard⟩
theorem ReadyN.withS(h:ReadyN n){s:Int}(h1:1<=s)(h2:s<=1000000):ReadyN {n with Seq:=s}:=⟨h.node,h.slot,h.round,⟨h1,h2⟩,h.tr,h.own,h.votes,h.accs,h.cands,h.sub,h.heard⟩
theorem qx8(n:Nominator)(x:Val):q6j (allN n) x=if x∈n.Votes then q6j n.Heard x|||bit n.Node else q6j n.Heard x:=by simp[q6j,whoN,allN,List.foldl_append,sayN]
theorem qr9(n:Nominator)(x:Val):accsN (allN n) x=if x∈n.Accepts then accsN n.Heard x|||bit n.Node else accsN n.Heard x:=by simp[accsN,whoN,allN,List.foldl_append,sayN]
theorem qlt(n:Nominator):q3f (allN n)=q3f n.Heard++(n.Votes++n.Accepts):=by simp[q3f,allN,sayN]
theorem qzr(h1:n.Node=w.Node)(h2:n.Trust=w.Trust)(h3:n.Votes=w.Votes)(h4:n.Accepts=w.Accepts)(h5:n.Heard=w.Heard)(x:Val):canN n x=canN w x:=by simp only[canN,viewN,qx8,qr9,h1,h2,h3,h4,h5]
theorem qme(h1:n.Node=w.Node)(h2:n.Trust=w.Trust)(h3:n.Votes=w.Votes)(h4:n.Accepts=w.Accepts)(h5:n.Heard=w.Heard):nextN n=nextN w:=by simp only[nextN,q8c,qlt,h3,h4,h5];congr 1;funext x;exact qzr h1 h2 h3 h4 h5 x
def confN(n:Nominator)(x:Val):Bool:=confB (viewN n) n.Node.toNat (accsN (allN n) x)
theorem qm2(h1:n.Node=w.Node)(h2:n.Trust=w.Trust)(h4:n.Accepts=w.Accepts)(h5:n.Heard=w.Heard)(x:Val):confN n x=confN w x:=by simp only[confN,viewN,qr9,h1,h2,h4,h5]
structure SetN(n:Nominator):Prop where
 next:nextN n=none
 conf:∀x∈n.Accepts,confN n x=true->x∈n.Candidates
theorem qdn(L:LI)(n:Nominator):∃A C,q11 L n={n with Votes:=(q26 L n).Votes,Accepts:=A,Candidates:=C}/\(∀x∈n.Votes,x∈(q26 L n).Votes)/\(∀x∈n.Accepts,x∈A)/\(∀x∈n.Candidates,x∈C):=by
 obtain⟨A,h1,h2⟩:=qgg 60 (q26 L n);have h3:q26 L n={n with Votes:=(q26 L n).Votes}:=by unfold q26;split<;>rfl
 refine⟨A,candN (q3z 60 (q26 L n)) (q3z 60 (q26 L n)).Candidates (q3z 60 (q26 L n)).Accepts,?_,fun x hx=>?_,fun x hx=>h2 x (by rw[h3];exact hx),fun x hx=>q9a _ _ _ ?_⟩;·show qfn (q3z 60 (q26 L n))=_;unfold qfn;rw[h1,h3]
 .unfold q26;split;·exact qxd L hx
  .exact hx
 .rw[h1,h3];exact hx
theorem qp3(h:ReadyN n)(L:LI):SetN (q11 L n):=by
 obtain⟨h1,h2⟩:=qab 60 _ (h.listen L) (by omega);refine⟨?_,fun x hx hc=>?_⟩;·rw[<-h2];exact qme rfl rfl rfl rfl rfl
 .have hc':confN (q3z 60 (q26 L n)) x=true:=by rw[<-hc];exact qm2 rfl rfl rfl rfl x
  exact qpg _ h1.alen h1.avv _ _ h1.cands h1.sub (fun _ g=>g) hx hc'
theorem SetN.cong(h:SetN n)(h1:n.Node=w.Node)(h2:n.Trust=w.Trust)(h3:n.Votes=w.Votes)(h4:n.Accepts=w.Accepts)(h5:n.Heard=w.Heard)(h6:n.Candidates=w.Candidates):SetN w:=⟨by rw[<-qme h1 h2 h3 h4 h5];exact h.next,fun x hx hc=>by rw[<-h6];exact h.conf x (by rw[h4];exact hx) (by rw[<-hc];exact qm2 h1 h2 h4 h5 x)⟩
def q4a:Nominator:=⟨0,0,0,0,⟨0,[],[]⟩,[],[],[],[],[]⟩
theorem q3e:SmallR q4a:=⟨by simp[q4a,Small,size,sizes],by simp[q4a],by simp[q4a],by simp[q4a],by simp[q4a],by simp[q4a],fun m hm=>by cases hm⟩
theorem qg5(b w:Nominator):∃s:Int,(s=w.Seq\/s=w.Seq+1)/\turnN b w={w with Seq:=s}/\(s=w.Seq↔b.Trust=w.Trust/\b.Votes=w.Votes/\b.Accepts=w.Accepts):=by
 unfold turnN;split;·rename_i h;exact⟨w.Seq,.inl rfl,rfl,fun _=>h,fun _=>rfl⟩
 .rename_i h;exact⟨w.Seq+1,.inr rfl,rfl,fun e=>by omega,fun e=>absurd e h⟩
theorem ReadyN.smallS(h:ReadyN n)(s:Int):SmallR {n with Seq:=s}:=⟨h.small.tr,h.small.own,h.small.votes,h.small.accs,h.small.cands,h.small.heard,h.small.msgs⟩
structure StepN(n w:Nominator):Prop where
 node:w.Node=n.Node
 slot:w.Slot=n.Slot
 seq:w.Seq=n.Seq\/w.Seq=n.Seq+1
 votes:∀x∈n.Votes,x∈w.Votes
 accs:∀x∈n.Accepts,x∈w.Accepts
 cands:∀x∈n.Candidates,x∈w.Candidates
 ready:w.Seq<=1000000->ReadyN w
 chg:w.Seq=n.Seq↔n.Trust=w.Trust/\n.Votes=w.Votes/\n.Accepts=w.Accepts
theorem qyb{u:Nominator}(hu:ReadyN u)(L:LI)(h1:u.Node=n.Node)(h2:u.Slot=n.Slot)(h3:u.Seq=n.Seq)(h4:u.Votes=n.Votes)(h5:u.Accepts=n.Accepts)(h6:u.Candidates=n.Candidates):StepN n (turnN n (q11 L u))/\SetN (turnN n (q11 L u)):=by
 obtain⟨s,g1,g2,g3⟩:=qg5 n (q11 L u);obtain⟨A,C,f1,f2,f3,f4⟩:=qdn L u;have hr:=hu.settle L;have hs:=qp3 hu L;have hq:=hu.seq;rw[g2];refine⟨⟨?_,?_,?_,?_,?_,?_,fun hle=>?_,?_⟩,hs.cong rfl rfl rfl rfl rfl rfl⟩;·show(q11 L u).Node=_;rw[f1];exact h1
 .show(q11 L u).Slot=_;rw[f1];exact h2
 .show s=_\/s=_;rw[f1]at g1;rw[<-h3];exact g1
 .intro x hx;show x∈(q11 L u).Votes;rw[f1];exact f2 x (by rw[h4];exact hx)
 .intro x hx;show x∈(q11 L u).Accepts;rw[f1];exact f3 x (by rw[h5];exact hx)
 .intro x hx;show x∈(q11 L u).Candidates;rw[f1];exact f4 x (by rw[h6];exact hx)
 .have e1:(q11 L u).Seq=u.Seq:=by rw[f1]
  refine hr.withS ?_ hle;rw[e1]at g1;omega
 .show s=n.Seq↔n.Trust=(q11 L u).Trust/\_;rw[<-g3,f1];show s=n.Seq↔s=u.Seq;rw[h3]
theorem qy7(h:ReadyN n):StepN n n:=⟨rfl,rfl,.inl rfl,fun _ h=>h,fun _ h=>h,fun _ h=>h,fun _=>h,⟨fun _=>⟨rfl,rfl,rfl⟩,fun _=>rfl⟩⟩
end Go.Proofs.YtglokalgdbegeaaGreat
