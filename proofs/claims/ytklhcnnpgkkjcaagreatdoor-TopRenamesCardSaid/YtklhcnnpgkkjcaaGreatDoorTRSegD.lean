/- Laws of the printed functions. -/
import Derived.Test.YtklhcnnpgkkjcaaGreatDoorTRFn0
import Derived.Test.YtklhcnnpgkkjcaaGreatDoorTRFn1
import Derived.Test.YtklhcnnpgkkjcaaGreatDoorTRFn2
import Derived.Test.YtklhcnnpgkkjcaaGreatDoorTRFn3
import Derived.Test.YtklhcnnpgkkjcaaGreatDoorTRFn4
import Derived.Test.YtklhcnnpgkkjcaaGreatDoorTRFn5
import Derived.Test.YtklhcnnpgkkjcaaGreatDoorTRFn6
import Derived.Test.YtklhcnnpgkkjcaaGreatDoorTRFn7
import Derived.Test.YtklhcnnpgkkjcaaGreatDoorMachT
import Derived.Sort.Statements
import Derived.Test.YtklhcnnpgkkjcaaGreatDoorTRSeek
import Derived.Test.YtklhcnnpgkkjcaaGreatDoorTRSegC
import Derived.Test.YtklhcnnpgkkjcaaGreatDoorTRFchk
namespace Go.Proofs.YtklhcnnpgkkjcaaGreatDoor
open Go Go.Ab
variable {s : Nat} {t x : Go.Proofs.YtklhcnnpgkkjcaaGreatDoor.Trust} {k : Int}
theorem Trust.ind{p:Trust->Prop}(h:∀t,(∀x∈t.Inner,p x)->p t)(t:Trust):p t:=h t fun x _hx=>Trust.ind h x
termination_by SizeOf.sizeOf t
decreasing_by have:=List.sizeOf_lt_of_mem _hx;cases t;simp only[Trust.mk.sizeOf_spec]at*;omega
@[simp]theorem Trust.eta(t:Trust):Trust.mk t.Threshold t.Nodes t.Inner=t:=by cases t;rfl
def has(s:Nat)(k:Int):Bool:=decide (0<=k)&&(decide (k<10)&&s.testBit k.toNat)
def cnt(s:Nat)(l:LI):Nat:=l.countP (has s)
theorem qog(h:s<1024):z8t s=some true:=by apply yci;simp only[q26 (show(0:Int)<=(s:Int)by omega),q26 (show(s:Int)<=1023 by omega),cT]
theorem q67(h:s<1024):z0l s=some true:=by
 apply y4c;have:z29 s 10=some true:=by apply qzi;simp only[q26 (show(0:Int)<=(s:Int)by omega),cT,q13 (show(0:Int)<=10 by decide),shl1 (show(0:Int)<=10 by decide) (by decide)];rw[q0b];show(s:Int)<((2^10:Nat):Int);omega
 simp only[this,bS]
theorem qrm(s k:Nat):(s>>>k)&&&1=if s.testBit k then 1 else 0:=by
 rw[Nat.testBit_eq_decide_div_mod_eq,Nat.shiftRight_eq_div_pow,Nat.and_one_is_mod];have:s/2^k%2=0\/s/2^k%2=1:=by omega
 rcases this with h|h<;>simp[h]
theorem q7r(h:s<1024)(k:Int):z8v s k=some (has s k):=by
 apply yal;simp only[qog h,bS,cT];unfold has;by_cases h0:0<=k
 .by_cases h1:k<10
  .obtain⟨n,rfl⟩:=Int.eq_ofNat_of_zero_le h0;have hn:n<10:=by omega
   simp only[q26 h0,q0b h1,cT,q13 h0,y6i s n (by omega),decide_eq_true h0,decide_eq_true h1,tA',tN];have h2:s>>>n<2^62:=Nat.lt_of_le_of_lt (Nat.shiftRight_le _ _) (by omega);have h3:andI .i64 ((s>>>n:Nat):Int) 1=(((s>>>n)&&&1:Nat):Int):=qli (b:=1) h2 (by decide);rw[h3,qrm];cases s.testBit n<;>rfl
  .simp only[q26 h0,q02 (Int.not_lt.1 h1),cT,cF,h1,decide_false,Bool.false_and,Bool.and_false]
 .simp only[q3c (Int.not_le.1 h0),cF,h0,decide_false,Bool.false_and]
theorem y9z(s k:Nat):s&&&2^k=if s.testBit k then 2^k else 0:=by
 apply Nat.eq_of_testBit_eq;intro i;rw[Nat.testBit_and,Nat.testBit_two_pow];by_cases hi:k=i;·subst hi;cases h:s.testBit k<;>simp[]
 .cases h:s.testBit k<;>simp[hi]
theorem q3o(h:s<1024)(k:Int):z0p s k=some (has s k):=by
 apply y81;simp only[q67 h,bS,cT];unfold has;by_cases h0:0<=k
 .by_cases h1:k<10
  .obtain⟨n,rfl⟩:=Int.eq_ofNat_of_zero_le h0;have hn:n<10:=by omega
   simp only[q26 h0,q0b h1,cT,q13 h0,shl1 h0 (show((n:Nat):Int)<=62 by omega),decide_eq_true h0,decide_eq_true h1,tA',tN];have h2:2^n<2^62:=Nat.pow_lt_pow_right (by decide) (by omega);rw[qli (show s<2^62 by omega) h2,y9z];cases s.testBit n with
   |true=>
    have:(2:Nat)^n≠0:=by have:=Nat.two_pow_pos n;omega
    simp only[if_true];rw[q4b (by omega)]|false=>rfl
  .simp only[q26 h0,q02 (Int.not_lt.1 h1),cT,cF,h1,decide_false,Bool.false_and,Bool.and_false]
 .simp only[q3c (Int.not_le.1 h0),cF,h0,decide_false,Bool.false_and]
mutual
def size : Trust -> Nat
 | ⟨_, nodes, inner⟩ => nodes.length + inner.length + sizes inner
def sizes : LT -> Nat
 | [] => 0
 | x :: r => size x + sizes r
end
mutual
def depth : Trust -> Nat
 | ⟨_, _, inner⟩ => q34 inner + 1
def q34 : LT -> Nat
 | [] => 0
 | x :: r => max (depth x) (q34 r)
end
theorem q3y(t:Trust):size t=t.Nodes.length+t.Inner.length+sizes t.Inner:=by cases t;simp only[size]
theorem q7y(t:Trust):depth t=q34 t.Inner+1:=by cases t;simp only[depth]
theorem qqd{l:LT}(h:x∈l):size x<=sizes l:=by induction l with|nil=>cases h|cons y r ih=>
  simp only[sizes];rcases List.mem_cons.1 h with rfl|h;·omega
  .have:=ih h;omega
def Small(t:Trust):Prop:=size t<1152921504606846976
theorem Small.nodes(h:Small t):t.Nodes.length<1152921504606846976:=by unfold Small at h;rw[q3y]at h;omega
theorem Small.inner(h:Small t):t.Inner.length<1152921504606846976:=by unfold Small at h;rw[q3y]at h;omega
theorem Small.mem(h:Small t)(hx:x∈t.Inner):Small x:=by unfold Small at*;rw[q3y]at h;have:=qqd hx;omega
mutual
def sat (s : Nat) : Trust -> Bool
 | ⟨thr, nodes, inner⟩ => decide (thr <= ((cnt s nodes + sats s inner : Nat) : Int))
def sats (s : Nat) : LT -> Nat
 | [] => 0
 | x :: r => (if sat s x then 1 else 0) + sats s r
end
theorem qbv(s:Nat)(t:Trust):sat s t=decide (t.Threshold<=((cnt s t.Nodes+sats s t.Inner:Nat):Int)):=by cases t;simp only[sat]
theorem y57:∀t:Trust,Small t->z8s t=some ((size t:Nat):Int):=by
 apply Trust.ind;intro t ih ht;have hn:=ht.nodes;have hi:=ht.inner;have hs:size t<1152921504606846976:=ht;have l1:∀(suf:LT)(i c:Nat),t.Inner.drop i=suf->c+sizes suf=size t->z7i (c:Int) t.Inner ((t.Inner.length:Nat):Int) (i:Int) t.Threshold t.Nodes t.Inner=some ((size t:Nat):Int):=by intro suf;induction suf with|nil=>intro i c h hc;apply y7w;simp only[q1h h,cF];simp only[sizes,Nat.add_zero]at hc;rw[hc]|cons y suf ihs=>intro i c h hc;apply y7w;have hlt:=q1b h;have hy:y∈t.Inner:=List.mem_of_mem_drop (by rw[h];exact List.mem_cons_self);simp only[sizes]at hc;simp only[q0l h,cT,q0k h,ih y hy (ht.mem hy),bS,q0d (show i<4611686018427387904 by omega)];rw[q3r (by omega) (by omega)];exact ihs (i+1) (c+size y) (q0g h) (by omega)
 apply yc0;rw[q3r (by omega) (by omega)];have h1:=q3y t;exact l1 t.Inner 0 (t.Nodes.length+t.Inner.length) rfl (by omega)
theorem qa3:∀t:Trust,depth t<=size t+1:=by
 apply Trust.ind;intro t ih;rw[q7y,q3y];have:∀l:LT,(∀x∈l,depth x<=size x+1)->q34 l<=sizes l+l.length:=by intro l;induction l with|nil=>intro _;simp[q34]|cons y r ihl=>intro h;have h1:=h y (by simp);have h2:=ihl (fun x hx=>h x (by simp[hx]));simp only[q34,sizes,List.length_cons];omega
 have:=this t.Inner ih;omega
theorem qqn:∀t:Trust,Small t->z8m t=some ((depth t:Nat):Int):=by
 apply Trust.ind;intro t ih ht;have hi:=ht.inner;have hd:=qa3 t;have hs:size t<1152921504606846976:=ht;have l1:∀(suf:LT)(i c:Nat),t.Inner.drop i=suf->max c (q34 suf)=q34 t.Inner->z6z (c:Int) t.Inner ((t.Inner.length:Nat):Int) (i:Int) t.Threshold t.Nodes t.Inner=some ((depth t:Nat):Int):=by intro suf;induction suf with|nil=>intro i c h hc;apply y8p;simp only[q1h h,cF];simp only[q34,Nat.max_zero]at hc;rw[q7y]at hd⊢;rw[hc,q0d (by omega)]|cons y suf ihs=>
   intro i c h hc;apply y8p;have hlt:=q1b h;have hy:y∈t.Inner:=List.mem_of_mem_drop (by rw[h];exact List.mem_cons_self);simp only[q34]at hc;simp only[q0l h,cT,q0k h,ih y hy (ht.mem hy),bS,q0d (show i<4611686018427387904 by omega)];have:(if((depth y:Nat):Int)>(c:Int)then((depth y:Nat):Int)else(c:Int))=((max c (depth y):Nat):Int):=by split<;>omega
   rw[this];exact ihs (i+1) (max c (depth y)) (q0g h) (by omega)
 apply yd1;exact l1 t.Inner 0 0 rfl (by omega)
def inR(k:Int):Bool:=decide (0<=k)&&decide (k<10)
def bit(k:Int):Nat:=2^k.toNat
theorem qz9(h:inR k=true):bit k<1024:=by
 simp only[inR,aT,dT']at h;have:k.toNat<10:=by omega
 exact Nat.pow_lt_pow_right (a:=2) (by decide) this
theorem qx8(h:inR k=true):shlI .i64 1 k=((bit k:Nat):Int):=by simp only[inR,aT,dT']at h;exact shl1 h.1 (by omega)
theorem qta{j:Int}(hk:inR k=true):has (s|||bit k) j=(has s j||(decide (j=k))):=by
 simp only[inR,aT,dT']at hk;simp only[has,bit,Nat.testBit_or,Nat.testBit_two_pow];by_cases h0:0<=j
 .by_cases h1:j<10
  .simp only[h0,h1,decide_true,tA'];congr 1;by_cases h2:j=k;·subst h2;simp
   .have:k.toNat≠j.toNat:=by omega
    simp[h2,this]
  .simp only[h1,decide_false,Bool.false_and,Bool.and_false,Bool.false_or];symm;rw[decide_eq_false_iff_not];omega
 .simp only[h0,decide_false,Bool.false_and,Bool.false_or];symm;rw[decide_eq_false_iff_not];omega
def fresh(s:Nat):LI->Bool|[]=>true|k::r=>inR k&&(!has s k&&fresh (s|||bit k) r)
theorem of_l1(xs:LI)(hl:xs.length<1152921504606846976):∀(suf:LI)(i s:Nat),xs.drop i=suf->s<1024->∃v e,z7c (s:Int) xs ((xs.length:Nat):Int) (i:Int)=some (v,e)/\(e=0↔fresh s suf=true)
 |[],i,s,h,hs=>⟨s,0,by apply qxy;simp only[q1h h,cF],by simp[fresh]⟩|y::suf,i,s,h,hs=>by
  have hlt:=q1b h;by_cases hy:inR y=true;·have hy':=hy;simp only[inR,aT,dT']at hy';cases hh:has s y with|true=>refine⟨0,6,?_,by simp[fresh,hy,hh]⟩;apply qxy;simp only[q0l h,cT,q0k h,q02 hy'.1,q3c hy'.2,cF,q7r hs,hh,bS]|false=>have hb:=qz9 hy;obtain⟨v,e,h1,h2⟩:=of_l1 xs hl suf (i+1) (s|||bit y) (q0g h) (Nat.or_lt_two_pow (n:=10) hs hb);refine⟨v,e,?_,by rw[h2];simp[fresh,hy,hh]⟩;apply qxy;simp only[q0l h,cT,q0k h,q02 hy'.1,q3c hy'.2,cF,q7r hs,hh,bS,q13 hy'.1,qx8 hy,qam (show s<2^62 by omega) (show bit y<2^62 by omega),q0d (show i<4611686018427387904 by omega)];exact h1
  .have hn:¬(0<=y/\y<10):=by simpa[inR]using hy
   refine⟨0,5,?_,by simp[fresh,hy]⟩;apply qxy;simp only[q0l h,cT,q0k h];by_cases h0:y<0;·simp only[q0b h0,cT]
   .simp only[q02 (Int.not_lt.1 h0),cF,q26 (show 10<=y by omega),cT]
theorem of_ok(xs:LI)(hl:xs.length<1152921504606846976):∃v e,z90 xs=some (v,e)/\(e=0↔fresh 0 xs=true):=by obtain⟨v,e,h1,h2⟩:=of_l1 xs hl xs 0 0 rfl (by decide);exact⟨v,e,ydm _ _ h1,h2⟩
mutual
def good : Trust -> Bool
 | ⟨thr, nodes, inner⟩ => decide (1 <= thr) && (decide (thr <= ((nodes.length + inner.length : Nat) : Int)) && (nodes.all inR && (fresh 0 nodes && goods inner)))
def goods : LT -> Bool
 | [] => true
 | x :: r => good x && goods r
end
theorem qa1(t:Trust):good t=(decide (1<=t.Threshold)&&(decide (t.Threshold<=((t.Nodes.length+t.Inner.length:Nat):Int))&&(t.Nodes.all inR&&(fresh 0 t.Nodes&&goods t.Inner)))):=by cases t;simp only[good]
theorem qz4(xs:LI)(hl:xs.length<1152921504606846976)(thr:Int)(inner:LT)(Q:Int->Prop)(hQ:∃e,z5s inner ((inner.length:Nat):Int) 0 thr xs inner=some e/\Q e):∀(suf:LI)(i:Nat),xs.drop i=suf->∃e,z5r xs ((xs.length:Nat):Int) (i:Int) thr xs inner=some e/\(if suf.all inR&&fresh 0 xs then Q e else e≠0)
 |[],i,h=>by obtain⟨v,e,h1,h2⟩:=of_ok xs hl;cases hf:fresh 0 xs with|true=>obtain⟨e',h3,h4⟩:=hQ;refine⟨e',?_,by simpa[hf]using h4⟩;apply qxw;have he:e=0:=h2.2 hf;subst he;simp only[q1h h,cF,h1,bS,q0v,h3]|false=>
   have he:e≠0:=fun h0=>by rw[h2.1 h0]at hf;cases hf
   refine⟨e,?_,by simp[he]⟩;apply qxw;simp only[q1h h,cF,h1,bS,q4b he,cT]
 |y::suf,i,h=>by
  have hlt:=q1b h;by_cases hy:inR y=true;·have hy':=hy;simp only[inR,aT,dT']at hy';obtain⟨e,h1,h2⟩:=qz4 xs hl thr inner Q hQ suf (i+1) (q0g h);refine⟨e,?_,by simpa[hy]using h2⟩;apply qxw;simp only[q0l h,cT,q0k h,q02 hy'.1,q3c hy'.2,cF,q0d (show i<4611686018427387904 by omega),h1]
  .have hn:¬(0<=y/\y<10):=by simpa[inR]using hy
   refine⟨5,?_,by simp[hy]⟩;apply qxw;simp only[q0l h,cT,q0k h];by_cases h0:y<0;·simp only[q0b h0,cT]
   .simp only[q02 (Int.not_lt.1 h0),cF,q26 (show 10<=y by omega),cT]
theorem y6x:∀t:Trust,Small t->∃e,z7p t=some e/\(e=0↔good t=true):=by
 apply Trust.ind;intro t ih ht;have hn:=ht.nodes;have hi:=ht.inner;have hs:size t<1152921504606846976:=ht;rw[q3y]at hs;have l2:∀(suf:LT)(i:Nat),t.Inner.drop i=suf->∃e,z5s t.Inner ((t.Inner.length:Nat):Int) (i:Int) t.Threshold t.Nodes t.Inner=some e/\(e=0↔goods suf=true):=by intro suf;induction suf with|nil=>intro i h;refine⟨0,?_,by simp[goods]⟩;apply y4m;simp only[q1h h,cF]|cons y suf ihs=>
   intro i h;have hlt:=q1b h;have hy:y∈t.Inner:=List.mem_of_mem_drop (by rw[h];exact List.mem_cons_self);obtain⟨e,h1,h2⟩:=ih y hy (ht.mem hy);by_cases he:e=0;·obtain⟨e',h3,h4⟩:=ihs (i+1) (q0g h);refine⟨e',?_,by rw[h4];simp[goods,h2.1 he]⟩;apply y4m;simp only[q0l h,cT,q0k h,h1,bS,he,q0v,cF,q0d (show i<4611686018427387904 by omega),h3]
   .refine⟨e,?_,?_⟩;·apply y4m;simp only[q0l h,cT,q0k h,h1,bS,q4b he]
    .have:good y=false:=by cases hg:good y with|true=>exact absurd (h2.2 hg) he|false=>rfl
     simp[goods,this,he]
 rw[qa1];by_cases h1:1<=t.Threshold
 .by_cases h2:t.Threshold<=((t.Nodes.length+t.Inner.length:Nat):Int)
  .obtain⟨e,h3,h4⟩:=qz4 t.Nodes (by omega) t.Threshold t.Inner (fun e=>e=0↔goods t.Inner=true) (l2 t.Inner 0 rfl) t.Nodes 0 rfl;refine⟨e,?_,?_⟩;·apply y2u;rw[q02 h1,q3r (by omega) (by omega),q02 (by omega)];simp only[cF];exact h3
   .simp only[decide_eq_true h1,decide_eq_true h2,tA'];cases ha:t.Nodes.all inR<;>cases hf:fresh 0 t.Nodes<;>simp[ha,hf]at h4⊢<;>exact h4
  .refine⟨4,?_,by rw[decide_eq_false h2];simp⟩;apply y2u;rw[q02 h1,q3r (by omega) (by omega),q0b (by omega)];simp only[cF,cT]
 .refine⟨4,?_,by simp[h1]⟩;apply y2u;rw[q0b (by omega)];simp only[cT]
def valid(t:Trust):Bool:=decide (depth t<=4)&&(decide (size t<=200)&&good t)
theorem y5v(t:Trust)(ht:Small t):∃e,z87 t=some e/\(e=0↔valid t=true):=by
 have hs:size t<1152921504606846976:=ht;by_cases h1:depth t<=4
 .by_cases h2:size t<=200;·obtain⟨e,h3,h4⟩:=y6x t ht;refine⟨e,?_,by simp[valid,h1,h2,h4]⟩;apply y32;rw[qqn t ht];simp only[bS];rw[q02 (by omega),y57 t ht];simp only[cF,bS];rw[q02 (by omega)];simp only[cF,h3,bS]
  .refine⟨3,?_,by simp[valid,h2]⟩;apply y32;rw[qqn t ht];simp only[bS];rw[q02 (by omega),y57 t ht];simp only[cF,bS];rw[q0b (by omega)];simp only[cT]
 .refine⟨3,?_,by simp[valid,h1]⟩;apply y32;rw[qqn t ht];simp only[bS];rw[q0b (by omega)];simp only[cT]
variable {i m n : Int} {l : LI}
def q0r(l:LI)(i:Int):Prop:=0<=i/\i<=400/\l.length<=400
theorem ybc(t:LI):∃l,z91 t=some ((),l,0)/\q0r l 0:=by
 by_cases h:400<((t.length:Nat):Int);·refine⟨List.drop 0 (List.take 400 t),?_,by simp[q0r];omega⟩;apply y85;rw[if_pos h,qlm (by decide) (by omega)];rfl
 .refine⟨List.drop 0 (List.take t.length t),?_,by simp[q0r];omega⟩;apply y85;rw[if_neg h,qlm (by omega) (by omega)];simp only[tN]
theorem N_ok(hn:0<n)(hn2:n<4611686018427387904)(h:q0r l i):∃v j,z3g n l i=some (v,l,j)/\0<=v/\v<n/\q0r l j:=by
 obtain⟨h0,h1,h2⟩:=h;by_cases hl:((l.length:Nat):Int)<=i;·refine⟨0,i,?_,by omega,hn,h0,h1,h2⟩;apply y1e;simp only[q26 hl,cT]
 .have hi:i.toNat<l.length:=by omega
  have hg:l[i.toNat]?=some l[i.toNat]:=List.getElem?_eq_getElem hi;generalize l[i.toNat]=y at hg;have b1:=Int.tmod_lt_of_pos y hn;have b2:=Int.lt_tmod_of_pos y hn;have hne:n≠0:=by omega
  have hj:addI .i64 i 1=i+1:=q3r (by omega) (by omega);by_cases hr:y.tmod n<0;·refine⟨y.tmod n+n,i+1,?_,by omega,by omega,by omega,by omega,h2⟩;apply y1e;simp only[q3c (Int.not_le.1 hl),cF,q37 h0 hg,q13 hne,hj];rw[show remI .i64 y n=y.tmod n from rfl,q0b hr,q3r (by omega) (by omega)];rfl
  .refine⟨y.tmod n,i+1,?_,by omega,by omega,by omega,by omega,h2⟩;apply y1e;simp only[q3c (Int.not_le.1 hl),cF,q37 h0 hg,q13 hne,hj];rw[show remI .i64 y n=y.tmod n from rfl,q02 (by omega)];rfl
theorem q9t{a b:Int}(hab:a<=b)(ha:-1000000<=a)(hb:b<=1000000)(h:q0r l i):∃v j,z38 a b l i=some (v,l,j)/\a<=v/\v<=b/\q0r l j:=by obtain⟨v,j,h1,h2,h3,h4⟩:=N_ok (n:=b-a+1) (by omega) (by omega) h;refine⟨a+v,j,?_,by omega,by omega,h4⟩;apply ydk;rw[qby (by omega) (by omega),q3r (by omega) (by omega),h1];simp only[bS];rw[q3r (by omega) (by omega)]
theorem qw0{ps:LI}(hp:0<ps.length)(hp2:ps.length<1000000)(h:q0r l i):∃v j,z7d ps l i=some (v,l,j)/\v∈ps/\q0r l j:=by
 obtain⟨v,j,h1,h2,h3,h4⟩:=N_ok (n:=((ps.length:Nat):Int)) (by omega) (by omega) h;have hi:v.toNat<ps.length:=by omega
 refine⟨ps[v.toNat],j,?_,List.getElem_mem hi,h4⟩;apply ydd;rw[h1];simp only[bS,q37 h2 (List.getElem?_eq_getElem hi)]
theorem qz7{l:LI}(B:Int):∀(k:Nat)(a:LI)(c:Int)(i:Int),c.toNat=k->c<((a.length:Nat):Int)->a.length<=1000->(∀x∈a,0<=x/\x<B)->q0r l i->∃p j,z4a a c l i=some (p,l,j)/\p.length=a.length/\(∀x∈p,0<=x/\x<B)/\q0r l j
 |0,a,c,i,hk,hc,ha,hm,h=>by refine⟨a,i,?_,rfl,hm,h⟩;apply qxo;simp only[q02 (show c<=0 by omega),cF]|k+1,a,c,i,hk,hc,ha,hm,h=>by
  obtain⟨v,j,h1,h2,h3,h4⟩:=N_ok (n:=c+1) (by omega) (by omega) h;have hv:v.toNat<a.length:=by omega
  have hcl:c.toNat<a.length:=by omega
  have g1:a[v.toNat]?=some a[v.toNat]:=List.getElem?_eq_getElem hv;have g2:a[c.toNat]?=some a[c.toNat]:=List.getElem?_eq_getElem hcl;have m1:=hm _ (List.getElem_mem hv);have m2:=hm _ (List.getElem_mem hcl);generalize a[v.toNat]=y1 at g1 m1;generalize a[c.toNat]=y2 at g2 m2;have hl1:v.toNat<(List.set a c.toNat y1).length:=by simpa using hv
  have g3:(List.set a c.toNat y1)[v.toNat]?=some (List.set a c.toNat y1)[v.toNat]:=List.getElem?_eq_getElem hl1;generalize(List.set a c.toNat y1)[v.toNat]=y3 at g3;have hm':∀x∈List.set (List.set a c.toNat y1) v.toNat y2,0<=x/\x<B:=by
   intro x hx;rcases List.mem_or_eq_of_mem_set hx with hx|rfl
   .rcases List.mem_or_eq_of_mem_set hx with hx|rfl;·exact hm x hx
    .exact m1
   .exact m2
  obtain⟨p,j',h5,h6,h7,h8⟩:=qz7 B k (List.set (List.set a c.toNat y1) v.toNat y2) (c-1) j (by omega) (by simp;omega) (by simpa using ha) hm' h4;refine⟨p,j',?_,by simpa using h6,h7,h8⟩;apply qxo;rw[q0b (by omega),q3r (by omega) (by omega),h1,qby (by omega) (by omega)];simp only[cT,bS,q37 h2 g1,q37 (show 0<=c by omega) g2,q6l g1,q6l g2,q37 h2 g3,q6l g3];exact h5
theorem qzh{l:LI}(n:Int)(hn:n<=1000):∀(k:Nat)(a:LI)(i:Int),n-((a.length:Nat):Int)=((k:Nat):Int)->(∀x∈a,0<=x/\x<n)->q0r l i->∃p j,z49 n a ((a.length:Nat):Int) l i=some (p,l,j)/\((p.length:Nat):Int)=n/\(∀x∈p,0<=x/\x<n)/\q0r l j
 |0,a,i,hk,hm,h=>by obtain⟨p,j,h1,h2,h3,h4⟩:=qz7 n (n-1).toNat a (n-1) i rfl (by omega) (by omega) hm h;refine⟨p,j,?_,by omega,h3,h4⟩;apply qxz;rw[q02 (by omega),qby (by omega) (by omega)];simp only[cF,h1]
 |k+1,a,i,hk,hm,h=>by obtain⟨p,j,h1,h2,h3,h4⟩:=qzh n hn k (a++[((a.length:Nat):Int)]) i (by simp;omega) (by
   intro x hx;rcases List.mem_append.1 hx with hx|hx;·exact hm x hx
   .rw[List.mem_singleton]at hx;subst hx;omega) h;refine⟨p,j,?_,h2,h3,h4⟩;apply qxz;rw[q0b (by omega),q0p (by simp[q0a];omega),q0d (by omega)];simp only[cT];rw[<-h1];congr 1;simp
theorem qxn(h0:0<=n)(hn:n<=1000)(h:q0r l i):∃p j,z6q n l i=some (p,l,j)/\((p.length:Nat):Int)=n/\(∀x∈p,0<=x/\x<n)/\q0r l j:=by obtain⟨p,j,h1,h2,h3,h4⟩:=qzh n hn n.toNat [] i (by simp;omega) (by simp) h;exact⟨p,j,y84 _ _ _ _ h1,h2,h3,h4⟩
theorem quk(a b:LT):sizes (a++b)=sizes a+sizes b:=by induction a with|nil=>simp[sizes]|cons x r ih=>simp only[List.cons_append,sizes,ih];omega
theorem qqq(a1 a3:Int)(xs:LI)(hl:xs.length<=10)(a13:LI)(a15 a17:Int)(a19:LI)(a21:LT)(a23:Int)(a27:LT):∀(suf:LI)(i:Nat)(acc:LI),xs.drop i=suf->i<=xs.length->acc.length<=i->Le (z7a a1 a3 xs ((xs.length:Nat):Int) ((xs.length:Nat):Int) a13 a15 a17 a19 a21 a23 (acc++suf) a27) (z7a a1 a3 xs ((xs.length:Nat):Int) (i:Int) a13 a15 a17 a19 a21 a23 acc a27)
 |[],i,acc,h,hi,ha=>by
  have h1:xs.length<=i:=List.drop_eq_nil_iff.1 h;have:i=xs.length:=by omega
  subst this;rw[List.append_nil];exact Le.refl _|y::suf,i,acc,h,hi,ha=>fun r hr=>by have hlt:=q1b h;apply y45;simp only[q0l h,cT,q0k h,q0d (show i<4611686018427387904 by omega)];rw[q0p (by simp[q0a];omega)];refine qqq a1 a3 xs hl a13 a15 a17 a19 a21 a23 a27 suf (i+1) (acc++[y]) (q0g h) (by omega) (by simp;omega) r ?_;rw[List.append_assoc];exact hr
def bound:Nat->Nat|0=>8|d+1=>8+3*bound d
theorem qxq:∀d,d<=bound d|0=>by simp[bound]|d+1=>by have:=qxq d;simp only[bound];omega
theorem qo1(thr:Int)(a:LI)(b:LT):size (Trust.mk thr a b)=a.length+b.length+sizes b:=by simp only[size]
mutual
def below (m : Int) : Trust -> Bool
 | ⟨_, nodes, inner⟩ => nodes.all (fun k => decide (0 <= k) && decide (k < m)) && q4v m inner
def q4v (m : Int) : LT -> Bool
 | [] => true
 | x :: r => below m x && q4v m r
end
theorem qyd(m:Int)(t:Trust):below m t=(t.Nodes.all (fun k=>decide (0<=k)&&decide (k<m))&&q4v m t.Inner):=by cases t;simp only[below]
theorem qqg(m:Int)(a b:LT):q4v m (a++b)=(q4v m a&&q4v m b):=by induction a with|nil=>simp[q4v]|cons x r ih=>simp only[List.cons_append,q4v,ih,Bool.and_assoc]
theorem y43(h:∀x∈l,0<=x/\x<m):l.all (fun k=>decide (0<=k)&&decide (k<m))=true:=by rw[List.all_eq_true];intro x hx;have:=h x hx;simp[this.1,this.2]
theorem q7o{thr:Int}{a:LI}{b:LT}(ha:∀x∈a,0<=x/\x<m)(hb:q4v m b=true):below m ⟨thr,a,b⟩=true:=by simp only[below,y43 ha,hb,Bool.and_self]
theorem qyr{n:Int}{l:LI}{d:Nat}(hd:bound d<1000000)(IH:∀i,q0r l i->∃t j,z8p n (d+1:Nat) l i=some (t,l,j)/\(size t<=bound d/\below n t=true)/\q0r l j)(a13:Int)(a15:LI)(a17:LT)(a19:Int)(a21:LI)(h5:1<=a21.length)(h6:a21.length<=5)(hN:∀x∈a21,0<=x/\x<n):∀(k:Nat)(i:Int)(acc:LT),acc.length+k<=3->(sizes acc<=acc.length*bound d/\q4v n acc=true)->q0r l i->∃t j,z7b n ((d+2:Nat):Int) (k:Int) l i a13 a15 a17 a19 a21 acc=some (t,l,j)/\(size t<=bound (d+1)/\below n t=true)/\q0r l j
 |0,i,acc,ha,hs,h=>by
  obtain⟨hs,hbl⟩:=hs;have hb:sizes acc<=3*bound d:=Nat.le_trans hs (Nat.mul_le_mul_right _ (by omega));have fin:∀(q:LI)(i':Int),q.length<=5->1<=q.length+acc.length->(∀x∈q,0<=x/\x<n)->q0r l i'->∃v j,z38 1 (addI .i64 ((q.length:Nat):Int) ((acc.length:Nat):Int)) l i'=some (v,l,j)/\(size (Trust.mk v q acc)<=bound (d+1)/\below n (Trust.mk v q acc)=true)/\q0r l j:=by intro q i' hq hq1 hqn h';rw[q3r (by omega) (by omega)];obtain⟨v,j,g1,g2,g3,g4⟩:=q9t (a:=1) (b:=((q.length:Nat):Int)+((acc.length:Nat):Int)) (by omega) (by omega) (by omega) h';exact⟨v,j,g1,⟨by rw[qo1];simp only[bound];omega,q7o hqn hbl⟩,g4⟩
  by_cases h0:acc.length=0;·obtain⟨v,j,g1,g2,g3⟩:=fin a21 i h6 (by omega) hN h;refine⟨_,j,?_,g2,g3⟩;apply qy9;rw[q02 (show((0:Nat):Int)<=0 by omega),q02 (show((acc.length:Nat):Int)<=0 by omega),g1];rfl
  .obtain⟨u,j0,g1,g2,g3,g4⟩:=N_ok (n:=3) (by decide) (by decide) h;by_cases hu:u=0;·obtain⟨v,j,g5,g6,g7⟩:=fin [] j0 (by simp) (by simp;omega) (by simp) g4;refine⟨_,j,?_,g6,g7⟩;apply qy9;rw[q02 (show((0:Nat):Int)<=0 by omega),q0b (show 0<((acc.length:Nat):Int)by omega),g1];simp only[cF,cT,bS,hu,q56];rw[g5];rfl
   .obtain⟨v,j,g5,g6,g7⟩:=fin a21 j0 h6 (by omega) hN g4;refine⟨_,j,?_,g6,g7⟩;apply qy9;rw[q02 (show((0:Nat):Int)<=0 by omega),q0b (show 0<((acc.length:Nat):Int)by omega),g1];simp only[cF,cT,bS,q7b hu];rw[g5];rfl|k+1,i,acc,ha,hs,h=>by obtain⟨x,j0,g1,g2,g3⟩:=IH i h;obtain⟨t,j,g4,g5,g6⟩:=qyr hd IH a13 a15 a17 a19 a21 h5 h6 hN k j0 (acc++[x]) (by simp;omega) ⟨by rw[quk];simp only[sizes,List.length_append,List.length_cons,List.length_nil,Nat.add_mul];have:=hs.1;have:=g2.1;omega,by simp only[qqg,q4v,hs.2,g2.2,Bool.and_self]⟩ g3;refine⟨t,j,?_,g5,g6⟩;apply qy9;have hdd:=qxq d;rw[q0b (by omega),qby (by omega) (by omega),qby (by omega) (by omega)];rw[show((d+2:Nat):Int)-1=((d+1:Nat):Int)by omega,g1];simp only[cT,bS,Trust.eta];rw[q0p (by simp[q0a];omega)];rw[<-g4];congr 1;omega
theorem y5i(h1:1<=n)(h2:n<=1000):∀(d:Nat),bound d<1000000->∀i,q0r l i->∃t j,z8p n (d+1:Nat) l i=some (t,l,j)/\(size t<=bound d/\below n t=true)/\q0r l j:=by intro d;induction d with|zero=>
  intro _ i h;obtain⟨p,j0,g1,g2,g3,g4⟩:=qxn (by omega) h2 h;obtain⟨b,j1,g5,g6,g7,g8⟩:=q9t (a:=1) (b:=if 5<n then 5 else n) (by split<;>omega) (by omega) (by split<;>omega) g4;have hb5:b<=5:=by split at g7<;>omega
  have hbn:b<=n:=by split at g7<;>omega
  have hxs:(List.take b.toNat p).length=b.toNat:=by simp;omega
  obtain⟨v,j,g9,g10,g11,g12⟩:=q9t (a:=1) (b:=((b.toNat:Nat):Int)) (by omega) (by omega) (by omega) g8;refine⟨Trust.mk v (List.take b.toNat p) [],j,?_,⟨by rw[qo1,hxs];simp[sizes,bound];omega,q7o (fun x hx=>g3 x (List.mem_of_mem_take hx)) rfl⟩,g12⟩;apply y7v;rw[g1];simp only[bS];rw[g5];simp only[bS];rw[qlm (by omega) (by omega)];simp only[List.drop_zero];refine qqq n _ _ (by omega) l j1 0 [] [] 0 [] _ 0 [] rfl (Nat.zero_le _) (Nat.zero_le _) _ ?_;rw[List.nil_append,List.drop_zero];apply y45;rw[q02 (Int.le_refl _),q02 (by decide)];simp only[cF];rw[hxs,show addI .i64 ((b.toNat:Nat):Int) (([]:LT).length:Nat)=((b.toNat:Nat):Int)by rw[q3r (by simp;omega) (by simp;omega)];simp,g9];rfl|succ d ihd=>
  intro hbd i h;have hbd':bound d<1000000:=by simp only[bound]at hbd;omega
  obtain⟨p,j0,g1,g2,g3,g4⟩:=qxn (by omega) h2 h;obtain⟨b,j1,g5,g6,g7,g8⟩:=q9t (a:=1) (b:=if 5<n then 5 else n) (by split<;>omega) (by omega) (by split<;>omega) g4;have hb5:b<=5:=by split at g7<;>omega
  have hbn:b<=n:=by split at g7<;>omega
  have hxs:(List.take b.toNat p).length=b.toNat:=by simp;omega
  obtain⟨k,j2,g9,g10,g11⟩:=qw0 (ps:=[0,0,1,1,2,3]) (by decide) (by decide) g8;have hk:0<=k/\k<=3:=by simp only[List.mem_cons,List.not_mem_nil,or_false]at g10;omega
  obtain⟨kn,rfl⟩:=Int.eq_ofNat_of_zero_le hk.1;obtain⟨t,j,g12,g13,g14⟩:=qyr hbd' (ihd hbd') 0 [] [] 0 (List.take b.toNat p) (by omega) (by omega) (fun x hx=>g3 x (List.mem_of_mem_take hx)) kn j2 [] (by simp;omega) ⟨by simp[sizes],rfl⟩ g11;refine⟨t,j,?_,g13,g14⟩;apply y7v;rw[g1];simp only[bS];rw[g5];simp only[bS];rw[qlm (by omega) (by omega)];simp only[List.drop_zero];refine qqq n _ _ (by omega) l j1 0 [] [] 0 [] _ 0 [] rfl (Nat.zero_le _) (Nat.zero_le _) _ ?_;rw[List.nil_append,List.drop_zero];apply y45;rw[q02 (Int.le_refl _),q0b (show(1:Int)<((d+1+1:Nat):Int)by omega),g9];simp only[cF,cT,bS];exact g12
theorem qzf(k:Int):has 0 k=false:=by simp[has]
theorem qst{v:Int}(h:inR v=true):valid (Trust.mk 1 [v] [])=true:=by simp[valid,depth,q34,size,sizes,good,goods,fresh,h,qzf]
theorem Small.of_size{t:Trust}{b:Nat}(h:size t<=b)(hb:b<1000000):Small t:=by unfold Small;omega
theorem y6z(h1:1<=n)(h2:n<=10)(d:Nat)(hd:bound d<1000000)(h:q0r l i):∃t j,z8w n (d+1:Nat) l i=some (t,l,j)/\(valid t=true/\below n t=true)/\Small t/\q0r l j:=by
 obtain⟨t,j,g1,g2,g3⟩:=y5i h1 (by omega) d hd i h;have hsm:=Small.of_size g2.1 hd;obtain⟨e,g4,g5⟩:=y5v t hsm;by_cases he:e=0;·refine⟨t,j,?_,⟨g5.1 he,g2.2⟩,hsm,g3⟩;apply y8z;rw[g1];simp only[bS];rw[g4];simp only[bS,he,q0v,cF,Trust.eta]
 .obtain⟨v,j',g6,g7,g8,g9⟩:=N_ok (n:=n) (by omega) (by omega) g3;have hv:inR v=true:=by simp only[inR,aT,dT'];omega
  refine⟨Trust.mk 1 [v] [],j',?_,⟨qst hv,q7o (by simp;omega) rfl⟩,Small.of_size (b:=1) (by simp[size,sizes]) (by decide),g9⟩;apply y8z;rw[g1];simp only[bS];rw[g4];simp only[bS,q4b he,cT];rw[g6];rfl
variable {i k m thr : Int} {l : LI}
theorem qcq:∀(l:LI)(s:Nat),fresh s l=true↔(∀k∈l,inR k=true/\has s k=false)/\l.Nodup
 |[],s=>by simp[fresh]|k::r,s=>by
  simp only[fresh,aT,Bool.not_eq_true',List.mem_cons,List.nodup_cons];constructor
  .rintro⟨h1,h2,h3⟩;obtain⟨h4,h5⟩:=(qcq r _).1 h3;refine⟨fun j hj=>?_,fun hk=>?_,h5⟩
   .rcases hj with rfl|hj;·exact⟨h1,h2⟩
    .obtain⟨h6,h7⟩:=h4 j hj;rw[qta h1]at h7;simp only[Bool.or_eq_false_iff]at h7;exact⟨h6,h7.1⟩
   .have:=(h4 k hk).2;rw[qta h1]at this;simp at this
  .rintro⟨h1,h2,h3⟩;obtain⟨h4,h5⟩:=h1 k (.inl rfl);refine⟨h4,h5,(qcq r _).2 ⟨fun j hj=>?_,h3⟩⟩;obtain⟨h6,h7⟩:=h1 j (.inr hj);refine⟨h6,?_⟩;rw[qta h4,h7];have:j≠k:=fun e=>h2 (by rw[<-e];exact hj);simp[this]
theorem qg5(hm:m<=10)(h:0<=k/\k<m):inR k=true:=by simp only[inR,aT,dT'];omega
theorem y3g(hm:m<=10)(h:∀k∈l,0<=k/\k<m)(hs:l.Pairwise (·<·)):fresh 0 l=true:=(qcq l 0).2 ⟨fun k hk=>⟨qg5 hm (h k hk),qzf k⟩,hs.imp (fun h=>by omega)⟩
theorem ya5(hm:m<=10)(h:∀k∈l,0<=k/\k<m):l.all inR=true:=by rw[List.all_eq_true];exact fun k hk=>qg5 hm (h k hk)
theorem qya(h:l.Pairwise (·<·))(hk:∀x∈l,x<k):(l++[k]).Pairwise (·<·):=by rw[List.pairwise_append];exact⟨h,by simp,fun a ha b hb=>by rw[List.mem_singleton]at hb;subst hb;exact hk a ha⟩
theorem qil(h0:0<=m):∀{l:LI},(∀k∈l,0<=k/\k<m)->l.Pairwise (·<·)->(l.length:Int)<=m:=by
 intro l h hs;have key:∀(l:LI)(b:Int),(∀k∈l,b<=k/\k<m)->l.Pairwise (·<·)->b<=m->(l.length:Int)<=m-b:=by intro l;induction l with|nil=>intro b _ _ hb;simp;omega|cons x r ih=>intro b h hs hb;rw[List.pairwise_cons]at hs;have hx:=h x (by simp);have:=ih (x+1) (fun k hk=>⟨by have:=hs.1 k hk;omega,(h k (by simp[hk])).2⟩) hs.2 (by omega);simp only[List.length_cons];omega
 have:=key l 0 h hs h0;omega
theorem qxd{t:Trust}(h1:depth t<=4)(h2:size t<=200)(h3:good t=true):valid t=true:=by simp only[valid,aT,dT'];exact⟨h1,h2,h3⟩
theorem qi6(hm0:0<=m)(hm:m<=10)(h:∀k∈l,0<=k/\k<m)(hs:l.Pairwise (·<·))(h1:1<=thr)(h2:thr<=(l.length:Int)):valid ⟨thr,l,[]⟩=true:=by have hl:=qil hm0 h hs;refine qxd (by simp[depth,q34]) (by rw[qo1];simp[sizes];omega) ?_;rw[qa1];simp only[aT,dT',y3g hm h hs,ya5 hm h,goods,and_true];exact⟨h1,by simpa using h2⟩
def Good(m:Int)(t:Trust):Prop:=valid t=true/\below m t=true
theorem qvz{m:Int}(hm:1<=m)(hm2:m<=10){l:LI}(a11:Int)(a13:LI)(a15:LT)(a17:Int):∀(n:Nat)(c i:Int)(acc:LI),m-c=(n:Int)->0<=c->(∀k∈acc,0<=k/\k<c)->acc.Pairwise (·<·)->q0r l i->∃t j,z79 m c l i a11 a13 a15 a17 acc []=some (t,l,j)/\Good m t/\q0r l j
 |0,c,i,acc,hn,h0,hacc,hs,h=>by
  obtain⟨v,j,g1,g2,g3⟩:=qw0 (ps:=[0,0,0,1,-1]) (by decide) (by decide) h;have hv:-1<=v/\v<=1:=by simp only[List.mem_cons,List.not_mem_nil,or_false]at g2;omega
  have hacc':∀k∈acc,0<=k/\k<m:=fun k hk=>⟨(hacc k hk).1,by have:=(hacc k hk).2;omega⟩;let clip(e b:Int):Int:=if(if e>1 then e else 1)<b then(if e>1 then e else 1)else b;have clip1:∀e b:Int,1<=b->1<=clip e b/\clip e b<=b:=by intro e b hb;simp only[clip];split<;>split<;>omega
  by_cases hz:acc.length=0
  .have e:(addI .i64 (quoI .i64 (addI .i64 (mulI .i64 2 ((List.length [(0:Int)]:Nat):Int)) 2) 3) v)=1+v:=by rw[show quoI .i64 (addI .i64 (mulI .i64 2 ((List.length [(0:Int)]:Nat):Int)) 2) 3=1 from by decide,q3r (by omega) (by omega)]
   refine⟨⟨clip (1+v) 1,[0],[]⟩,j,?_,?_,g3⟩;·apply qxr;rw[q02 (by omega),hz];simp only[cF,cT,Int.natCast_zero,q56];rw[g1];simp only[bS,e];rfl
   .obtain⟨c1,c2⟩:=clip1 (1+v) 1 (by omega);exact⟨qi6 (m:=m) (by omega) hm2 (by simp;omega) (by simp) c1 (by simpa using c2),q7o (by simp;omega) rfl⟩
  .have hl:=qil (by omega) hacc' hs;have hd:(2*(acc.length:Int)+2).tdiv 3=(2*(acc.length:Int)+2)/3:=Int.tdiv_eq_ediv_of_nonneg (by omega);have e:(addI .i64 (quoI .i64 (addI .i64 (mulI .i64 2 ((acc.length:Nat):Int)) 2) 3) v)=(2*(acc.length:Int)+2)/3+v:=by
    have e1:mulI .i64 2 ((acc.length:Nat):Int)=2*(acc.length:Int):=wrap64 (by omega) (by omega);have e2:quoI .i64 (2*(acc.length:Int)+2) 3=(2*(acc.length:Int)+2)/3:=by rw[<-hd];exact wrap64 (by rw[hd];omega) (by rw[hd];omega)
    have e3:addI .i64 (2*(acc.length:Int)) 2=2*(acc.length:Int)+2:=q3r (by omega) (by omega);rw[e1,e3,e2,q3r (by omega) (by omega)]
   refine⟨⟨clip ((2*(acc.length:Int)+2)/3+v) acc.length,acc,[]⟩,j,?_,?_,g3⟩;·apply qxr;rw[q02 (by omega),q7b (by omega)];simp only[cF];rw[g1];simp only[bS,e];rfl
   .obtain⟨c1,c2⟩:=clip1 ((2*(acc.length:Int)+2)/3+v) acc.length (by omega);exact⟨qi6 (m:=m) (by omega) hm2 hacc' hs c1 c2,q7o hacc' rfl⟩|n+1,c,i,acc,hn,h0,hacc,hs,h=>by
  obtain⟨v,j,g1,g2,g3,g4⟩:=N_ok (n:=10) (by decide) (by decide) h;have hl:=qil h0 hacc hs;by_cases hv:v<9
  .obtain⟨t,j',g5,g6,g7⟩:=qvz hm hm2 a11 a13 a15 a17 n (c+1) j (acc++[c]) (by omega) (by omega) (fun k hk=>by
    rcases List.mem_append.1 hk with hk|hk;·have:=hacc k hk;omega
    .rw[List.mem_singleton]at hk;omega) (qya hs fun x hx=>(hacc x hx).2) g4;refine⟨t,j',?_,g6,g7⟩;apply qxr;rw[q0b (by omega),g1];simp only[cT,bS,q0b hv];rw[q0p (by simp[q0a];omega),q3r (by omega) (by omega)];exact g5
  .obtain⟨t,j',g5,g6,g7⟩:=qvz hm hm2 a11 a13 a15 a17 n (c+1) j acc (by omega) (by omega) (fun k hk=>by have:=hacc k hk;omega) hs g4;refine⟨t,j',?_,g6,g7⟩;apply qxr;rw[q0b (by omega),g1];simp only[cT,cF,bS,q02 (show 9<=v by omega)];rw[q3r (by omega) (by omega)];exact g5
theorem ya8(hm:1<=m)(hm2:m<=10)(h:q0r l i):∃t j,z92 m l i=some (t,l,j)/\Good m t/\q0r l j:=by obtain⟨t,j,g1,g2,g3⟩:=qvz hm hm2 0 [] [] 0 m.toNat 0 i [] (by omega) (by omega) (by simp) (by simp) h;exact⟨t,j,ybq _ _ _ _ g1,g2,g3⟩
def Flat(m:Int)(x:Trust):Prop:=x.Inner=[]/\(∀k∈x.Nodes,0<=k/\k<m)/\x.Nodes.Pairwise (·<·)/\1<=x.Threshold/\x.Threshold<=(x.Nodes.length:Int)
theorem Flat.good(hm0:0<=m)(hm:m<=10){x:Trust}(h:Flat m x):Good m x:=by obtain⟨thr,nodes,inner⟩:=x;obtain⟨rfl,h1,h2,h3,h4⟩:=h;exact⟨qi6 hm0 hm h1 h2 h3 h4,q7o h1 rfl⟩
theorem qzr(hm0:0<=m)(hm:m<=10){l:LT}(h:∀x∈l,Flat m x)(hl:l.length<=3)(h1:1<=thr)(h2:thr<=(l.length:Int)):Good m ⟨thr,[],l⟩:=by
 have hb:q4v m l=true/\goods l=true/\sizes l<=l.length*10/\q34 l<=1:=by clear hl h2;induction l with|nil=>simp[q4v,goods,sizes,q34]|cons x r ih=>
   obtain⟨i1,i2,i3,i4⟩:=ih (fun y hy=>h y (by simp[hy]));have hx:=h x (by simp);obtain⟨g1,g2⟩:=hx.good hm0 hm;obtain⟨e1,e2,e3,e4,e5⟩:=hx;have hlen:=qil hm0 e2 e3;simp only[valid,aT,dT']at g1;have hsz:size x<=10:=by rw[q3y,e1];simp only[List.length_nil,sizes];omega
   have hdp:depth x=1:=by rw[q7y,e1];rfl
   refine⟨by simp only[q4v,i1,g2,Bool.and_self],by simp only[goods,i2,g1.2.2,Bool.and_self],by simp only[sizes,List.length_cons];omega,by simp only[q34];omega⟩
 obtain⟨b1,b2,b3,b4⟩:=hb;refine⟨qxd (by rw[q7y];show q34 l+1<=4;omega) (by rw[qo1];simp only[List.length_nil];omega) ?_,q7o (by simp) b1⟩;rw[qa1];simp only[aT,dT',b2,fresh,List.all_nil,and_true];exact⟨h1,by simpa using h2⟩
theorem qyi{m:Int}(hm:1<=m)(hm2:m<=10){l:LI}(a3:Int)(a6:LT)(a8 a17:Int)(a19:LI)(a21:LT)(i:Int):∀(n:Nat)(c:Int)(nodes:LI),m+3-c<=(n:Int)->0<=c->(∀k∈nodes,0<=k/\k<m/\k<c)->nodes.Pairwise (·<·)->∃q:LI,(∀k∈q,0<=k/\k<m)/\q.Pairwise (·<·)/\(c<m->q≠[])/\(nodes≠[]->q≠[])/\Le (bif(ltB 0 ((List.length q:Nat):Int))then Option.bind (z38 1 ((List.length q:Nat):Int) l i) fun x0=>capOk (List.length a6+List.length ([(Trust.mk x0.1 q [])]:List (Trust)))<|z58 m a3 (a6++([(Trust.mk x0.1 q [])]:List (Trust))) (addI .i64 a8 1) x0.2.1 x0.2.2 a17 a19 a21 else z58 m a3 a6 (addI .i64 a8 1) l i a17 a19 a21) (z7q m a3 a6 a8 c l i a17 a19 a21 1 nodes [])
 |0,c,nodes,hn,h0,hnd,hs=>by refine⟨nodes,fun k hk=>⟨(hnd k hk).1,(hnd k hk).2.1⟩,hs,fun hc=>by omega,id,fun r hr=>?_⟩;apply y29;rw[q02 (by omega)];simp only[cF];exact hr|n+1,c,nodes,hn,h0,hnd,hs=>by
  by_cases hc:c<m;·have hlen:=qil (by omega) (fun k hk=>⟨(hnd k hk).1,(hnd k hk).2.1⟩) hs;obtain⟨q,q1,q2,_,q4,q5⟩:=qyi hm hm2 a3 a6 a8 a17 a19 a21 i n (c+3) (nodes++[c]) (by omega) (by omega) (fun k hk=>by
    rcases List.mem_append.1 hk with hk|hk;·have:=hnd k hk;omega
    .rw[List.mem_singleton]at hk;omega) (qya hs fun x hx=>(hnd x hx).2.2);refine⟨q,q1,q2,fun _=>q4 (by simp),fun _=>q4 (by simp),fun r hr=>?_⟩;apply y29;rw[q0b hc,q0p (by simp[q0a];omega),q3r (by omega) (by omega)];simp only[cT];exact q5 r hr
  .refine⟨nodes,fun k hk=>⟨(hnd k hk).1,(hnd k hk).2.1⟩,hs,fun hc'=>absurd hc' hc,id,fun r hr=>?_⟩;apply y29;rw[q02 (by omega)];simp only[cF];exact hr
theorem qr9{m:Int}(hm:1<=m)(hm2:m<=10){l:LI}(k:Nat):∀(n:Nat)(g i:Int)(acc:LT),3-g=(n:Int)->0<=g->acc.length<=g.toNat->(1<=g->acc≠[])->(∀x∈acc,Flat m x)->q0r l i->∃t j,z58 m (k:Int) acc g l i 0 [] []=some (t,l,j)/\Good m t/\q0r l j
 |0,g,i,acc,hn,h0,hl,hne,hf,h=>by
  have hne:=hne (by omega);have hpos:0<acc.length:=List.length_pos_iff.2 hne;obtain⟨v,j,g1,g2,g3,g4⟩:=N_ok (n:=4) (by decide) (by decide) h;by_cases hv:v=0
  .have hidx:remI .i64 (k:Int) ((acc.length:Nat):Int)=((k%acc.length:Nat):Int):=by show(k:Int).tmod (acc.length:Int)=_;rw[Int.tmod_eq_emod_of_nonneg (by omega)];simp
   have hlt:k%acc.length<acc.length:=Nat.mod_lt _ hpos;refine⟨acc[k%acc.length],j,?_,(hf _ (List.getElem_mem hlt)).good (by omega) hm2,g4⟩;apply y3x;rw[q02 (by omega),g1];simp only[cF,bS,hv,q56,cT];rw[q13 (by omega),hidx,q37 (by omega) (show acc[((k%acc.length:Nat):Int).toNat]?=some acc[k%acc.length]by rw[tN];exact List.getElem?_eq_getElem hlt),q6l (show acc[((k%acc.length:Nat):Int).toNat]?=some acc[k%acc.length]by rw[tN];exact List.getElem?_eq_getElem hlt),Trust.eta]
  .have hg:g.toNat=3:=by omega
   obtain⟨b,j',b1,b2,b3,b4⟩:=q9t (a:=if(acc.length:Int)-1>1 then(acc.length:Int)-1 else 1) (b:=acc.length) (by split<;>omega) (by split<;>omega) (by omega) g4;refine⟨⟨b,[],acc⟩,j',?_,qzr (by omega) hm2 hf (by omega) (by split at b2<;>omega) b3,b4⟩;apply y3x;rw[q02 (by omega),g1];simp only[cF,bS,q7b hv];rw[qby (by omega) (by omega),b1];rfl|n+1,g,i,acc,hn,h0,hl,hne,hf,h=>by
  have base:∀(q:LI),(∀k∈q,0<=k/\k<m)->q.Pairwise (·<·)->(g<m->q≠[])->∃t j,(bif(ltB 0 ((List.length q:Nat):Int))then Option.bind (z38 1 ((List.length q:Nat):Int) l i) fun x0=>capOk (List.length acc+List.length ([(Trust.mk x0.1 q [])]:List (Trust)))<|z58 m (k:Int) (acc++([(Trust.mk x0.1 q [])]:List (Trust))) (addI .i64 g 1) x0.2.1 x0.2.2 0 [] []else z58 m (k:Int) acc (addI .i64 g 1) l i 0 [] [])=some (t,l,j)/\Good m t/\q0r l j:=by
   intro q hq hqs hqn;rw[q3r (by omega) (by omega)];by_cases hq0:q=[];·subst hq0;obtain⟨t,j,e1,e2,e3⟩:=qr9 hm hm2 k n (g+1) i acc (by omega) (by omega) (by omega) (fun _=>hne (by have:¬g<m:=fun h=>hqn h rfl;omega)) hf h;exact⟨t,j,by rw[show ltB 0 ((List.length ([]:LI):Nat):Int)=false from rfl];simpa only[cF]using e1,e2,e3⟩
   .have hlen:=qil (by omega) hq hqs;have hpos:0<q.length:=List.length_pos_iff.2 hq0;obtain⟨b,j',b1,b2,b3,b4⟩:=q9t (a:=1) (b:=q.length) (by omega) (by omega) (by omega) h;obtain⟨t,j,e1,e2,e3⟩:=qr9 hm hm2 k n (g+1) j' (acc++[⟨b,q,[]⟩]) (by omega) (by omega) (by simp;omega) (fun _=>by simp) (fun x hx=>by
     rcases List.mem_append.1 hx with hx|hx;·exact hf x hx
     .rw[List.mem_singleton]at hx;subst hx;exact⟨rfl,hq,hqs,b2,b3⟩) b4;refine⟨t,j,?_,e2,e3⟩;rw[q0b (by omega),b1];simp only[cT,bS];rw[q0p (by simp[q0a];omega)];exact e1
  obtain⟨q,q1,q2,q3,_,q5⟩:=qyi (l:=l) hm hm2 (k:Int) acc g 0 [] [] i (m+3-g).toNat g [] (by omega) h0 (by simp) (by simp);obtain⟨t,j,e1,e2,e3⟩:=base q q1 q2 q3;refine⟨t,j,?_,e2,e3⟩;apply y3x;rw[q0b (by omega)];simp only[cT];exact q5 _ e1
theorem y6h(hm:1<=m)(hm2:m<=10)(k:Nat)(h:q0r l i):∃t j,z8z m (k:Int) l i=some (t,l,j)/\Good m t/\q0r l j:=by obtain⟨t,j,g1,g2,g3⟩:=qr9 hm hm2 k 3 0 i [] rfl (by omega) (by simp) (by omega) (by simp) h;exact⟨t,j,yda _ _ _ _ _ g1,g2,g3⟩
def blank:Trust:=⟨0,[],[]⟩
def MemOk(m:Int)(x:Member):Prop:=if x.Declared then Good m x.Trust else x.Trust=blank
structure ConfOk(n:Nat)(c:Config):Prop where
 pos:1<=c.Members.length
 le:c.Members.length<=n
 mem:∀x∈c.Members,MemOk (c.Members.length:Int) x
theorem quw{m:Int}(hm:1<=m)(hm2:m<=10){l:LI}(kind:Int)(a13:LB):∀(n:Nat)(c:Nat)(i:Int)(acc:LB),m-c=(n:Int)->acc.length=c->(∀x∈acc,MemOk m x)->q0r l i->∃q j,z2x m kind (c:Int) l i a13 acc=some ((),(),l,j,q)/\((q.length:Nat):Int)=m/\(∀x∈q,MemOk m x)/\q0r l j
 |0,c,i,acc,hn,hl,hacc,h=>by refine⟨acc,i,?_,by omega,hacc,h⟩;apply qz0;rw[q02 (by omega)];rfl|n+1,c,i,acc,hn,hl,hacc,h=>by
  have rest:∀(x:Trust)(i1:Int),Good m x->q0r l i1->∃q j,(Option.bind (z3g 12 l i1) fun x1=>bif(eqB x1.1 11)then capOk (List.length acc+List.length ([(Member.mk false (Trust.mk 0 ([]:List (Int)) ([]:List (Trust))))]:List (Member)))<|z2x m kind (addI .i64 (c:Int) 1) x1.2.1 x1.2.2 a13 (acc++([(Member.mk false (Trust.mk 0 ([]:List (Int)) ([]:List (Trust))))]:List (Member)))else capOk (List.length acc+List.length ([(Member.mk true (Trust.mk x.Threshold x.Nodes x.Inner))]:List (Member)))<|z2x m kind (addI .i64 (c:Int) 1) x1.2.1 x1.2.2 a13 (acc++([(Member.mk true (Trust.mk x.Threshold x.Nodes x.Inner))]:List (Member))))=some ((),(),l,j,q)/\((q.length:Nat):Int)=m/\(∀x∈q,MemOk m x)/\q0r l j:=by
   intro x i1 hx h1;obtain⟨v,j,g1,g2,g3,g4⟩:=N_ok (n:=12) (by decide) (by decide) h1;have step:∀y:Member,MemOk m y->∃q j',z2x m kind (addI .i64 (c:Int) 1) l j a13 (acc++[y])=some ((),(),l,j',q)/\((q.length:Nat):Int)=m/\(∀x∈q,MemOk m x)/\q0r l j':=by
    intro y hy;rw[q0d (by omega)];refine quw hm hm2 kind a13 n (c+1) j (acc++[y]) (by omega) (by simp;omega) (fun z hz=>?_) g4;rcases List.mem_append.1 hz with hz|hz;·exact hacc z hz
    .rw[List.mem_singleton]at hz;subst hz;exact hy
   by_cases hv:v=11;·obtain⟨q,j',e1,e2⟩:=step ⟨false,blank⟩ rfl;refine⟨q,j',?_,e2⟩;rw[g1];simp only[bS,hv,q56,cT];rw[q0p (by simp[q0a];omega)];exact e1
   .obtain⟨q,j',e1,e2⟩:=step ⟨true,x⟩ hx;refine⟨q,j',?_,e2⟩;rw[g1];simp only[bS,q7b hv,cF,Trust.eta];rw[q0p (by simp[q0a];omega)];exact e1
  by_cases k0:kind=0;·obtain⟨x,j,g1,g2,_,g3⟩:=y6z hm hm2 1 (by decide) h;obtain⟨q,j',e1,e2⟩:=rest x j g2 g3;refine⟨q,j',?_,e2⟩;apply qz0;rw[q0b (by omega),show eqB kind 0=true by rw[k0];rfl];simp only[cT];rw[show(2:Int)=((1+1:Nat):Int)from rfl,g1];simp only[bS];exact e1
  .by_cases k1:kind=1;·obtain⟨x,j,g1,g2,g3⟩:=ya8 hm hm2 h;obtain⟨q,j',e1,e2⟩:=rest x j g2 g3;refine⟨q,j',?_,e2⟩;apply qz0;rw[q0b (by omega),q7b k0,show eqB kind 1=true by rw[k1];rfl,g1];simp only[cT,cF,bS];exact e1
   .obtain⟨x,j,g1,g2,g3⟩:=y6h hm hm2 c h;obtain⟨q,j',e1,e2⟩:=rest x j g2 g3;refine⟨q,j',?_,e2⟩;apply qz0;rw[q0b (by omega),q7b k0,q7b k1,g1];simp only[cT,cF,bS];exact e1
theorem y3v{n:Nat}(h1:1<=n)(h2:n<=10)(h:q0r l i):∃c j,z8x (n:Int) l i=some ((),(),l,j,c.Members)/\ConfOk n c/\q0r l j:=by obtain⟨m,j,a1,a2,a3,a4⟩:=q9t (a:=1) (b:=(n:Int)) (by omega) (by omega) (by omega) h;obtain⟨kind,j1,b1,_,_,b4⟩:=N_ok (n:=3) (by decide) (by decide) a4;obtain⟨q,j2,c1,c2,c3,c4⟩:=quw (l:=l) a2 (by omega) kind [] m.toNat 0 j1 [] (by omega) rfl (by simp) b4;refine⟨⟨q⟩,j2,?_,⟨by show 1<=q.length;omega,by show q.length<=n;omega,fun x hx=>by show MemOk ((q.length:Nat):Int) x;rw[c2];exact c3 x hx⟩,c4⟩;apply yas;rw[a1];simp only[bS];rw[b1];exact c1
variable {a b i k s z : Nat}
theorem ydl{n:Int}(h0:0<=n)(h1:n<=10):(2^n.toNat:Nat)<=1024:=by
 have:n.toNat<=10:=by omega
 exact Nat.pow_le_pow_right (n:=2) (by decide) this
theorem qnp(s z:Nat)(k:Int):has (z|||s) k=(has z k||has s k):=by simp only[has,Nat.testBit_or];cases decide (0<=k)<;>cases decide (k<10)<;>simp
theorem y5o(h:∀k,has s k=true->has z k=true)(l:LI):cnt s l<=cnt z l:=List.countP_mono_left (fun k _ hk=>h k hk)
theorem qyk(h:∀k,has s k=true->has z k=true):∀t:Trust,sat s t=true->sat z t=true:=by
 apply Trust.ind;intro t ih hs;have hin:∀l:LT,(∀x∈l,sat s x=true->sat z x=true)->sats s l<=sats z l:=by intro l;induction l with|nil=>intro _;exact Nat.le_refl _|cons y r ihr=>intro h';have h1:=ihr (fun x hx=>h' x (by simp[hx]));have h2:=h' y (by simp);simp only[sats];cases hy:sat s y with|true=>simp only[h2 hy,if_true];omega|false=>simp only[fT,if_false];omega
 rw[qbv,dT']at hs⊢;have:=hin t.Inner ih;have:=y5o h t.Nodes;omega
def usesN:LI->Nat|[]=>0|k::r=>(if inR k then bit k else 0)|||usesN r
mutual
def uses : Trust -> Nat
 | ⟨_, nodes, inner⟩ => usesN nodes ||| usesL inner
def usesL : LT -> Nat
 | [] => 0
 | x :: r => uses x ||| usesL r
end
theorem qbp(t:Trust):uses t=usesN t.Nodes|||usesL t.Inner:=by cases t;simp only[uses]
theorem qrf:∀l,usesN l<1024
 |[]=>by simp[usesN]|k::r=>by
  simp only[usesN];refine Nat.or_lt_two_pow (n:=10) ?_ (qrf r);split;·exact qz9 (by assumption)
  .decide
theorem y2j:∀t:Trust,uses t<1024:=by
 apply Trust.ind;intro t ih;rw[qbp];refine Nat.or_lt_two_pow (n:=10) (qrf _) ?_;have:∀l:LT,(∀x∈l,uses x<1024)->usesL l<2^10:=by intro l;induction l with|nil=>intro _;simp[usesL]|cons y r ihr=>intro h;simp only[usesL];exact Nat.or_lt_two_pow (h y (by simp)) (ihr (fun x hx=>h x (by simp[hx])))
 exact this t.Inner ih
def q0w(s:Nat):Nat->Nat->List Nat|0,_=>[]|n+1,i=>if s.testBit i then i::q0w s n (i+1)else q0w s n (i+1)
def nodes(s:Nat):List Nat:=q0w s 10 0
theorem qan{s k:Nat}:∀{n i:Nat},k∈q0w s n i↔s.testBit k=true/\i<=k/\k<i+n
 |0,i=>by simp only[q0w,List.not_mem_nil,false_iff];omega|n+1,i=>by
  simp only[q0w];split
  .rename_i h;rw[List.mem_cons,qan];constructor
   .rintro(rfl|⟨h1,h2,h3⟩);·exact⟨h,by omega,by omega⟩
    .exact⟨h1,by omega,by omega⟩
   .rintro⟨h1,h2,h3⟩;by_cases e:k=i;·exact .inl e
    .exact .inr ⟨h1,by omega,by omega⟩
  .rename_i h;rw[qan];constructor;·rintro⟨h1,h2,h3⟩;exact⟨h1,by omega,by omega⟩
   .rintro⟨h1,h2,h3⟩;refine⟨h1,?_,by omega⟩;have:k≠i:=by rintro rfl;exact h h1
    omega
theorem q8x:k∈nodes s↔s.testBit k=true/\k<10:=by unfold nodes;rw[qan];simp
theorem qg3(s:Nat):∀n i,(q0w s n i).length<=n|0,_=>by simp[q0w]|n+1,i=>by simp only[q0w];have:=qg3 s n (i+1);split<;>simp<;>omega
theorem qss(s:Nat):(nodes s).length<=10:=qg3 s 10 0
theorem qbx(h:k<10):has s (k:Int)=s.testBit k:=by simp only[has,tN];rw[decide_eq_true (show(0:Int)<=(k:Int)by omega),decide_eq_true (show(k:Int)<10 by omega)];simp
def q3s:Nat->LB->Nat|_,[]=>0|k,m::r=>(if decide (k<10)&&m.Declared then 2^k else 0)|||q3s (k+1) r
def decl(c:Config):Nat:=q3s 0 c.Members
theorem qb1:∀(l:LB)(k i:Nat),(q3s k l).testBit i=true↔k<=i/\i<10/\∃m,l[i-k]?=some m/\m.Declared=true
 |[],k,i=>by simp[q3s]|m::r,k,i=>by
  simp only[q3s,Nat.testBit_or,Bool.or_eq_true];rw[qb1 r (k+1) i];constructor
  .rintro(h|⟨h1,h2,m',h3,h4⟩)
   .split at h;·rename_i hc;simp only[aT,dT']at hc;rw[Nat.testBit_two_pow,dT']at h;subst h;exact⟨Nat.le_refl _,hc.1,m,by simp,hc.2⟩
    .simp at h
   .refine⟨by omega,h2,m',?_,h4⟩;rw[show i-k=(i-(k+1))+1 by omega];simpa using h3
  .rintro⟨h1,h2,m',h3,h4⟩;by_cases e:i=k;·subst e;simp at h3;subst h3;left;simp[h4,h2]
   .right;refine⟨by omega,h2,m',?_,h4⟩;rw[show i-k=(i-(k+1))+1 by omega]at h3;simpa using h3
theorem q5v{c:Config}:(decl c).testBit i=true↔i<10/\∃m,c.Members[i]?=some m/\m.Declared=true:=by unfold decl;rw[qb1];simp
theorem qm3:∀(l:LB)(k:Nat),q3s k l<1024
 |[],_=>by simp[q3s]|m::r,k=>by
  simp only[q3s];refine Nat.or_lt_two_pow (n:=10) ?_ (qm3 r (k+1));split;·rename_i h;simp only[aT,dT']at h;exact Nat.pow_lt_pow_right (by decide) h.1
  .decide
theorem qlw(c:Config):decl c<1024:=qm3 _ _
theorem qag(l a8:LB)(hl:l.length<1152921504606846976):∀(suf:LB)(i s:Nat),l.drop i=suf->s<1024->z4c (s:Int) l ((l.length:Nat):Int) (i:Int) a8=some ((s|||q3s i suf:Nat):Int)
 |[],i,s,h,hs=>by apply y7g;simp only[q1h h,cF,q3s,Nat.or_zero]|m::suf,i,s,h,hs=>by
  have hlt:=q1b h;apply y7g;simp only[q0l h,cT,q0k h,q0d (show i<4611686018427387904 by omega),q3s];by_cases hi:i<10;·have hp:2^i<1024:=Nat.pow_lt_pow_right (a:=2) (by decide) hi;rw[q0b (by omega)];cases hd:m.Declared with|true=>simp only[cT];rw[q13 (by omega),shl1 (by omega) (by omega),tN,qam (by omega) (by omega),qag l a8 hl suf (i+1) _ (q0g h) (Nat.or_lt_two_pow (n:=10) hs hp)];simp only[decide_eq_true hi,Bool.and_self,if_true,Nat.or_assoc]|false=>simp only[cT,cF];rw[qag l a8 hl suf (i+1) _ (q0g h) hs];simp
  .rw[q02 (by omega)];simp only[cF];rw[qag l a8 hl suf (i+1) _ (q0g h) hs];simp[hi]
theorem qv9(c:Config)(h:c.Members.length<1152921504606846976):z8b c=some ((decl c:Nat):Int):=by apply yau;rw[show(0:Int)=((0:Nat):Int)from rfl,qag c.Members c.Members h c.Members 0 0 rfl (by decide),Nat.zero_or];rfl
def tr(c:Config)(k:Nat):Trust:=((c.Members[k]?).map (·.Trust)).getD blank
def Sub(a b:Nat):Prop:=∀i,a.testBit i=true->b.testBit i=true
theorem Sub.refl(a:Nat):Sub a a:=fun _ h=>h
theorem Sub.trans{c:Nat}(h:Sub a b)(h':Sub b c):Sub a c:=fun i hi=>h' i (h i hi)
theorem Sub.antisymm(h:Sub a b)(h':Sub b a):a=b:=by apply Nat.eq_of_testBit_eq;intro i;have h1:=h i;have h2:=h' i;cases h3:a.testBit i<;>cases h4:b.testBit i<;>simp_all
theorem qww:Sub a b↔a&&&b=a:=by
 constructor;·intro h;apply Nat.eq_of_testBit_eq;intro i;rw[Nat.testBit_and];have:=h i;cases h3:a.testBit i<;>simp_all
 .intro h i hi;rw[<-h,Nat.testBit_and]at hi;simp only[aT]at hi;exact hi.2
theorem Sub.and_left(a b:Nat):Sub (a&&&b) a:=fun i h=>by rw[Nat.testBit_and,aT]at h;exact h.1
theorem Sub.and_right(a b:Nat):Sub (a&&&b) b:=fun i h=>by rw[Nat.testBit_and,aT]at h;exact h.2
theorem Sub.lt(h:Sub a b)(hb:b<1024):a<1024:=by rw[qww]at h;rw[<-h];exact Nat.lt_of_le_of_lt Nat.and_le_right hb
theorem qx6(h:Sub a b):∀k:Int,has a k=true->has b k=true:=by intro k hk;simp only[has,aT]at hk⊢;exact⟨hk.1,hk.2.1,h _ hk.2.2⟩
theorem qcf(hs:s<1024)(h:s.testBit i=true):i<10:=by apply Classical.byContradiction;intro hn;have:s.testBit i=false:=Nat.testBit_lt_two_pow (Nat.lt_of_lt_of_le hs (Nat.pow_le_pow_right (n:=2) (by decide) (show 10<=i by omega)));rw[this]at h;cases h
theorem y64(h:s≠0):∃i,s.testBit i=true:=Nat.exists_testBit_of_ne_zero h
end Go.Proofs.YtklhcnnpgkkjcaaGreatDoor
namespace Go.Proofs.YtklhcnnpgkkjcaaGreatDoor
open Go Go.Ab
end Go.Proofs.YtklhcnnpgkkjcaaGreatDoor
namespace Go.Proofs.YtklhcnnpgkkjcaaGreatDoor
open Go Go.Ab
variable {s : Nat}
theorem q9w{s:Nat}(hs:s<1024)(xs:LI)(hl:xs.length<1152921504606846976)(a11:Int)(a13:LI)(a15:LT):∀(suf:LI)(i c:Nat),xs.drop i=suf->c<=i->Le (z0n s ((c+cnt s suf:Nat):Int) a15 ((a15.length:Nat):Int) 0 a11 a13 a15) (z0r s (c:Int) xs ((xs.length:Nat):Int) (i:Int) a11 a13 a15)|[],i,c,h,hc=>fun r hr=>by apply y4u;simp only[q1h h,cF];exact hr|y::suf,i,c,h,hc=>fun r hr=>by apply y4u;have hlt:=q1b h;simp only[q0l h,cT,q0k h,q3o hs,bS,q0d (show i<4611686018427387904 by omega),q0d (show c<4611686018427387904 by omega)];cases hy:has s y with|true=>simp only[cT];refine q9w hs xs hl a11 a13 a15 suf (i+1) (c+1) (q0g h) (by omega) r ?_;rw[<-hr];congr 2;simp only[cnt,List.countP_cons,hy,if_true];omega|false=>simp only[cF];refine q9w hs xs hl a11 a13 a15 suf (i+1) c (q0g h) (by omega) r ?_;rw[<-hr];congr 2;simp only[cnt,List.countP_cons,hy];rfl
theorem q6j(hs:s<1024):∀t:Trust,Small t->z0z t s=some (sat s t):=by
 apply Trust.ind;intro t ih ht;have hn:=ht.nodes;have hi:=ht.inner;have l2:∀(suf:LT)(i c:Nat),t.Inner.drop i=suf->c<=t.Nodes.length+i->z0n s (c:Int) t.Inner ((t.Inner.length:Nat):Int) (i:Int) t.Threshold t.Nodes t.Inner=some (decide (t.Threshold<=((c+sats s suf:Nat):Int))):=by intro suf;induction suf with|nil=>intro i c h hc;apply y22;simp only[q1h h,cF,sats,Nat.add_zero];rfl|cons y suf ihs=>
   intro i c h hc;apply y22;have hlt:=q1b h;have hy:y∈t.Inner:=by
    have:y∈t.Inner.drop i:=by rw[h];exact List.mem_cons_self
    exact List.mem_of_mem_drop this
   simp only[q0l h,cT,q0k h,ih y hy (ht.mem hy),bS,q0d (show i<4611686018427387904 by omega),q0d (show c<4611686018427387904 by omega)];cases hsy:sat s y with|true=>simp only[cT];rw[ihs (i+1) (c+1) (q0g h) (by omega)];simp only[sats,hsy,if_true];congr 3;omega|false=>simp only[cF];rw[ihs (i+1) c (q0g h) (by omega)];simp only[sats,hsy,fT,if_false,Nat.zero_add]
 apply y8v;simp only[q67 hs,bS,nT,cF];apply q9w hs t.Nodes (by omega) t.Threshold t.Nodes t.Inner t.Nodes 0 0 rfl (Nat.le_refl _);rw[show(0:Int)=((0:Nat):Int)from rfl,l2 t.Inner 0 _ rfl (by have:cnt s t.Nodes<=t.Nodes.length:=List.countP_le_length;omega)];rw[qbv,Nat.zero_add]
theorem y6m:∀t:Trust,Small t->z2l t=some ((size t:Nat):Int):=by
 apply Trust.ind;intro t ih ht;have hn:=ht.nodes;have hi:=ht.inner;have hs:size t<1152921504606846976:=ht;have l1:∀(suf:LT)(i c:Nat),t.Inner.drop i=suf->c+sizes suf=size t->z1m (c:Int) t.Inner ((t.Inner.length:Nat):Int) (i:Int) t.Threshold t.Nodes t.Inner=some ((size t:Nat):Int):=by intro suf;induction suf with|nil=>intro i c h hc;apply y4x;simp only[q1h h,cF];simp only[sizes,Nat.add_zero]at hc;rw[hc]|cons y suf ihs=>intro i c h hc;apply y4x;have hlt:=q1b h;have hy:y∈t.Inner:=List.mem_of_mem_drop (by rw[h];exact List.mem_cons_self);simp only[sizes]at hc;simp only[q0l h,cT,q0k h,ih y hy (ht.mem hy),bS,q0d (show i<4611686018427387904 by omega)];rw[q3r (by omega) (by omega)];exact ihs (i+1) (c+size y) (q0g h) (by omega)
 apply y87;rw[q3r (by omega) (by omega)];have h1:=q3y t;exact l1 t.Inner 0 (t.Nodes.length+t.Inner.length) rfl (by omega)
theorem y36:∀t:Trust,Small t->z2c t=some ((depth t:Nat):Int):=by
 apply Trust.ind;intro t ih ht;have hi:=ht.inner;have hd:=qa3 t;have hs:size t<1152921504606846976:=ht;have l1:∀(suf:LT)(i c:Nat),t.Inner.drop i=suf->max c (q34 suf)=q34 t.Inner->z1g (c:Int) t.Inner ((t.Inner.length:Nat):Int) (i:Int) t.Threshold t.Nodes t.Inner=some ((depth t:Nat):Int):=by intro suf;induction suf with|nil=>intro i c h hc;apply y4b;simp only[q1h h,cF];simp only[q34,Nat.max_zero]at hc;rw[q7y]at hd⊢;rw[hc,q0d (by omega)]|cons y suf ihs=>
   intro i c h hc;apply y4b;have hlt:=q1b h;have hy:y∈t.Inner:=List.mem_of_mem_drop (by rw[h];exact List.mem_cons_self);simp only[q34]at hc;simp only[q0l h,cT,q0k h,ih y hy (ht.mem hy),bS,q0d (show i<4611686018427387904 by omega)];have:(if((depth y:Nat):Int)>(c:Int)then((depth y:Nat):Int)else(c:Int))=((max c (depth y):Nat):Int):=by split<;>omega
   rw[this];exact ihs (i+1) (max c (depth y)) (q0g h) (by omega)
 apply y8o;exact l1 t.Inner 0 0 rfl (by omega)
theorem qn0{s:Nat}(hs:s<1024):∀(n i:Nat)(acc:LI),i+n=10->acc.length<=i->z1e (s:Int) acc (i:Int)=some (acc++(q0w s n i).map Int.ofNat)|0,i,acc,h,ha=>by apply y44;rw[q02 (by omega)];simp[q0w]|n+1,i,acc,h,ha=>by apply y44;rw[q0b (by omega)];simp only[cT,q3o hs,bS,qbx (show i<10 by omega),q0d (show i<4611686018427387904 by omega),q0w];cases hb:s.testBit i with|true=>simp only[cT,if_true];rw[q0p (by simp[q0a];omega),qn0 hs n (i+1) _ (by omega) (by simp;omega)];simp|false=>simp only[cF,fT,if_false];rw[qn0 hs n (i+1) _ (by omega) (by omega)]
theorem qtt(hs:s<1024):z3a (s:Int)=some ((nodes s).map Int.ofNat):=by apply y7i;rw[show(0:Int)=((0:Nat):Int)from rfl,qn0 hs 10 0 [] rfl (by simp)];rfl
theorem q7x(l a8:LB)(hl:l.length<1152921504606846976):∀(suf:LB)(i s:Nat),l.drop i=suf->s<1024->z08 (s:Int) l ((l.length:Nat):Int) (i:Int) a8=some ((s|||q3s i suf:Nat):Int)
 |[],i,s,h,hs=>by apply y2t;simp only[q1h h,cF,q3s,Nat.or_zero]|m::suf,i,s,h,hs=>by
  have hlt:=q1b h;apply y2t;simp only[q0l h,cT,q0k h,q0d (show i<4611686018427387904 by omega),q3s];by_cases hi:i<10;·have hp:2^i<1024:=Nat.pow_lt_pow_right (a:=2) (by decide) hi;rw[q0b (by omega)];cases hd:m.Declared with|true=>simp only[cT];rw[q13 (by omega),shl1 (by omega) (by omega),tN,qam (by omega) (by omega),q7x l a8 hl suf (i+1) _ (q0g h) (Nat.or_lt_two_pow (n:=10) hs hp)];simp only[decide_eq_true hi,Bool.and_self,if_true,Nat.or_assoc]|false=>simp only[cT,cF];rw[q7x l a8 hl suf (i+1) _ (q0g h) hs];simp
  .rw[q02 (by omega)];simp only[cF];rw[q7x l a8 hl suf (i+1) _ (q0g h) hs];simp[hi]
theorem q7q(c:Config)(h:c.Members.length<1152921504606846976):z0m c=some ((decl c:Nat):Int):=by apply y8s;rw[show(0:Int)=((0:Nat):Int)from rfl,q7x c.Members c.Members h c.Members 0 0 rfl (by decide),Nat.zero_or];rfl
theorem qxc(k:Int):z2m k=some (inR k):=by
 apply y8f;unfold inR;by_cases h0:0<=k
 .by_cases h1:k<10;·simp[q26 h0,q0b h1,h0,h1]
  .simp[q26 h0,q02 (Int.not_lt.1 h1),h0,h1]
 .simp[q3c (Int.not_le.1 h0),h0]
theorem qqi(xs:LI)(hl:xs.length<1152921504606846976)(a9:Int)(a11:LI)(a13:LT):∀(suf:LI)(i c:Nat),xs.drop i=suf->c<1024->Le (z1i ((c|||usesN suf:Nat):Int) a13 ((a13.length:Nat):Int) 0 a9 a11 a13) (z1a (c:Int) xs ((xs.length:Nat):Int) (i:Int) a9 a11 a13)|[],i,c,h,hc=>fun r hr=>by apply y2l;simp only[q1h h,cF];simpa[usesN]using hr|y::suf,i,c,h,hc=>fun r hr=>by have hlt:=q1b h;apply y2l;simp only[q0l h,cT,q0k h,q0d (show i<4611686018427387904 by omega),qxc,bS];cases hy:inR y with|true=>have hy':=hy;simp only[inR,aT,dT']at hy';have hb:=qz9 hy;simp only[cT,q13 hy'.1,qx8 hy,qam (show c<2^62 by omega) (show bit y<2^62 by omega)];refine qqi xs hl a9 a11 a13 suf (i+1) (c|||bit y) (q0g h) (Nat.or_lt_two_pow (n:=10) hc hb) r ?_;rw[<-hr];congr 2;simp only[usesN,hy,if_true,Nat.or_assoc]|false=>simp only[cF];refine qqi xs hl a9 a11 a13 suf (i+1) c (q0g h) hc r ?_;rw[<-hr];congr 2;simp[usesN,hy]
theorem y74:∀t:Trust,Small t->z1y t=some ((uses t:Nat):Int):=by
 apply Trust.ind;intro t ih ht;have hn:=ht.nodes;have hi:=ht.inner;have l2:∀(suf:LT)(i c:Nat),t.Inner.drop i=suf->c<1024->z1i (c:Int) t.Inner ((t.Inner.length:Nat):Int) (i:Int) t.Threshold t.Nodes t.Inner=some ((c|||usesL suf:Nat):Int):=by intro suf;induction suf with|nil=>intro i c h hc;apply y1p;simp only[q1h h,cF,usesL,Nat.or_zero]|cons y suf ihs=>intro i c h hc;have hlt:=q1b h;have hy:y∈t.Inner:=List.mem_of_mem_drop (by rw[h];exact List.mem_cons_self);have hu:=y2j y;apply y1p;simp only[q0l h,cT,q0k h,ih y hy (ht.mem hy),bS,q0d (show i<4611686018427387904 by omega),qam (show c<2^62 by omega) (show uses y<2^62 by omega)];rw[ihs (i+1) (c|||uses y) (q0g h) (Nat.or_lt_two_pow (n:=10) hc hu)];simp only[usesL,Nat.or_assoc]
 apply y7x;refine qqi t.Nodes (by omega) _ _ _ t.Nodes 0 0 rfl (by decide) _ ?_;rw[show(0:Int)=((0:Nat):Int)from rfl,l2 t.Inner 0 _ rfl (Nat.or_lt_two_pow (n:=10) (by decide) (qrf _)),Nat.zero_or,qbp]
variable {k n s : Nat} {c : Config}
def q30(c:Config)(s:Nat):Prop:=s≠0/\Sub s (decl c)/\∀k,s.testBit k=true->sat s (tr c k)=true
def q23(c:Config):Prop:=c.Members.length<1152921504606846976/\∀m∈c.Members,Small m.Trust
theorem qfg{t:Trust}(h:valid t=true):Small t:=by simp only[valid,aT,dT']at h;unfold Small;omega
theorem ConfOk.smallC(h:ConfOk n c)(hn:n<=10):q23 c:=by
 refine⟨by have:=h.le;omega,fun m hm=>?_⟩;have:=h.mem m hm;unfold MemOk at this;split at this;·exact qfg this.1
 .rw[this];unfold Small;simp[blank,size,sizes]
theorem ConfOk.good(h:ConfOk n c):∀m∈c.Members,m.Declared=true->Good (c.Members.length:Int) m.Trust:=fun m hm hd=>by have:=h.mem m hm;unfold MemOk at this;rwa [if_pos hd]at this
theorem qg4(h:(decl c).testBit k=true):∃m,c.Members[k]?=some m/\tr c k=m.Trust/\m.Declared=true:=by obtain⟨_,m,h1,h2⟩:=q5v.1 h;exact⟨m,h1,by simp[tr,h1],h2⟩
theorem q7g(h:s.testBit k=true)(i:Nat):(s-2^k).testBit i=(s.testBit i&&decide (i≠k)):=by
 have hp:=Nat.two_pow_pos k;have hodd:s/2^k%2=1:=by have:=h;rw[Nat.testBit_eq_decide_div_mod_eq,dT']at this;exact this
 have hr:s%2^k<2^k:=Nat.mod_lt _ hp;have e0:s=2^k*(2*(s/2^k/2)+1)+s%2^k:=by
  have e1:2*(s/2^k/2)+1=s/2^k:=by omega
  rw[e1];exact(Nat.div_add_mod s (2^k)).symm
 generalize s/2^k/2=q at e0;generalize s%2^k=r at e0 hr;have e2:s-2^k=2^k*(2*q)+r:=by rw[Nat.mul_add]at e0;omega
 rw[e2,e0,Nat.testBit_two_pow_mul_add _ hr,Nat.testBit_two_pow_mul_add _ hr];by_cases h1:i<k
 .have:i≠k:=by omega
  simp[h1,this]
 .rw[if_neg h1,if_neg h1];by_cases h2:i=k;·subst h2;simp[Nat.testBit_zero]
  .obtain⟨d,hd⟩:∃d,i-k=d+1:=⟨i-k-1,by omega⟩;rw[hd,Nat.testBit_succ,Nat.testBit_succ,show 2*q/2=q by omega,show(2*q+1)/2=q by omega];simp[h2]
def q9y(c:Config)(s:Nat):Option Nat:=(nodes s).find? fun k=>!sat s (tr c k)
def elim(c:Config):Nat->Nat->List Nat×Nat|0,s=>([],s)|n+1,s=>match q9y c s with|none=>([],s)|some k=>(k::(elim c n (s-2^k)).1,(elim c n (s-2^k)).2)
def q18(c:Config)(s:Nat):Nat:=(elim c 1024 (s&&&decl c)).2
theorem qjx(h:q9y c s=some k):s.testBit k=true/\k<10/\sat s (tr c k)=false:=by unfold q9y at h;have h1:=List.find?_some h;have h2:=q8x.1 (List.mem_of_find?_eq_some h);exact⟨h2.1,h2.2,by simpa using h1⟩
theorem qu0(hs:s<1024)(h:q9y c s=none):∀k,s.testBit k=true->sat s (tr c k)=true:=by intro k hk;unfold q9y at h;have:=List.find?_eq_none.1 h k (q8x.2 ⟨hk,qcf hs hk⟩);simpa using this
theorem y1n(h:s.testBit k=true):s-2^k<s/\Sub (s-2^k) s:=by have h1:2^k<=s:=Nat.ge_two_pow_of_testBit h;have:=Nat.two_pow_pos k;refine⟨by omega,fun i hi=>?_⟩;rw[q7g h]at hi;simp only[aT]at hi;exact hi.1
theorem qd0(c:Config):∀(n s:Nat),s<n->s<1024->Sub (elim c n s).2 s/\q9y c (elim c n s).2=none/\(∀q,Sub q s->(∀k,q.testBit k=true->sat q (tr c k)=true)->Sub q (elim c n s).2)|0,s,h,_=>by omega|n+1,s,h,hs=>by simp only[elim];cases hu:q9y c s with|none=>exact⟨Sub.refl s,hu,fun q hq _=>hq⟩|some k=>
   obtain⟨h1,h2,h3⟩:=qjx hu;obtain⟨h4,h5⟩:=y1n h1;obtain⟨i1,i2,i3⟩:=qd0 c n (s-2^k) (by omega) (by omega);refine⟨i1.trans h5,i2,fun q hq hsat=>i3 q (fun i hi=>?_) hsat⟩;rw[q7g h1,hq i hi];have:i≠k:=by rintro rfl;have:=qyk (qx6 hq) _ (hsat i hi);rw[h3]at this;cases this
   simp[this]
theorem q4p(c:Config)(hs:s<1024):Sub (q18 c s) (s&&&decl c):=by have hlt:s&&&decl c<1024:=Nat.lt_of_le_of_lt Nat.and_le_left hs;exact(qd0 c 1024 _ hlt hlt).1
theorem qwo(c:Config)(hs:s<1024):q18 c s<1024:=((q4p c hs).trans (Sub.and_left _ _)).lt hs
theorem q72(c:Config)(hs:s<1024)(h0:q18 c s≠0):q30 c (q18 c s):=by have hlt:s&&&decl c<1024:=Nat.lt_of_le_of_lt Nat.and_le_left hs;exact⟨h0,(q4p c hs).trans (Sub.and_right _ _),qu0 (qwo c hs) (qd0 c 1024 _ hlt hlt).2.1⟩
theorem qca(c:Config)(hs:s<1024){q:Nat}(hq:q30 c q)(h:Sub q s):Sub q (q18 c s):=by have hlt:s&&&decl c<1024:=Nat.lt_of_le_of_lt Nat.and_le_left hs;refine(qd0 c 1024 _ hlt hlt).2.2 q (fun i hi=>?_) hq.2.2;rw[Nat.testBit_and,h i hi,hq.2.1 i hi];rfl
theorem y6d{a b:Nat}(h:b<=a)(ha:a<4611686018427387904):subI .i64 (a:Int) ((b:Nat):Int)=((a-b:Nat):Int):=by rw[qby (by omega) (by omega)];omega
variable {t : Go.Proofs.YtklhcnnpgkkjcaaGreatDoor.Trust} {c : Config} {n : Nat}
def ofE(s:Nat):LI->Int|[]=>0|k::r=>if inR k=true then(if has s k=true then 6 else ofE (s|||bit k) r)else 5
theorem qu8:∀(l:LI)(s:Nat),ofE s l=0↔fresh s l=true|[],s=>by simp[ofE,fresh]|k::r,s=>by have:=qu8 r (s|||bit k);by_cases h1:inR k=true<;>by_cases h2:has s k=true<;>simp[ofE,fresh,h1,h2,this]
theorem y2n{y:Int}(h:¬inR y=true):¬(0<=y/\y<10):=by simpa[inR]using h
theorem y2x(xs:LI)(hl:xs.length<1152921504606846976):∀(suf:LI)(i s:Nat),xs.drop i=suf->s<1024->∃v,z2a (s:Int) xs ((xs.length:Nat):Int) (i:Int)=some (v,ofE s suf)
 |[],i,s,h,hs=>⟨s,by apply qto;simp only[q1h h,cF,ofE]⟩|y::suf,i,s,h,hs=>by
  have hlt:=q1b h;by_cases hy:inR y=true;·have hy':=hy;simp only[inR,aT,dT']at hy';cases hh:has s y with|true=>refine⟨0,?_⟩;apply qto;simp only[q0l h,cT,q0k h,q02 hy'.1,q3c hy'.2,cF,q3o hs,hh,bS,ofE,hy,if_true]|false=>have hb:=qz9 hy;obtain⟨v,h1⟩:=y2x xs hl suf (i+1) (s|||bit y) (q0g h) (Nat.or_lt_two_pow (n:=10) hs hb);refine⟨v,?_⟩;apply qto;simp only[q0l h,cT,q0k h,q02 hy'.1,q3c hy'.2,cF,q3o hs,hh,bS,q13 hy'.1,qx8 hy,qam (show s<2^62 by omega) (show bit y<2^62 by omega),q0d (show i<4611686018427387904 by omega),ofE,hy,if_true];exact h1
  .have hn:=y2n hy;refine⟨0,?_⟩;apply qto;simp only[q0l h,cT,q0k h,ofE,hy];by_cases h0:y<0;·simp only[q0b h0,cT];rfl
   .simp only[q02 (Int.not_lt.1 h0),cF,q26 (show 10<=y by omega),cT];rfl
theorem ya2(xs:LI)(hl:xs.length<1152921504606846976):∃v,z5n xs=some (v,ofE 0 xs):=by obtain⟨v,h1⟩:=y2x xs hl xs 0 0 rfl (by decide);exact⟨v,y8b _ _ h1⟩
mutual
def lev : Trust -> Int
 | ⟨thr, nodes, inner⟩ => if 1 <= thr /\ thr <= ((nodes.length + inner.length : Nat) : Int) then (if nodes.all inR = true then (if ofE 0 nodes = 0 then levs inner else ofE 0 nodes) else 5) else 4
def levs : LT -> Int
 | [] => 0
 | x :: r => if lev x = 0 then levs r else lev x
end
theorem y7l(t:Trust):lev t=if 1<=t.Threshold/\t.Threshold<=((t.Nodes.length+t.Inner.length:Nat):Int)then(if t.Nodes.all inR=true then(if ofE 0 t.Nodes=0 then levs t.Inner else ofE 0 t.Nodes)else 5)else 4:=by cases t;simp only[lev]
theorem y6u:∀t:Trust,lev t=0↔good t=true:=by
 apply Trust.ind;intro t ih;have hi:∀l:LT,(∀x∈l,(lev x=0↔good x=true))->(levs l=0↔goods l=true):=by intro l;induction l with|nil=>intro _;simp[levs,goods]|cons y r ihr=>
   intro h;have h1:=h y (by simp);have h2:=ihr fun x hx=>h x (by simp[hx]);by_cases hy:lev y=0;·simp[levs,goods,hy,h1.1 hy,h2]
   .have:good y=false:=by cases hg:good y with|true=>exact absurd (h1.2 hg) hy|false=>rfl
    simp[levs,goods,hy,this]
 have hin:=hi t.Inner ih;have hf:=qu8 t.Nodes 0;rw[y7l,qa1];by_cases h1:1<=t.Threshold<;>by_cases h2:t.Threshold<=((t.Nodes.length+t.Inner.length:Nat):Int)
 .rw[if_pos ⟨h1,h2⟩,decide_eq_true h1,decide_eq_true h2];by_cases h3:t.Nodes.all inR=true
  .rw[if_pos h3,h3];by_cases h4:ofE 0 t.Nodes=0;·rw[if_pos h4,hf.1 h4,hin];simp
   .rw[if_neg h4];have:fresh 0 t.Nodes=false:=by cases hg:fresh 0 t.Nodes with|true=>exact absurd (hf.2 hg) h4|false=>rfl
    simp[this,h4]
  .rw[if_neg h3];have h3':t.Nodes.all inR=false:=by simpa using h3
   simp[h3']
 .rw[if_neg (fun h=>h2 h.2),decide_eq_false h2];simp
 .rw[if_neg (fun h=>h1 h.1),decide_eq_false h1];simp
 .rw[if_neg (fun h=>h1 h.1),decide_eq_false h1];simp
theorem qyw(xs:LI)(hl:xs.length<1152921504606846976):∀(suf:LI)(i:Nat),xs.drop i=suf->∃k:Int,z00 xs ((xs.length:Nat):Int) (i:Int)=some k/\Ab.leB 0 k=!(suf.all inR)
 |[],i,h=>by refine⟨-1,?_,rfl⟩;apply qyq;rw[q1h h];rfl|y::suf,i,h=>by
  have hlt:=q1b h;have h1:z2n y=some (!inR y):=by apply y89;rw[qxc];rfl
  cases hy:inR y with|true=>obtain⟨k,g1,g2⟩:=qyw xs hl suf (i+1) (q0g h);refine⟨k,?_,by simpa[hy]using g2⟩;apply qyq;simp only[q0l h,cT,q0k h,h1,bS,hy,nT,cF,q0d (show i<4611686018427387904 by omega)];exact g1|false=>refine⟨i,?_,by rw[q26 (by omega)];simp[hy]⟩;apply qyq;simp only[q0l h,cT,q0k h,h1,bS,hy,Bool.not_false]
theorem qry(xs:LI)(hl:xs.length<1152921504606846976):z07 xs=some (!(xs.all inR)):=by obtain⟨k,g1,g2⟩:=qyw xs hl xs 0 rfl;apply y7h;rw[y7o _ _ g1];simp only[bS,g2]
theorem y97:∀t:Trust,Small t->z2d t=some (lev t):=by
 apply Trust.ind;intro t ih ht;have hn:=ht.nodes;have hi:=ht.inner;have hs:size t<1152921504606846976:=ht;rw[q3y]at hs;have l2:∀(suf:LT)(i:Nat),t.Inner.drop i=suf->z1h t.Inner ((t.Inner.length:Nat):Int) (i:Int) t.Threshold t.Nodes t.Inner=some (levs suf):=by intro suf;induction suf with|nil=>intro i h;apply y46;simp only[q1h h,cF,levs]|cons y suf ihs=>
   intro i h;have hlt:=q1b h;have hy:y∈t.Inner:=List.mem_of_mem_drop (by rw[h];exact List.mem_cons_self);have h1:=ih y hy (ht.mem hy);apply y46;simp only[q0l h,cT,q0k h,h1,bS,levs];by_cases he:lev y=0;·rw[if_pos he,he,q0v,q0d (show i<4611686018427387904 by omega),ihs (i+1) (q0g h)];rfl
   .rw[if_neg he,q4b he];rfl
 rw[y7l];apply y7q;by_cases h1:1<=t.Threshold
 .by_cases h2:t.Threshold<=((t.Nodes.length+t.Inner.length:Nat):Int);·rw[if_pos ⟨h1,h2⟩,q02 h1,q3r (by omega) (by omega),q02 (by omega),qry t.Nodes hn];simp only[cF,bS];cases ha:t.Nodes.all inR with|false=>rfl|true=>
    obtain⟨v,h3⟩:=ya2 t.Nodes hn;rw[h3];simp only[nT,cF,bS,if_true];by_cases h0:ofE 0 t.Nodes=0;·rw[if_pos h0,h0,q0v];exact l2 t.Inner 0 rfl
    .rw[if_neg h0,q4b h0];rfl
  .rw[if_neg (fun h=>h2 h.2),q02 h1,q3r (by omega) (by omega),q0b (by omega)];simp only[cF,cT]
 .rw[if_neg (fun h=>h1 h.1),q0b (by omega)];simp only[cT]
def verr(t:Trust):Int:=if depth t<=4/\size t<=200 then lev t else 3
theorem qix(t:Trust):verr t=0↔valid t=true:=by unfold verr valid;have:=y6u t;by_cases h1:depth t<=4<;>by_cases h2:size t<=200<;>simp[h1,h2,this]
theorem qr7(t:Trust)(ht:Small t):z0o t=some (verr t):=by
 have hs:size t<1152921504606846976:=ht;have hd:=qa3 t;apply y7z;unfold verr;rw[y36 t ht];simp only[bS];by_cases h1:depth t<=4
 .rw[q02 (by omega),y6m t ht];simp only[cF,bS];by_cases h2:size t<=200;·rw[q02 (by omega),y97 t ht,if_pos ⟨h1,h2⟩];rfl
  .rw[q0b (by omega),if_neg (fun h=>h2 h.2)];rfl
 .rw[q0b (by omega),if_neg (fun h=>h1 h.1)];rfl
def qf4(t:Trust):Bool:=decide (t.Threshold=0)&&(t.Nodes.isEmpty&&t.Inner.isEmpty)
theorem qvs:qf4 t=true↔t=blank:=by obtain⟨a,b,c⟩:=t;simp[qf4,blank]
theorem y3o(ht:Small t):z1x t=some (qf4 t):=by
 have hn:=ht.nodes;have hi:=ht.inner;apply y8w;unfold qf4;by_cases h0:t.Threshold=0;·rw[h0,q56];cases hN:t.Nodes with
  |nil=>cases hI:t.Inner with|nil=>rfl|cons y r=>rw[show eqB (((y::r).length:Nat):Int) 0=false from q7b (by simp;omega)];rfl
  |cons y r=>rw[show eqB (((y::r).length:Nat):Int) 0=false from q7b (by simp;omega)];rfl
 .rw[q7b h0,decide_eq_false h0];rfl
def memE(n:Nat)(m:Member):Int:=if m.Declared=true then(if verr m.Trust=0 then(if uses m.Trust<2^n then 0 else 5)else verr m.Trust)else if qf4 m.Trust=true then 0 else 1
def memsE(n:Nat):LB->Int|[]=>0|m::r=>if memE n m=0 then memsE n r else memE n m
def cerr(c:Config):Int:=if c.Members.length<=10 then memsE c.Members.length c.Members else 3
theorem pmemE(n:Nat)(hn:n<=10)(m:Member)(hsm:Small m.Trust):z1l m (n:Int)=some (memE n m):=by apply y8a;unfold memE;cases hd:m.Declared with|false=>simp only[Bool.not_false,cT];rw[y3o hsm];cases qf4 m.Trust<;>rfl|true=>
  simp only[nT,cF,if_true];rw[qr7 m.Trust hsm];simp only[bS];by_cases hv:verr m.Trust=0
  .have hu:=y2j m.Trust;have hp:2^n<=1024:=Nat.pow_le_pow_right (n:=2) (by decide) hn;rw[if_pos hv,hv,q0v,q13 (by omega),y74 m.Trust hsm,shl1 (by omega) (by omega),tN];simp only[cF,bS];by_cases hb:uses m.Trust<2^n;·rw[q3c (by omega),if_pos hb];rfl
   .rw[q26 (by omega),if_neg hb];rfl
  .rw[if_neg hv,q4b hv];rfl
theorem y7k(ms:LB)(hl:ms.length<=10)(hs:∀m∈ms,Small m.Trust):∀(suf:LB)(i:Nat),ms.drop i=suf->z11 ms ((ms.length:Nat):Int) (i:Int) ms=some (memsE ms.length suf)
 |[],i,h=>by apply y47;rw[q1h h];rfl|m::suf,i,h=>by
  have hlt:=q1b h;have hm:m∈ms:=List.mem_of_mem_drop (by rw[h];exact List.mem_cons_self);have h1:=y7k ms hl hs suf (i+1) (q0g h);apply y47;rw[q0l h,q0k h,pmemE ms.length hl m (hs m hm)];simp only[cT,memsE,bS];by_cases he:memE ms.length m=0;·rw[if_pos he,he,q0v,q0d (by omega),h1];rfl
  .rw[if_neg he,q4b he];rfl
theorem qd9(h:q23 c):z0y c=some (cerr c):=by
 have:=h.1;apply y7j;unfold cerr;by_cases hl:c.Members.length<=10;·rw[q02 (by omega),if_pos hl];exact y7k c.Members hl h.2 c.Members 0 rfl
 .rw[q0b (by omega),if_neg hl];rfl
def MemV(n:Nat)(m:Member):Prop:=if m.Declared then valid m.Trust=true/\uses m.Trust<2^n else m.Trust=blank
def ValidC(c:Config):Prop:=c.Members.length<=10/\∀m∈c.Members,MemV c.Members.length m
theorem qye{m:Member}:memE n m=0↔MemV n m:=by unfold memE MemV;cases hd:m.Declared with|false=>simp only[fT,if_false];rw[<-qvs];cases qf4 m.Trust<;>simp|true=>simp only[if_true];rw[<-qix];by_cases h1:verr m.Trust=0<;>by_cases h2:uses m.Trust<2^n<;>simp[h1,h2]
theorem qty{n:Nat}:∀{l:LB},memsE n l=0↔∀m∈l,MemV n m
 |[]=>by simp[memsE]|m::r=>by
  have:=@qty n r;by_cases h:memE n m=0;·simp[memsE,h,this,qye.1 h]
  .have:¬MemV n m:=fun h'=>h (qye.2 h');simp[memsE,h,this]
theorem q51:cerr c=0↔ValidC c:=by unfold cerr ValidC;by_cases h:c.Members.length<=10<;>simp[h,qty]
theorem qmu{m:Nat}:∀{l:LI},(∀x∈l,0<=x/\x<(m:Int))->usesN l<2^m
 |[],_=>by simp only[usesN];exact Nat.two_pow_pos m|k::r,h=>by
  simp only[usesN];have hk:=h k (by simp);refine Nat.or_lt_two_pow ?_ (qmu fun x hx=>h x (by simp[hx]));split;·exact Nat.pow_lt_pow_right (a:=2) (by decide) (by omega)
  .exact Nat.two_pow_pos m
theorem qt7{m:Int}{l:LI}(h:l.all (fun k=>decide (0<=k)&&decide (k<m))=true):∀x∈l,0<=x/\x<m:=by intro x hx;have:=List.all_eq_true.1 h x hx;simpa using this
theorem qpc{m:Nat}:∀t:Trust,below (m:Int) t=true->uses t<2^m:=by
 apply Trust.ind;intro t ih h;rw[qyd,aT]at h;rw[qbp];refine Nat.or_lt_two_pow (qmu (qt7 h.1)) ?_;have:∀l:LT,q4v (m:Int) l=true->(∀x∈l,below (m:Int) x=true->uses x<2^m)->usesL l<2^m:=by intro l;induction l with|nil=>intro _ _;simp only[usesL];exact Nat.two_pow_pos m|cons y r ihr=>intro hb hx;simp only[q4v,aT]at hb;simp only[usesL];exact Nat.or_lt_two_pow (hx y (by simp) hb.1) (ihr hb.2 fun x hxr=>hx x (by simp[hxr]))
 exact this t.Inner h.2 ih
theorem ConfOk.valid(h:ConfOk n c)(hn:n<=10):ValidC c:=by
 refine⟨by have:=h.le;omega,fun m hm=>?_⟩;have:=h.mem m hm;unfold MemOk at this;unfold MemV;split;·rename_i hd;simp only[hd,if_true]at this;exact⟨this.1,qpc _ this.2⟩
 .rename_i hd;simpa[hd]using this
variable {a b i k : Nat}
theorem q96(ha:a<1024):ndiff a b<1024:=qle (n:=10) ha
theorem y55(ha:a<1024):a&&&b<1024:=Nat.lt_of_le_of_lt Nat.and_le_left ha
theorem y9k(h:k<10):2^k<1024:=Nat.pow_lt_pow_right (a:=2) (by decide) h
theorem qwa:(1023:Nat).testBit i=decide (i<10):=by rw[show(1023:Nat)=2^10-1 from rfl,Nat.testBit_two_pow_sub_one]
theorem qfm:(2^k).testBit i=decide (k=i):=Nat.testBit_two_pow ..
theorem Sub.or{c:Nat}(h:Sub a c)(h':Sub b c):Sub (a|||b) c:=fun i hi=>by rw[Nat.testBit_or,Bool.or_eq_true]at hi;exact hi.elim (h i) (h' i)
theorem Sub.left:Sub a (a|||b):=fun i hi=>by simp[Nat.testBit_or,hi]
theorem Sub.right:Sub b (a|||b):=fun i hi=>by simp[Nat.testBit_or,hi]
theorem Sub.pow(h:b.testBit k=true):Sub (2^k) b:=fun i hi=>by rw[qfm,dT']at hi;subst hi;exact h
theorem ybt{s:Nat}{k:Int}(h:has s k=true):∃n:Nat,k=(n:Int)/\n<10/\s.testBit n=true:=by simp only[has,aT,dT']at h;exact⟨k.toNat,by omega,by omega,h.2.2⟩
def blk(c:Config)(v s:Nat):Bool:=(decl c).testBit v&&!sat (ndiff 1023 s|||2^v) (tr c v)
def nextv(c:Config)(s:Nat):Option Nat:=(nodes (ndiff (decl c) s)).find? fun k=>blk c k s
def casc(c:Config):Nat->Nat->List Nat×Nat|0,s=>([],s)|n+1,s=>match nextv c s with|none=>([],s)|some k=>(k::(casc c n (s|||2^k)).1,(casc c n (s|||2^k)).2)
def y1c(c:Config)(s:Nat):List Nat×Nat:=casc c (1024-s) s
end Go.Proofs.YtklhcnnpgkkjcaaGreatDoor
namespace Go.Proofs.YtklhcnnpgkkjcaaGreatDoor
open Go Go.Ab Go.Sort
theorem wrapU{n:Nat}(h:n<18446744073709551616):IntKind.wrap .u64 (n:Int)=(n:Int):=by show((n:Int))%18446744073709551616=n;omega
variable {n : Nat}
def leOf{α:Type}{a b:Option α}(_:Le a b):Option α:=a
def pc(n:Nat):Nat:=(nodes n).length
set_option maxRecDepth 100000 in
theorem y5c:((List.range 1024).all fun n=>decide (leOf (y8g (n:Int))=some ((pc n:Nat):Int)))=true:=by kernel_rfl
theorem y9w(h:n<1024):z8f (n:Int)=some ((pc n:Nat):Int):=by have h1:=List.all_eq_true.1 y5c n (List.mem_range.2 h);simp only[dT']at h1;apply ycg;rw[y8g (n:Int) _ h1];rfl
def okS(s:Int):Bool:=decide (0<=s)&&decide (s<1024)
theorem qbz(s:Int):z0l s=some (okS s):=by
 apply y4c;have:z29 s 10=some (okS s):=by
  apply qzi;unfold okS;by_cases h0:0<=s
  .rw[q26 h0];simp only[cT];rw[q13 (by decide),shl1 (by decide) (by decide)];by_cases h1:s<1024;·rw[q0b (by simpa using h1)];simp[h0,h1]
   .rw[q02 (by simpa using h1)];simp[h0,h1]
  .rw[q3c (by omega)];simp[h0]
 rw[this];rfl
theorem qly(h:n<1024):okS (n:Int)=true:=by simp[okS];omega
theorem qs5(h:n<1024):z8e (n:Int)=some ((pc n:Nat):Int):=by apply yco;rw[qbz,qly h];simp only[bS,nT,cF];rw[wrapU (by omega),y9w h];rfl
theorem qnm(s:Nat):∀n i,(q0w s (n+1) i).length=(if s.testBit i then 1 else 0)+(q0w s n (i+1)).length:=by intro n i;simp only[q0w];cases s.testBit i<;>simp<;>omega
def nlt(a b:Nat):Prop:=pc a<pc b\/pc a=pc b/\a<b
theorem q12(a:Nat):¬nlt a a:=by unfold nlt;omega
theorem q50{a b c:Nat}(h:nlt a b)(h':nlt b c):nlt a c:=by unfold nlt at*;omega
theorem qtj(a b:Nat):nlt a b\/a=b\/nlt b a:=by unfold nlt;omega
theorem qj2{a b:Nat}(h:Sub a b):∀n i,(q0w a n i).length<=(q0w b n i).length/\((q0w a n i).length=(q0w b n i).length->∀j,i<=j->j<i+n->a.testBit j=b.testBit j)|0,i=>⟨Nat.le_refl _,fun _ j h1 h2=>by omega⟩|n+1,i=>by obtain⟨h1,h2⟩:=qj2 h n (i+1);rw[qnm,qnm];have hi:=h i;cases ha:a.testBit i with
  |true=>
   rw[ha]at hi;rw[hi rfl];refine⟨by omega,fun e j hj hj2=>?_⟩;by_cases hji:j=i;·subst hji;rw[ha,hi rfl]
   .exact h2 (by omega) j (by omega) (by omega)|false=>cases hb:b.testBit i with|true=>exact⟨by simp;omega,fun e=>by simp at e;omega⟩|false=>
    refine⟨by simpa using h1,fun e j hj hj2=>?_⟩;by_cases hji:j=i;·subst hji;rw[ha,hb]
    .exact h2 (by simpa using e) j (by omega) (by omega)
theorem qp0:∀{l l':List Nat},l.Pairwise nlt->l'.Pairwise nlt->(∀s,s∈l↔s∈l')->l=l'
 |[],[],_,_,_=>rfl|[],y::r,_,_,h=>by have:=(h y).2 (by simp);cases this|x::r,[],_,_,h=>by have:=(h x).1 (by simp);cases this|x::r,y::r',hp,hp',h=>by
  rw[List.pairwise_cons]at hp hp';have hxy:x=y:=by
   rcases List.mem_cons.1 ((h x).1 (by simp))with e|e;·exact e
   .rcases List.mem_cons.1 ((h y).2 (by simp))with e'|e';·exact e'.symm
    .exact absurd (q50 (hp.1 y e') (hp'.1 x e)) (q12 _)
  subst hxy;rw[qp0 hp.2 hp'.2 fun s=>?_];constructor
  .intro hs;rcases List.mem_cons.1 ((h s).1 (by simp[hs]))with e|e;·subst e;exact absurd (hp.1 s hs) (q12 _)
   .exact e
  .intro hs;rcases List.mem_cons.1 ((h s).2 (by simp[hs]))with e|e;·subst e;exact absurd (hp'.1 s hs) (q12 _)
   .exact e
variable {l : List Nat}
def Mins(l:List Nat)(s:Nat):Prop:=s∈l/\∀t∈l,Sub t s->t=s
def LeastOf(l out:List Nat):Prop:=out.Pairwise nlt/\∀s,s∈out↔Mins l s
theorem LeastOf.lt{out:List Nat}(h:LeastOf l out)(hl:∀s∈l,s<1024):∀s∈out,s<1024:=fun s hs=>hl s ((h.2 s).1 hs).1
theorem quq(h:l.Pairwise nlt):l.Nodup:=h.imp (fun{a b}h e=>by subst e;exact q12 _ h)
theorem y9c(h:l.Pairwise nlt)(hl:∀s∈l,s<1024):l.length<=1024:=by
 have key:∀(n:Nat)(l:List Nat),l.Nodup->(∀s∈l,s<n)->l.length<=n:=by intro n;induction n with
  |zero=>intro l _ h;cases l with|nil=>simp|cons x r=>have:=h x (by simp);omega
  |succ n ih=>
   intro l hn h;have h1:=ih (l.erase n) (hn.erase n) (fun s hs=>by
    have:=h s (List.mem_of_mem_erase hs);have hne:s≠n:=fun e=>by subst e;exact(List.Nodup.not_mem_erase hn) hs
    omega);by_cases hm:n∈l;·rw[List.length_erase_of_mem hm]at h1;omega
   .rw[List.erase_of_not_mem hm]at h1;omega
 exact key 1024 l (quq h) hl
def subB(t s:Nat):Bool:=ndiff t s==0
theorem qd1{t s:Nat}:subB t s=true↔Sub t s:=by
 unfold subB;rw[beq_iff_eq];constructor;·intro h i hi;have:=congrArg (fun n=>n.testBit i) h;simp only[q04,Nat.zero_testBit,hi,tA',Bool.not_eq_false']at this;exact this
 .intro h;apply Nat.eq_of_testBit_eq;intro i;rw[q04,Nat.zero_testBit];cases ht:t.testBit i with|false=>rfl|true=>rw[h i ht];rfl
def keep(s:Nat)(out:List Nat):List Nat:=if out.any fun t=>subB t s then out else out++[s]
theorem qau(s:Nat):∀n i,q0w s n i=(List.range' i n).filter fun j=>s.testBit j|0,_=>rfl|n+1,i=>by simp only[q0w,List.range'_succ,List.filter_cons,qau s n (i+1)]
theorem yck(n:Nat):pc n=pcB n:=by unfold pc nodes pcB;rw[qau,List.range_eq_range']
theorem qc1(a b:Nat):ltSet a b=true↔nlt a b:=by simp only[ltSet,nlt,yck,Bool.or_eq_true,aT,dT']
theorem qi9:∀l:LI,q9m (l.map fun n=>D.v (.int .i64 n))=some l|[]=>rfl|x::r=>by simp only[List.map_cons,q9m,qi9 r,mS]
theorem y78(l:List Nat)(hl:l.length<65536)(h:∀s∈l,s<1024):∃zs:List Nat,z02 (l.map Int.ofNat)=some (zs.map Int.ofNat)/\zs.Perm l/\zs.Pairwise fun a b=>¬nlt b a:=by
 refine⟨l.mergeSort fun x y=>!ltSet y x,?_,List.mergeSort_perm _ _,?_⟩;·refine q36 (T:=tn) (m:=q6f _) sigOk (by kernel_rfl) rfl ?_;show libA (q6f _) [.ref 0,.fn _ []] [[.own ((l.map Int.ofNat).map fun n=>D.v (.int .i64 n)) false]]=some (.tup [],[[.own (((l.mergeSort fun x y=>!ltSet y x).map Int.ofNat).map fun n=>D.v (.int .i64 n)) false]]);unfold libA q6f;simp only[qi9];rw[if_pos ⟨trivial,by simp[q0a];omega,by rw[List.all_eq_true];intro x hx;obtain⟨y,hy,rfl⟩:=List.mem_map.1 hx;have:=h y hy;simp;omega⟩];rw[<-List.map_mergeSort (r:=fun x y=>!ltSet y x) (s:=fun x y:Int=>!ltSet y.toNat x.toNat) (f:=Int.ofNat) fun a _ b _=>rfl];rfl
 .refine(List.pairwise_mergeSort (fun a b c h h'=>?_) (fun a b=>?_) l).imp fun{a b}h hn=>?_;·simp only[Bool.not_eq_true',Bool.eq_false_iff,ne_eq,qc1,nlt]at*;omega
  .rcases qtj a b with h|rfl|h
   .have:ltSet b a=false:=by rw[Bool.eq_false_iff,ne_eq,qc1];exact fun h'=>q12 _ (q50 h h')
    simp[this]
   .have:ltSet a a=false:=by rw[Bool.eq_false_iff,ne_eq,qc1];exact q12 a
    simp[this]
   .have:ltSet a b=false:=by rw[Bool.eq_false_iff,ne_eq,qc1];exact fun h'=>q12 _ (q50 h h')
    simp[this]
  .simp only[Bool.not_eq_true',Bool.eq_false_iff,ne_eq,qc1]at h;exact h hn
def pick(p:Nat->Bool)(n:Nat):List Nat:=(List.range n).filter p
theorem y4p(p:Nat->Bool)(n:Nat):pick p (n+1)=if p n=true then pick p n++[n]else pick p n:=by unfold pick;rw[List.range_succ,List.filter_append];by_cases h:p n=true<;>simp[h]
theorem q9q{p:Nat->Bool}{n s:Nat}:s∈pick p n↔s<n/\p s=true:=by simp[pick]
theorem qxm(p:Nat->Bool)(n:Nat):(pick p n).length<=n:=by have:=List.length_filter_le p (List.range n);simpa[pick]using this
theorem y53(a:Nat):neB (a:Int) 0=(a !=0):=by
 by_cases h:a=0;·subst h;rfl
 .rw[q4b (by omega)];simp[h]
theorem qfi(a:Nat):eqB (a:Int) 0=(a==0):=by
 by_cases h:a=0;·subst h;rfl
 .rw[q7b (by omega)];simp[h]
theorem q57{l:List Nat}{i k:Nat}{suf:List Nat}(h:l.drop i=k::suf):(l.map Int.ofNat).drop i=(k:Int)::suf.map Int.ofNat:=by rw[<-List.map_drop,h];rfl
theorem qoz{u:Nat}(hu:u<1024){r:LI}(hr:z02 ((pick (fun s=>subB s u) (u+1)).map Int.ofNat)=some r):∀(n i:Nat),i+n=u+1->z4v (u:Int) ((pick (fun s=>subB s u) i).map Int.ofNat) (i:Int)=some r
 |0,i,h=>by
  have:i=u+1:=by omega
  subst this;apply y91;rw[qbz,qly hu,q3c (by omega)];simp only[bS,cT,cF,hr]|n+1,i,h=>by have ih:=qoz hu hr n (i+1) (by omega);rw[y4p]at ih;have hle:=qxm (fun s=>subB s u) i;apply y91;rw[qbz,qly hu,q26 (by omega),q2z (by omega) (by omega),qfi,q0d (by omega)];simp only[bS,cT];cases h1:subB i u with|true=>rw[show(ndiff i u==0)=true from h1,q0p (by simp[q0a];omega)];rw[if_pos h1,List.map_append]at ih;exact ih|false=>rw[show(ndiff i u==0)=false from h1];rw[if_neg (by simp[h1])]at ih;exact ih
theorem qn4{a b:Nat}(h:Sub a b):a<=b:=by rw[<-qww.1 h];exact Nat.and_le_right
theorem LeastOf.of{l l' out:List Nat}(h:LeastOf l out)(hm:∀s,Mins l s↔Mins l' s):LeastOf l' out:=⟨h.1,fun s=>by rw[h.2,hm]⟩
theorem quz:∀{l:LI}{k:Int},k∈l->inR k=true->has (usesN l) k=true
 |[],k,h,_=>by cases h|y::r,k,h,hk=>by
  have hk':=hk;simp only[inR,aT,dT']at hk';simp only[usesN];rw[qnp];rcases List.mem_cons.1 h with rfl|h
  .have:has (2^k.toNat) k=true:=by simp[has,hk'.1,hk'.2]
   simp[this,hk,bit]
  .rw[quz h hk];simp
theorem qsg:∀{l:LT}{x:Trust},x∈l->Sub (uses x) (usesL l)
 |[],x,h=>by cases h|y::r,x,h=>by
  simp only[usesL];rcases List.mem_cons.1 h with rfl|h;·exact Sub.left
  .exact(qsg h).trans Sub.right
theorem y79{s z:Nat}:∀t:Trust,(∀k:Int,has (uses t) k=true->has s k=has z k)->sat s t=sat z t:=by
 apply Trust.ind;intro t ih h;rw[qbv,qbv];have h1:cnt s t.Nodes=cnt z t.Nodes:=by
  unfold cnt;apply List.countP_congr;intro k hk;by_cases hr:inR k=true;·have:=quz hk hr;rw[h k (by rw[qbp,qnp,this];rfl)]
  .have hn:=y2n hr;have:∀w,has w k=false:=fun w=>by
    by_cases h0:0<=k;·have:¬k<10:=fun h'=>hn ⟨h0,h'⟩;simp[has,this]
    .simp[has,h0]
   rw[this,this]
 have h2:∀l:LT,(∀x∈l,sat s x=sat z x)->sats s l=sats z l:=by intro l;induction l with|nil=>intro _;rfl|cons y r ihr=>intro hl;simp only[sats];rw[hl y (by simp),ihr fun x hx=>hl x (by simp[hx])]
 rw[h1,h2 t.Inner fun x hx=>ih x hx fun k hk=>h k (by
  have h3:Sub (uses x) (uses t):=by rw[qbp t];exact(qsg hx).trans Sub.right
  exact qx6 h3 k hk)]
variable {c : Config} {s : Nat}
def quoB(c:Config)(s:Nat):Bool:=(s !=0)&&(subB s (decl c)&&(nodes s).all fun k=>sat s (tr c k))
theorem qqj(hs:s<1024):quoB c s=true↔q30 c s:=by
 simp only[quoB,q30,aT,bne_iff_ne,qd1,List.all_eq_true];constructor;·rintro⟨h1,h2,h3⟩;exact⟨h1,h2,fun k hk=>h3 k (q8x.2 ⟨hk,qcf hs hk⟩)⟩
 .rintro⟨h1,h2,h3⟩;exact⟨h1,h2,fun k hk=>h3 k (q8x.1 hk).1⟩
theorem y4i{c:Config}{s:Nat}(hs:s<1024)(hd:Sub s (decl c))(hc:q23 c)(l:List Nat)(hl:l.length<=10):∀(suf:List Nat)(i:Nat),l.drop i=suf->(∀k∈suf,s.testBit k=true)->∃k,z13 (s:Int) (l.map Int.ofNat) ((l.length:Nat):Int) (i:Int) c.Members=some (k,!(suf.all fun k=>sat s (tr c k)))
 |[],i,h,hm=>by refine⟨0,?_⟩;apply qpn;rw[q1h h];rfl|k::suf,i,h,hm=>by
  have hlt:=q1b h;obtain⟨m,h1,h2,_⟩:=qg4 (hd k (hm k (by simp)));obtain⟨q,ih⟩:=y4i hs hd hc l hl suf (i+1) (q0g h) (fun j hj=>hm j (by simp[hj]));have hcon:z2i c (k:Int) (s:Int)=some (sat s (tr c k)):=by apply y2y;rw[q37 (by omega) (by simpa using h1),q6j hs m.Trust (hc.2 m (List.mem_of_getElem? h1)),h2];rfl
  cases hsat:sat s (tr c k)with|true=>refine⟨q,?_⟩;apply qpn;rw[q0l h];simp only[cT,q0k (q57 h)];rw[show Config.mk c.Members=c from rfl,hcon,hsat,q0d (by omega),ih];simp[hsat]|false=>refine⟨k,?_⟩;apply qpn;rw[q0l h];simp only[cT,q0k (q57 h)];rw[show Config.mk c.Members=c from rfl,hcon,hsat];simp[hsat]
theorem qiz(hs:s<1024)(hc:q23 c):z2t c (s:Int)=some (quoB c s):=by
 have hd:=qlw c;apply y8t;rw[qbz,qly hs,qfi];simp only[bS,nT,cF,quoB];by_cases h0:s=0;·subst h0;rfl
 .have hb0:(s==0)=false:=by simp[h0]
  have hb1:(s !=0)=true:=by simp[h0]
  have h1:z3i c (s:Int)=some (subB s (decl c)):=by apply y7s;rw[q7q c hc.1];simp only[bS];rw[q2z (by omega) (by omega),qfi];rfl
  rw[h1,hb0,hb1];simp only[bS,cF,tA'];cases h2:subB s (decl c)with|false=>rfl|true=>
   obtain⟨k,h3⟩:=y4i hs (qd1.1 h2) hc (nodes s) (qss s) (nodes s) 0 rfl fun k hk=>(q8x.1 hk).1;have h4:z1q c (s:Int)=some (k,!((nodes s).all fun k=>sat s (tr c k))):=by apply y3r;rw[qtt hs];simp only[bS,List.length_map];exact h3
   rw[h4];simp only[nT,cF,bS,Bool.not_not,tA']
theorem pow10{n:Nat}(h:n<=10):2^n<=1024:=Nat.pow_le_pow_right (n:=2) (by decide) h
theorem y8e(h:q30 c s):s<1024:=h.2.1.lt (qlw c)
theorem qc8(_hn:c.Members.length<=10):decl c<2^c.Members.length:=by refine Nat.lt_of_not_le fun hge=>?_;obtain⟨i,hi,hb⟩:=Nat.exists_ge_and_testBit_of_ge_two_pow hge;obtain⟨m,h1,_⟩:=qg4 hb;have:=(List.getElem?_eq_some_iff.1 h1).1;omega
variable {c : Config} {s : Nat}
theorem y2c{c:Config}{s:Nat}(hs:s<1024)(hd:Sub s (decl c))(hc:q23 c)(l:List Nat)(hl:l.length<=10):∀(suf:List Nat)(i:Nat),l.drop i=suf->(∀k∈suf,s.testBit k=true)->z13 (s:Int) (l.map Int.ofNat) ((l.length:Nat):Int) (i:Int) c.Members=some (match suf.find? (fun k=>!sat s (tr c k))with|some k=>((k:Int),true)|none=>(0,false))
 |[],i,h,hm=>by apply qpn;rw[q1h h];rfl|k::suf,i,h,hm=>by
  have hlt:=q1b h;obtain⟨m,h1,h2,_⟩:=qg4 (hd k (hm k (by simp)));have ih:=y2c hs hd hc l hl suf (i+1) (q0g h) (fun j hj=>hm j (by simp[hj]));have hcon:z2i c (k:Int) (s:Int)=some (sat s (tr c k)):=by apply y2y;rw[q37 (by omega) (by simpa using h1),q6j hs m.Trust (hc.2 m (List.mem_of_getElem? h1)),h2];rfl
  apply qpn;rw[q0l h];simp only[cT,q0k (q57 h)];rw[show Config.mk c.Members=c from rfl,hcon,q0d (by omega),ih,List.find?_cons];cases sat s (tr c k)<;>rfl
theorem y26(hs:s<1024)(hd:Sub s (decl c))(hc:q23 c):z1q c (s:Int)=some (match q9y c s with|some k=>((k:Int),true)|none=>(0,false)):=by apply y3r;rw[qtt hs];simp only[bS,List.length_map];exact y2c hs hd hc (nodes s) (qss s) (nodes s) 0 rfl fun k hk=>(q8x.1 hk).1
theorem y4e{k:Nat}(h:s.testBit k=true):ndiff s (2^k)=s-2^k:=by
 apply Nat.eq_of_testBit_eq;intro i;rw[q04,q7g h,qfm];by_cases hi:k=i;·subst hi;simp
 .have:i≠k:=fun e=>hi e.symm;simp[hi,this]
theorem qu5{c:Config}(hc:q23 c):∀(n s:Nat)(acc:LI),s<n->s<1024->Sub s (decl c)->acc.length+s<1024->∃l,z19 (s:Int) acc c.Members=some ((((elim c n s).2:Nat):Int),l)|0,s,acc,h,_,_,_=>by omega|n+1,s,acc,h,hs,hd,ha=>by simp only[elim];cases hu:q9y c s with|none=>refine⟨acc,?_⟩;apply y1l;rw[show Config.mk c.Members=c from rfl,y26 hs hd hc,hu];rfl|some k=>obtain⟨h1,h2,_⟩:=qjx hu;obtain⟨q1,q2⟩:=y1n h1;have hp:=y9k h2;obtain⟨l,ih⟩:=qu5 hc n (s-2^k) (acc++[(k:Int)]) (by omega) (by omega) (q2.trans hd) (by simp;omega);refine⟨l,?_⟩;apply y1l;rw[show Config.mk c.Members=c from rfl,y26 hs hd hc,hu];simp only[bS,nT,cF];rw[q0p (by simp[q0a];omega),q13 (by omega),shl1 (by omega) (by omega),tN,q2z (by omega) (by omega),y4e h1];exact ih
theorem q5r(hs:s<1024)(hc:q23 c):z1n c (s:Int)=some ((q18 c s:Nat):Int):=by
 have hd:=qlw c;have hlt:s&&&decl c<1024:=y55 hs;obtain⟨l,h⟩:=qu5 hc 1024 (s&&&decl c) [] hlt hlt (Sub.and_right _ _) (by simp;omega);have he:z2k c (s:Int)=some ((((elim c 1024 (s&&&decl c)).2:Nat):Int),l):=by apply y8u;rw[qbz,qly hs];simp only[bS,nT,cF];rw[q7q c hc.1];simp only[bS];rw[qli (by omega) (by omega)];exact h
 apply y8i;rw[he];rfl
end Go.Proofs.YtklhcnnpgkkjcaaGreatDoor
namespace Go.Proofs.YtklhcnnpgkkjcaaGreatDoor
open Go Go.Ab Go.Sort
end Go.Proofs.YtklhcnnpgkkjcaaGreatDoor
namespace Go.Proofs.YtklhcnnpgkkjcaaGreatDoor
open Go Go.Ab Go.Sort
variable {a b : Nat}
def ints'(n:Nat):LI:=(List.range n).map Int.ofNat
def flat(n k:Nat):Trust:=⟨(k:Int),ints' n,[]⟩
theorem qt8(ha:a<1024)(hb:b<1024)(h:Sub a b)(he:pc a=pc b):a=b:=by
 obtain⟨_,h2⟩:=qj2 h 10 0;apply Nat.eq_of_testBit_eq;intro i;by_cases hi:i<10;·exact h2 he i (by omega) (by omega)
 .have:∀z:Nat,z<1024->z.testBit i=false:=fun z hz=>by cases hbz:z.testBit i with|false=>rfl|true=>exact absurd (qcf hz hbz) hi
  rw[this a ha,this b hb]
theorem y3i(h:Sub a b):pc a<=pc b:=(qj2 h 10 0).1
end Go.Proofs.YtklhcnnpgkkjcaaGreatDoor
namespace Go.Proofs.YtklhcnnpgkkjcaaGreatDoor
open Go Go.Ab
variable {t : Go.Proofs.YtklhcnnpgkkjcaaGreatDoor.Trust} {c : Config}
mutual
def wf : Trust -> Bool
 | ⟨thr, _, inner⟩ => decide (thr < 9223372036854775808) && wfs inner
def wfs : LT -> Bool
 | [] => true
 | x :: r => wf x && wfs r
end
theorem wf_eq(t:Trust):wf t=(decide (t.Threshold<9223372036854775808)&&wfs t.Inner):=by cases t;simp only[wf]
theorem y9d{l:LT}(h:wfs l=true):∀x∈l,wf x=true:=by induction l with|nil=>intro x hx;cases hx|cons y r ih=>
  simp only[wfs,aT]at h;intro x hx;rcases List.mem_cons.1 hx with rfl|hx;·exact h.1
  .exact ih h.2 x hx
def Fits(t:Trust):Prop:=size t<1073741824
theorem Fits.small(h:Fits t):Small t:=by unfold Fits at h;unfold Small;omega
theorem Fits.mem{x:Trust}(h:Fits t)(hx:x∈t.Inner):Fits x:=by unfold Fits at*;rw[q3y]at h;have:=qqd hx;omega
theorem y96:∀t:Trust,Fits t->good t=true->wf t=true:=by
 apply Trust.ind;intro t ih ht hg;have hsz:size t<1073741824:=ht;rw[q3y]at hsz;rw[qa1]at hg;simp only[aT,dT']at hg;obtain⟨g1,g2,g3,g4,g5⟩:=hg;rw[wf_eq];simp only[aT,dT'];refine⟨by omega,?_⟩;have hin:∀l:LT,(∀x∈l,good x=true->wf x=true)->goods l=true->wfs l=true:=by intro l;induction l with|nil=>intro _ _;rfl|cons y r ihr=>intro h hgl;simp only[goods,aT]at hgl;simp only[wfs,h y (by simp) hgl.1,ihr (fun x hx=>h x (by simp[hx])) hgl.2,Bool.and_self]
 exact hin t.Inner (fun x hx=>ih x hx (ht.mem hx)) g5
theorem qpj(h:valid t=true):Fits t/\wf t=true:=by
 simp only[valid,aT,dT']at h;have hf:Fits t:=by unfold Fits;omega
 exact⟨hf,y96 t hf h.2.2⟩
def TB(t:Trust):Prop:=size t<1000000/\wf t=true
def CB(c:Config):Prop:=c.Members.length<1000000/\∀m∈c.Members,TB m.Trust
theorem CB.small(h:CB c):q23 c:=⟨by have:=h.1;omega,fun m hm=>by have:=(h.2 m hm).1;unfold Small;omega⟩
theorem Member.eta(m:Member):Member.mk m.Declared m.Trust=m:=by cases m;rfl
theorem CB.of(h:c.Members.length<900000/\∀m∈c.Members,size m.Trust<900000/\wf m.Trust=true):CB c:=⟨by have:=h.1;omega,fun m hm=>⟨by have:=(h.2 m hm).1;omega,(h.2 m hm).2⟩⟩
variable {s : Nat} {t : Go.Proofs.YtklhcnnpgkkjcaaGreatDoor.Trust} {c : Config}
mutual
def less (s : Nat) : Trust -> Trust
 | ⟨thr, nodes, inner⟩ => ⟨max 0 (max 0 thr - ((cnt s nodes + gone s inner : Nat) : Int)), nodes.filter (fun k => !has s k), kept s inner⟩
def gone (s : Nat) : LT -> Nat
 | [] => 0
 | x :: r => (if (less s x).Threshold = 0 then 1 else 0) + gone s r
def kept (s : Nat) : LT -> LT
 | [] => []
 | x :: r => if (less s x).Threshold = 0 then kept s r else less s x :: kept s r
end
theorem qmx(s:Nat)(t:Trust):less s t=⟨max 0 (max 0 t.Threshold-((cnt s t.Nodes+gone s t.Inner:Nat):Int)),t.Nodes.filter (fun k=>!has s k),kept s t.Inner⟩:=by cases t;simp only[less]
theorem qqa{n:Int}(h0:0<=n)(h1:n<9223372036854775808):z73 n 1=some (max 0 (n-1)):=by apply yd2;rw[qby (by split<;>omega) (by split<;>omega)];congr 1;split<;>omega
theorem qr4{s:Nat}(hs:s<1024)(xs:LI)(hl:xs.length<1073741824)(a11:Int)(a13:LI)(a15:LT)(a17:Int)(a19:LI)(a21 a27:LT):∀(suf:LI)(i:Nat)(c:Int)(acc:LI),xs.drop i=suf->0<=c->c<9223372036854775808->acc.length<=i->Le (z4k (s:Int) a15 ((a15.length:Nat):Int) 0 a11 a13 a15 a17 a19 a21 (max 0 (c-(cnt s suf:Nat))) (acc++suf.filter (fun k=>!has s k)) a27) (z59 (s:Int) xs ((xs.length:Nat):Int) (i:Int) a11 a13 a15 a17 a19 a21 c acc a27)
 |[],i,c,acc,h,h0,h1,ha=>fun r hr=>by
  apply y93;simp only[q1h h,cF];rw[<-hr];congr 1;·simp[cnt];omega
  .simp|y::suf,i,c,acc,h,h0,h1,ha=>fun r hr=>by have hlt:=q1b h;apply y93;simp only[q0l h,cT,q0k h,q3o hs,bS,q0d (show i<4611686018427387904 by omega)];cases hy:has s y with
  |true=>
   simp only[cT,qqa h0 h1,bS];refine qr4 hs xs hl a11 a13 a15 a17 a19 a21 a27 suf (i+1) (max 0 (c-1)) acc (q0g h) (by omega) (by omega) (by omega) r ?_;rw[<-hr];congr 1;·simp only[cnt,List.countP_cons,hy,if_true];omega
   .simp[hy]|false=>
   simp only[cF];rw[q0p (by simp[q0a];omega)];refine qr4 hs xs hl a11 a13 a15 a17 a19 a21 a27 suf (i+1) c (acc++[y]) (q0g h) h0 h1 (by simp;omega) r ?_;rw[<-hr];congr 1;·simp[cnt,hy]
   .simp[hy]
theorem y72(hs:s<1024):∀t:Trust,Fits t->wf t=true->z7t t (s:Int)=some (less s t):=by
 apply Trust.ind;intro t ih ht hw;have hsz:size t<1073741824:=ht;rw[q3y]at hsz;rw[wf_eq,aT,dT']at hw;have l2:∀(suf:LT)(i:Nat)(c:Int)(nodes:LI)(acc:LT)(a17:Int)(a19:LI)(a21:LT),t.Inner.drop i=suf->0<=c->c<9223372036854775808->acc.length<=i->z4k (s:Int) t.Inner ((t.Inner.length:Nat):Int) (i:Int) t.Threshold t.Nodes t.Inner a17 a19 a21 c nodes acc=some ⟨max 0 (c-(gone s suf:Nat)),nodes,acc++kept s suf⟩:=by intro suf;induction suf with|nil=>intro i c nodes acc a17 a19 a21 h h0 h1 ha;apply y8h;simp only[q1h h,cF,kept,List.append_nil,gone];congr 2;omega|cons y suf ihs=>
   intro i c nodes acc a17 a19 a21 h h0 h1 ha;have hlt:=q1b h;have hy:y∈t.Inner:=List.mem_of_mem_drop (by rw[h];exact List.mem_cons_self);apply y8h;simp only[q0l h,cT,q0k h,ih y hy (ht.mem hy) (y9d hw.2 y hy),bS,q0d (show i<4611686018427387904 by omega),Trust.eta];by_cases hz:(less s y).Threshold=0;·simp only[hz,q56,cT,qqa h0 h1,bS];rw[ihs (i+1) (max 0 (c-1)) nodes acc a17 a19 a21 (q0g h) (by omega) (by omega) (by omega)];simp only[kept,hz,if_true,gone];congr 2;omega
   .simp only[q7b hz,cF];rw[q0p (by simp[q0a];omega)];rw[ihs (i+1) c nodes (acc++[less s y]) a17 a19 a21 (q0g h) h0 h1 (by simp;omega)];simp only[kept,hz,if_false,gone,Nat.zero_add,List.append_assoc,List.cons_append,List.nil_append]
 apply ybn;have hthr:(if 0>t.Threshold then 0 else t.Threshold)=max 0 t.Threshold:=by split<;>omega
 rw[hthr];refine qr4 hs t.Nodes (by omega) _ _ _ _ _ _ _ t.Nodes 0 (max 0 t.Threshold) [] rfl (by omega) (by omega) (Nat.le_refl _) _ ?_;rw[show(0:Int)=((0:Nat):Int)from rfl,l2 t.Inner 0 _ _ _ _ _ _ rfl (by omega) (by omega) (Nat.le_refl _),qmx];congr 2;omega
theorem ybl(hs:s<1024)(t:Trust)(ht:Fits t)(hw:wf t=true)(k:Int):z8c t k (s:Int)=some (if(less s t).Threshold=0 then⟨1,[k],[]⟩else less s t):=by
 apply ycx;simp only[q67 hs,bS,nT,cF,y72 hs t ht hw];by_cases hz:(less s t).Threshold=0;·simp only[hz,q56,cT,if_true]
 .simp only[q7b hz,cF,hz,if_false,Trust.eta]
theorem qtz(s z:Nat):∀l:LI,cnt (z|||s) l=cnt s l+cnt z (l.filter (fun k=>!has s k))|[]=>rfl|y::r=>by have ih:=qtz s z r;simp only[cnt]at ih⊢;rw[List.countP_cons,List.countP_cons,List.filter_cons,qnp,ih];cases h1:has s y<;>cases h2:has z y<;>simp[h2]<;>omega
theorem qxu(s z:Nat):∀t:Trust,sat z (less s t)=sat (z|||s) t:=by
 apply Trust.ind;intro t ih;have hin:∀l:LT,(∀x∈l,sat z (less s x)=sat (z|||s) x)->sats (z|||s) l=gone s l+sats z (kept s l):=by intro l;induction l with|nil=>intro _;rfl|cons y r ihr=>
   intro h;have h1:=h y (by simp);have h2:=ihr (fun x hx=>h x (by simp[hx]));simp only[sats,gone,kept,h2];by_cases hz:(less s y).Threshold=0
   .have:sat (z|||s) y=true:=by rw[<-h1,qbv,hz];simp;omega
    simp only[this,hz,if_true];omega
   .simp only[hz,if_false,sats,h1];omega
 rw[qbv,qbv,qmx,qtz s z,hin t.Inner ih];congr 1;simp only[eq_iff_iff];omega
theorem y7a{z:Nat}(h:(less s t).Threshold=0):sat (z|||s) t=true:=by rw[<-qxu,qbv,h];simp;omega
theorem qj4{s s':Nat}(h:∀k,has s' k=true->has s k=true):∀l:LI,fresh s l=true->∀q:Int->Bool,fresh s' (l.filter q)=true
 |[],_,_=>rfl|y::r,hf,q=>by
  simp only[fresh,aT,Bool.not_eq_true']at hf;obtain⟨h1,h2,h3⟩:=hf;have hmono:∀(a b:Nat),(∀k,has a k=true->has b k=true)->∀k,has (a|||bit y) k=true->has (b|||bit y) k=true:=by intro a b hab k hk;rw[qta h1]at hk⊢;cases ha:has a k with|true=>rw[hab k ha];rfl|false=>rw[ha]at hk;simp only[Bool.false_or]at hk;rw[hk];simp
  rw[List.filter_cons];split
  .simp only[fresh,h1,tA'];have h4:has s' y=false:=by cases hh:has s' y with|true=>rw[h y hh]at h2;cases h2|false=>rfl
   rw[h4];simp only[Bool.not_false,tA'];exact qj4 (hmono s' s h) r h3 q
  .exact qj4 (fun k hk=>by rw[qta h1,h k hk];rfl) r h3 q
theorem y1g(s:Nat):∀t:Trust,good t=true->(less s t).Threshold≠0->good (less s t)=true:=by
 apply Trust.ind;intro t ih hg hz;have hin:∀l:LT,(∀x∈l,good x=true->(less s x).Threshold≠0->good (less s x)=true)->goods l=true->goods (kept s l)=true/\(kept s l).length+gone s l=l.length:=by intro l;induction l with|nil=>intro _ _;exact⟨rfl,rfl⟩|cons y r ihr=>
   intro h hgl;simp only[goods,aT]at hgl;obtain⟨h1,h2⟩:=ihr (fun x hx=>h x (by simp[hx])) hgl.2;simp only[kept,gone];by_cases hy:(less s y).Threshold=0;·simp only[hy,if_true,h1,List.length_cons];exact⟨trivial,by omega⟩
   .simp only[hy,if_false,goods,h y (by simp) hgl.1 hy,h1,Bool.and_self,List.length_cons];exact⟨trivial,by omega⟩
 rw[qa1]at hg;simp only[aT,dT']at hg;obtain⟨g1,g2,g3,g4,g5⟩:=hg;obtain⟨h1,h2⟩:=hin t.Inner ih g5;have hlen:(t.Nodes.filter (fun k=>!has s k)).length+cnt s t.Nodes=t.Nodes.length:=by
  have:=List.length_eq_countP_add_countP (has s) (l:=t.Nodes);rw[<-List.countP_eq_length_filter];simp only[cnt];have h5:List.countP (fun a=>decide ¬has s a=true) t.Nodes=List.countP (fun k=>!has s k) t.Nodes:=by congr 1;funext k;cases has s k<;>rfl
  omega
 rw[qmx]at hz⊢;rw[qa1];simp only[aT,dT']at hz⊢;refine⟨by omega,by omega,?_,qj4 (fun k hk=>hk) _ g4 _,h1⟩;rw[List.all_eq_true]at g3⊢;exact fun x hx=>g3 x (List.mem_filter.1 hx).1
theorem y3d(s:Nat):∀t:Trust,size (less s t)<=size t/\depth (less s t)<=depth t:=by
 apply Trust.ind;intro t ih;have hin:∀l:LT,(∀x∈l,size (less s x)<=size x/\depth (less s x)<=depth x)->sizes (kept s l)+(kept s l).length<=sizes l+l.length/\q34 (kept s l)<=q34 l:=by intro l;induction l with|nil=>intro _;simp[kept]|cons y r ihr=>
   intro h;obtain⟨h1,h2⟩:=ihr (fun x hx=>h x (by simp[hx]));obtain⟨h3,h4⟩:=h y (by simp);simp only[kept];split;·simp only[sizes,q34,List.length_cons];omega
   .simp only[sizes,q34,List.length_cons];omega
 obtain⟨h1,h2⟩:=hin t.Inner ih;have h3:(t.Nodes.filter (fun k=>!has s k)).length<=t.Nodes.length:=List.length_filter_le _ _;rw[qmx];simp only[qo1,q3y t,q7y];omega
theorem y0v(s:Nat)(t:Trust)(h:valid t=true)(hz:(less s t).Threshold≠0):valid (less s t)=true:=by simp only[valid,aT,dT']at h⊢;obtain⟨h1,h2⟩:=y3d s t;exact⟨by omega,by omega,y1g s t h.2.2 hz⟩
theorem y4h:∀t:Trust,Fits t->z6m t=some t:=by
 apply Trust.ind;intro t ih ht;have hsz:size t<1073741824:=ht;rw[q3y]at hsz;have l1:∀(suf:LT)(i:Nat)(acc:LT)(a8:Int)(a10:LI)(a12:LT)(a14:Int)(a16:LI)(a18:LT)(a20:Int)(a22:LI),t.Inner.drop i=suf->acc.length<=i->z5k t.Inner ((t.Inner.length:Nat):Int) (i:Int) a8 a10 a12 a14 a16 a18 a20 a22 acc=some ⟨a20,a22,acc++suf⟩:=by intro suf;induction suf with|nil=>intro i acc a8 a10 a12 a14 a16 a18 a20 a22 h ha;apply y92;simp only[q1h h,cF,List.append_nil]|cons y suf ihs=>intro i acc a8 a10 a12 a14 a16 a18 a20 a22 h ha;have hlt:=q1b h;have hy:y∈t.Inner:=List.mem_of_mem_drop (by rw[h];exact List.mem_cons_self);apply y92;simp only[q0l h,cT,q0k h,ih y hy (ht.mem hy),bS,q0d (show i<4611686018427387904 by omega),Trust.eta];rw[q0p (by simp[q0a];omega),ihs (i+1) (acc++[y]) _ _ _ _ _ _ _ _ (q0g h) (by simp;omega)];simp
 apply ybx;rw[q0p (by simp[q0a];omega),show(0:Int)=((0:Nat):Int)from rfl,l1 t.Inner 0 [] _ _ _ _ _ _ _ _ rfl (Nat.le_refl _)];simp
def del(k:Int)(s:Nat)(t:Trust):Trust:=if(less s t).Threshold=0 then⟨1,[k],[]⟩else less s t
def delM(s:Nat)(k:Nat)(m:Member):Member:=if has s (k:Int)then⟨false,blank⟩else if m.Declared then⟨true,del k s m.Trust⟩else m
def delL(s:Nat):Nat->LB->LB|_,[]=>[]|k,m::r=>delM s k m::delL s (k+1) r
def delC(s:Nat)(c:Config):Config:=⟨delL s 0 c.Members⟩
def Bears(c:Config):Prop:=c.Members.length<1073741824/\∀m∈c.Members,Fits m.Trust/\wf m.Trust=true
theorem y2g(hs:s<1024)(c:Config)(hc:Bears c):z7e c (s:Int)=some (delC s c):=by
 obtain⟨hl,hb⟩:=hc;have l1:∀(suf:LB)(i:Nat)(acc a10 a12:LB),c.Members.drop i=suf->acc.length<=i->z3h (s:Int) c.Members ((c.Members.length:Nat):Int) (i:Int) a10 a12 acc=some ⟨acc++delL s i suf⟩:=by intro suf;induction suf with|nil=>intro i acc a10 a12 h ha;apply y7e;simp only[q1h h,cF,delL,List.append_nil]|cons y suf ihs=>
   intro i acc a10 a12 h ha;have hlt:=q1b h;obtain⟨hf,hw⟩:=hb y (List.mem_of_mem_drop (by rw[h];exact List.mem_cons_self));have step:z3h (s:Int) c.Members ((c.Members.length:Nat):Int) ((i+1:Nat):Int) a10 a12 (acc++[delM s i y])=some ⟨acc++delL s i (y::suf)⟩:=by rw[ihs (i+1) _ _ _ (q0g h) (by simp;omega)];simp[delL]
   apply y7e;simp only[q0l h,cT,q0k h,q3o hs,bS,q0d (show i<4611686018427387904 by omega)];cases hh:has s (i:Int)with|true=>simp only[cT];rw[q0p (by simp[q0a];omega),<-step];simp[delM,hh,blank]|false=>cases hd:y.Declared with|true=>simp only[cT,cF,ybl hs y.Trust hf hw,bS,Trust.eta];rw[q0p (by simp[q0a];omega),<-step];simp[delM,hh,hd,del]|false=>
     simp only[cF,y4h y.Trust hf,bS,Trust.eta];rw[q0p (by simp[q0a];omega),<-step];have:y=⟨false,y.Trust⟩:=by cases y;simp only at hd;rw[hd]
     simp[delM,hh,hd];rw[this]
 apply yaz;rw[show(0:Int)=((0:Nat):Int)from rfl,l1 c.Members 0 [] _ _ rfl (Nat.le_refl _)];simp[delC]
theorem MemOk.fits{m:Int}{x:Member}(h:MemOk m x):Fits x.Trust/\wf x.Trust=true:=by
 unfold MemOk at h;split at h;·exact qpj h.1
 .rw[h];exact⟨by simp[Fits,blank,size,sizes],rfl⟩
theorem ConfOk.bears{n:Nat}(h:ConfOk n c)(hn:n<=10):Bears c:=⟨by have:=h.le;omega,fun m hm=>(h.mem m hm).fits⟩
theorem ConfOk.blank{n:Nat}{c:Config}(h:ConfOk n c):∀m∈c.Members,m.Declared=false->m.Trust=blank:=fun m hm hd=>by have:=h.mem m hm;unfold MemOk at this;simpa[hd]using this
theorem qn8(s:Nat):∀(l:LB)(k:Nat),(delL s k l).length=l.length|[],_=>rfl|m::r,k=>by simp only[delL,List.length_cons,qn8 s r (k+1)]
theorem y3n{k:Int}(hk:inR k=true)(h:valid t=true):valid (del k s t)=true:=by
 unfold del;split;·exact qst hk
 .rename_i hz;exact y0v s t h hz
theorem TB.fits(h:TB t):Fits t:=by have:=h.1;unfold Fits;omega
theorem CB.bears(h:CB c):Bears c:=⟨by have:=h.1;omega,fun m hm=>⟨(h.2 m hm).fits,(h.2 m hm).2⟩⟩
variable {k : Int} {n s z : Nat} {t : Go.Proofs.YtklhcnnpgkkjcaaGreatDoor.Trust} {c : Config}
theorem y4v(h0:0<=k)(h1:k<(n:Int)):bit k<2^n:=Nat.pow_lt_pow_right (a:=2) (by decide) (by omega)
theorem qaz(q:Int->Bool):∀l:LI,Sub (usesN (l.filter q)) (usesN l)
 |[]=>Sub.refl _|k::r=>by
  have ih:=qaz q r;rw[List.filter_cons];split;·simp only[usesN];intro i hi;rw[Nat.testBit_or,Bool.or_eq_true]at hi⊢;exact hi.imp id (ih i)
  .exact ih.trans Sub.right
theorem qrw(s:Nat):∀t:Trust,Sub (uses (less s t)) (uses t):=by
 apply Trust.ind;intro t ih;rw[qbp,qbp t,qmx];have:∀l:LT,(∀x∈l,Sub (uses (less s x)) (uses x))->Sub (usesL (kept s l)) (usesL l):=by intro l;induction l with|nil=>intro _;exact Sub.refl _|cons y r ihr=>
   intro hx;have h1:=ihr fun x hxr=>hx x (by simp[hxr]);simp only[kept];split;·exact h1.trans Sub.right
   .simp only[usesL];exact((hx y (by simp)).trans Sub.left).or (h1.trans Sub.right)
 exact((qaz _ _).trans Sub.left).or ((this t.Inner ih).trans Sub.right)
theorem y5j{k:Nat}(hk:k<n)(hn:n<=10)(s:Nat)(h:uses t<2^n):uses (del (k:Int) s t)<2^n:=by
 unfold del;split
 .rw[qbp];have hi:inR (k:Int)=true:=by simp only[inR,aT,dT'];omega
  simp only[usesN,usesL,hi,if_true,Nat.or_zero];exact y4v (by omega) (by omega)
 .exact Nat.lt_of_le_of_lt (qn4 (qrw s t)) h
theorem qxh(s:Nat):∀(l:LB)(k i:Nat),(delL s k l)[i]?=(l[i]?).map (delM s (k+i))|[],k,i=>by simp[delL]|m::r,k,i=>by simp only[delL];cases i with|zero=>simp|succ i=>simp only[List.getElem?_cons_succ];rw[qxh s r (k+1) i,show k+1+i=k+(i+1)by omega]
theorem qqc(s:Nat)(c:Config)(i:Nat):(delC s c).Members[i]?=(c.Members[i]?).map (delM s i):=by show(delL s 0 c.Members)[i]?=_;rw[qxh,Nat.zero_add]
theorem q4m{i:Nat}:(decl (delC s c)).testBit i=true↔(decl c).testBit i=true/\s.testBit i=false:=by
 rw[q5v,q5v,qqc];constructor;·rintro⟨h1,m,h2,h3⟩;cases hm:c.Members[i]? with|none=>rw[hm]at h2;cases h2|some m0=>rw[hm]at h2;simp only[mS,sI]at h2;subst h2;unfold delM at h3;rw[qbx h1]at h3;cases hs:s.testBit i with|true=>simp[hs]at h3|false=>cases hd:m0.Declared with|true=>exact⟨⟨h1,m0,rfl,hd⟩,rfl⟩|false=>simp[hs,hd]at h3
 .rintro⟨⟨h1,m,h2,h3⟩,h4⟩;refine⟨h1,delM s i m,by rw[h2];rfl,?_⟩;unfold delM;rw[qbx h1,h4,h3];simp
theorem y86{k:Nat}(h:(decl (delC s c)).testBit k=true):tr (delC s c) k=del (k:Int) s (tr c k):=by obtain⟨h1,h2⟩:=q4m.1 h;obtain⟨hk,m,h3,h4⟩:=q5v.1 h1;unfold tr;rw[qqc,h3];simp only[mS,Option.getD_some];unfold delM;rw[qbx hk,h2,h4];simp
theorem y9b(h:has z k=true):sat z ⟨1,[k],[]⟩=true:=by simp[qbv,cnt,sats,h]
theorem qw7{g:Nat}:ndiff z g|||g=z|||g:=by apply Nat.eq_of_testBit_eq;intro i;simp only[Nat.testBit_or,q04];cases z.testBit i<;>cases g.testBit i<;>rfl
theorem y35(h:has z k=true):sat z (del k s t)=sat (z|||s) t:=by
 unfold del;split;·rename_i h0;rw[y9b h,y7a h0]
 .exact qxu s z t
theorem qpr{y:Nat}(hy:y<1024)(hys:∀i,y.testBit i=true->s.testBit i=false):q30 (delC s c) y↔y≠0/\Sub y (decl c)/\∀k,y.testBit k=true->sat (y|||s) (tr c k)=true:=by
 unfold q30;have hsub:Sub y (decl (delC s c))↔Sub y (decl c):=⟨fun h i hi=>(q4m.1 (h i hi)).1,fun h i hi=>q4m.2 ⟨h i hi,hys i hi⟩⟩;rw[hsub];constructor;·rintro⟨h0,h1,h2⟩;refine⟨h0,h1,fun k hk=>?_⟩;have:=h2 k hk;rwa [y86 ((hsub.2 h1) k hk),y35 (by rw[qbx (qcf hy hk)];exact hk)]at this
 .rintro⟨h0,h1,h2⟩;refine⟨h0,h1,fun k hk=>?_⟩;rw[y86 ((hsub.2 h1) k hk),y35 (by rw[qbx (qcf hy hk)];exact hk)];exact h2 k hk
theorem qxi(s:Nat)(c:Config):(delC s c).Members.length=c.Members.length:=qn8 s _ _
theorem qd8(s:Nat)(h:ValidC c):ValidC (delC s c):=by
 have hlen:=qxi s c;refine⟨by rw[hlen];exact h.1,fun x hx=>?_⟩;obtain⟨i,hi,rfl⟩:=List.mem_iff_getElem.1 hx;have hi':i<c.Members.length:=by omega
 have hg:=qqc s c i;rw[List.getElem?_eq_getElem hi,List.getElem?_eq_getElem hi']at hg;simp only[mS,sI]at hg;rw[hg,hlen];have hm:=h.2 c.Members[i] (List.getElem_mem hi');have hle:=h.1;unfold delM;split;·rfl
 .split;·rename_i hd;unfold MemV at hm;simp only[hd,if_true]at hm;exact⟨y3n (by simp only[inR,aT,dT'];omega) hm.1,y5j hi' hle s hm.2⟩
  .exact hm
theorem ValidC.bears(h:ValidC c):Bears c:=⟨by have:=h.1;omega,fun m hm=>by
 have hv:=h.2 m hm;unfold MemV at hv;split at hv;·exact qpj hv.1
 .rw[hv];exact⟨by simp[Fits,blank,size,sizes],by simp[blank,wf,wfs]⟩⟩
theorem Bears.small'(h:Bears c):q23 c:=⟨by have:=h.1;omega,fun m hm=>(h.2 m hm).1.small⟩
theorem ValidC.small(h:ValidC c):q23 c:=h.bears.small'
end Go.Proofs.YtklhcnnpgkkjcaaGreatDoor
namespace Go.Proofs.YtklhcnnpgkkjcaaGreatDoor
open Go Go.Ab Go.Sort
section
variable {c : Config} {R : Nat -> Nat}
end
section
variable {c : Config} {R : Nat -> Nat}
end
variable {n s u : Nat} {c : Config}
def q1y(u:Nat):List Nat:=(List.range (pc u+1)).flatMap fun k=>pick (fun s=>subB s u&&(pc s==k)) (u+1)
theorem q0x:s∈q1y u↔Sub s u:=by
 simp only[q1y,List.mem_flatMap,q9q,List.mem_range,beq_iff_eq,aT,qd1];constructor;·rintro⟨k,_,_,h,_⟩;exact h
 .intro h;exact⟨pc s,by have:=y3i h;omega,by have:=qn4 h;omega,h,rfl⟩
theorem qxk(p:Nat->Bool)(n:Nat):(pick p n).Pairwise (·<·):=List.Pairwise.sublist List.filter_sublist List.pairwise_lt_range
theorem q4s(u:Nat):(q1y u).Pairwise nlt:=by
 unfold q1y;rw[List.pairwise_flatMap];constructor;·intro k _;refine(qxk _ _).imp_of_mem ?_;intro a b ha hb hab;have h1:=(q9q.1 ha).2;have h2:=(q9q.1 hb).2;simp only[aT,beq_iff_eq]at h1 h2;exact .inr ⟨by omega,hab⟩
 .refine List.pairwise_lt_range.imp ?_;intro a b hab x hx y hy;have h1:=(q9q.1 hx).2;have h2:=(q9q.1 hy).2;simp only[aT,beq_iff_eq]at h1 h2;exact .inl (by omega)
theorem qq8(hu:u<1024):(q1y u).length<=1024:=y9c (q4s u) fun _s hs=>(q0x.1 hs).lt hu
theorem q2w:u<2^n↔Sub u (2^n-1):=by
 constructor;·intro h i hi;rw[Nat.testBit_two_pow_sub_one,dT'];refine Nat.lt_of_not_le fun hle=>?_;have:=Nat.ge_two_pow_of_testBit hi;have:=Nat.pow_le_pow_right (n:=2) (by decide) hle;omega
 .intro h;have:=qn4 h;have:=Nat.two_pow_pos n;omega
theorem qhs:∀j,j<=10->pc (2^j-1)=j:=by
 have h:∀j,j<11->pc (2^j-1)=j:=by decide
 exact fun j hj=>h j (by omega)
theorem qvu(hu:u<1024):z84 (u:Int)=some ((q1y u).map Int.ofNat):=by
 have hlen:=qxm (fun s=>subB s u) (u+1);obtain⟨zs,h1,h2,h3⟩:=y78 (pick (fun s=>subB s u) (u+1)) (by omega) fun s hs=>by have:=(q9q.1 hs).1;omega
 have hnd:zs.Nodup:=h2.nodup_iff.2 ((qxk _ _).imp fun h=>by omega);have ho:zs.Pairwise nlt:=by
  refine(h3.and hnd).imp ?_;intro a b h;rcases qtj a b with h'|h'|h';·exact h'
  .exact absurd h' h.2
  .exact absurd h' h.1
 have he:zs=q1y u:=qp0 ho (q4s u) fun s=>by rw[h2.mem_iff,q9q,qd1,q0x];exact⟨fun h=>h.2,fun h=>⟨by have:=qn4 h;omega,h⟩⟩
 apply yap;have:=qoz hu h1 (u+1) 0 (by omega);rw[he]at this;simpa[pick]using this
theorem qz5{a:Nat}(h:1<=a)(ha:a<4611686018427387904):subI .i64 (a:Int) 1=((a-1:Nat):Int):=y6d (b:=1) h ha
theorem qck(hn:n<=10):z29 (s:Int) (n:Int)=some (decide (s<2^n)):=by
 apply qzi;rw[q26 (by omega),q13 (by omega),shl1 (by omega) (by omega),tN];simp only[cT];by_cases h:s<2^n;·rw[q0b (by omega),decide_eq_true h]
 .rw[q02 (by omega),decide_eq_false h]
theorem qyt{n:Nat}(hn:n<=10){s:Nat}(hs:s<2^n):∀(k t:Nat),t+k=2^n->s<t->(∀u,s<u->u<t->pc u≠pc s)->∃(t':Nat)(b:Bool),z5g (n:Int) ((pc s:Nat):Int) (t:Int)=some ((t':Int),b)/\(b=true->t'<2^n/\nlt s t'/\∀u,u<2^n->nlt s u->u=t'\/nlt t' u)/\(b=false->∀u,u<2^n->¬nlt s u)
 |0,t,h,ht,hno=>by
  have hp:=pow10 hn;have hle:∀{j u:Nat},j<=10->u<2^j->pc u<=j:=fun hj hu=>by have:=y3i (q2w.1 hu);rwa [qhs _ hj]at this
  have hps:=hle hn hs;by_cases he:pc s=n
  .refine⟨0,false,?_,by simp,fun _ u hu hlt=>?_⟩;·apply qyh;rw[qck hn,decide_eq_false (by omega),he,q56];rfl
   .have:=hle hn hu;rcases hlt with h1|⟨h1,h2⟩;·omega
    .exact hno u h2 (by omega) h1.symm
  .refine⟨2^(pc s+1)-1,true,?_,fun _=>⟨?_,?_,fun u hu hlt=>?_⟩,by simp⟩;·have hp1:=Nat.two_pow_pos (pc s+1);have hp2:2^(pc s+1)<=1024:=pow10 (by omega);apply qyh;rw[qck hn,decide_eq_false (by omega),q7b (by omega)];simp only[bS,cF];rw[q0d (by omega),q13 (by omega),shl1 (by omega) (by omega),tN,qz5 (by omega) (by omega)]
   .have:2^(pc s+1)<=2^n:=Nat.pow_le_pow_right (by decide) (by omega);have:=Nat.two_pow_pos (pc s+1);omega
   .exact .inl (by rw[qhs _ (by omega)];omega)
   .have h1:pc s<pc u:=by
     rcases hlt with h1|⟨h1,h2⟩;·exact h1
     .exact absurd h1.symm (hno u h2 (by omega))
    by_cases h2:pc u=pc s+1
    .have hge:2^(pc s+1)-1<=u:=by refine Nat.le_of_not_lt fun hlt'=>?_;have hsub:Sub u (2^(pc s+1)-1):=q2w.1 (by omega);have hp2:2^(pc s+1)<=1024:=pow10 (by omega);have:=qt8 (by omega) (by omega) hsub (by rw[qhs _ (by omega)];exact h2);omega
     rcases Nat.eq_or_lt_of_le hge with e|hlt';·exact .inl e.symm
     .exact .inr (.inr ⟨by rw[qhs _ (by omega)];exact h2.symm,hlt'⟩)
    .exact .inr (.inl (by rw[qhs _ (by omega)];omega))|k+1,t,h,ht,hno=>by
  have hp:=pow10 hn;by_cases he:pc t=pc s
  .refine⟨t,true,?_,fun _=>⟨by omega,.inr ⟨he.symm,ht⟩,fun u hu hlt=>?_⟩,by simp⟩;·apply qyh;rw[qck hn,decide_eq_true (by omega),qs5 (by omega)];simp only[bS,cT];rw[he,q56];rfl
   .rcases hlt with h1|⟨h1,h2⟩;·exact .inr (.inl (by omega))
    .rcases Nat.lt_trichotomy u t with h3|h3|h3;·exact absurd h1.symm (hno u h2 h3)
     .exact .inl h3
     .exact .inr (.inr ⟨by omega,h3⟩)
  .obtain⟨t',b,g1,g2,g3⟩:=qyt hn hs k (t+1) (by omega) (by omega) fun u h1 h2=>by
    by_cases e:u=t;·rw[e];exact he
    .exact hno u h1 (by omega)
   refine⟨t',b,?_,g2,g3⟩;apply qyh;rw[qck hn,decide_eq_true (by omega),qs5 (by omega)];simp only[bS,cT];rw[q7b (by omega),q0d (by omega)];exact g1
theorem qlh(hn:n<=10)(hs:s<2^n):∃(t':Nat)(b:Bool),z80 (s:Int) (n:Int)=some ((t':Int),b)/\(b=true->t'<2^n/\nlt s t'/\∀u,u<2^n->nlt s u->u=t'\/nlt t' u)/\(b=false->∀u,u<2^n->¬nlt s u):=by
 have hp:=pow10 hn;obtain⟨t',b,g1,g2,g3⟩:=qyt hn hs (2^n-(s+1)) (s+1) (by omega) (by omega) fun u h1 h2=>by omega
 refine⟨t',b,?_,g2,g3⟩;apply yde;rw[q02 (by omega),q02 (by omega),qck hn,decide_eq_true hs];simp only[cF,bS,nT];rw[qs5 (by omega)];simp only[bS];rw[q0d (by omega)];exact g1
def aptB(c:Config)(s:Nat):Bool:=quoB c s&&(q18 c (ndiff (2^c.Members.length-1) s) !=0)
def aptR(c:Config):Option Nat->Nat×Nat|some s=>(s,q18 c (ndiff (2^c.Members.length-1) s))|none=>(0,0)
def apart(c:Config):Nat×Nat:=aptR c ((q1y (2^c.Members.length-1)).find? (aptB c))
def pairI(p:Nat×Nat):Int×Int:=(p.1,p.2)
theorem q5b(hn:n<=10):subI .i64 (shlI .i64 1 ((n:Nat):Int)) 1=((2^n-1:Nat):Int):=by have hp:=pow10 hn;have hp1:=Nat.two_pow_pos n;rw[shl1 (by omega) (by omega),tN,qz5 (by omega) (by omega)]
theorem y9u(hc:q23 c)(hn:c.Members.length<=10):∀(suf pre:List Nat)(s:Nat),q1y (2^c.Members.length-1)=pre++s::suf->z2v ((c.Members.length:Nat):Int) (s:Int) true c.Members=some (pairI (aptR c ((s::suf).find? (aptB c)))):=by have hp:=pow10 hn;have hp1:=Nat.two_pow_pos c.Members.length;intro suf;induction suf with
 |nil=>
  intro pre s e;have hord:=q4s (2^c.Members.length-1);have hs:s<2^c.Members.length:=q2w.2 (q0x.1 (by rw[e];simp));obtain⟨t',b,g1,g2,g3⟩:=qlh hn hs;have hb:b=false:=by cases b with|false=>rfl|true=>
    obtain⟨h1,h2,_⟩:=g2 rfl;have hm:t'∈q1y (2^c.Members.length-1):=q0x.2 (q2w.1 h1);rw[e]at hm hord;rw[List.pairwise_append]at hord;rcases List.mem_append.1 hm with h|h;·exact absurd (q50 h2 (hord.2.2 t' h s (by simp))) (q12 _)
    .simp at h;subst h;exact absurd h2 (q12 _)
  subst hb;have hnext:z2v ((c.Members.length:Nat):Int) (t':Int) false c.Members=some (0,0):=by apply y4q;rfl
  have hlt:ndiff (2^c.Members.length-1) s<1024:=q96 (by omega);apply y4q;rw[show Config.mk c.Members=c from rfl,qiz (by omega) hc];simp only[cT,bS];cases hq:quoB c s with|false=>simp only[Bool.not_false,cT];rw[g1];simp only[bS];rw[hnext];simp[aptB,hq,aptR,pairI]|true=>
   have hm:z4y c=some ((2^c.Members.length-1:Nat):Int):=by apply y7r;rw[q13 (by omega),q5b hn]
   simp only[nT,cF];rw[hm];simp only[bS];rw[q2z (by omega) (by omega),q5r hlt hc];simp only[bS,y53];cases hg:(q18 c (ndiff (2^c.Members.length-1) s) !=0)with
   |false=>
    simp only[cF];rw[g1];simp only[bS];rw[hnext];have:aptB c s=false:=by simp only[aptB,hq,hg];rfl
    simp[this,aptR,pairI]|true=>
    simp only[cT];have:aptB c s=true:=by simp only[aptB,hq,hg];rfl
    simp[this,aptR,pairI]
 |cons v suf ih=>
  intro pre s e;have hord:=q4s (2^c.Members.length-1);have hs:s<2^c.Members.length:=q2w.2 (q0x.1 (by rw[e];simp));have hv:v<2^c.Members.length:=q2w.2 (q0x.1 (by rw[e];simp));obtain⟨t',b,g1,g2,g3⟩:=qlh hn hs;rw[e,List.pairwise_append,List.pairwise_cons,List.pairwise_cons]at hord;have hsv:=hord.2.1.1 v (by simp);have hb:b=true:=by cases b with|true=>rfl|false=>exact absurd hsv (g3 rfl v hv)
  subst hb;obtain⟨h1,h2,h3⟩:=g2 rfl;have ht:t'=v:=by
   rcases h3 v hv hsv with h|h;·exact h.symm
   .have hm:t'∈q1y (2^c.Members.length-1):=q0x.2 (q2w.1 h1);rw[e]at hm;rcases List.mem_append.1 hm with h'|h';·exact absurd (q50 h2 (hord.2.2 t' h' s (by simp))) (q12 _)
    .rcases List.mem_cons.1 h' with h''|h'';·subst h'';exact absurd h2 (q12 _)
     .rcases List.mem_cons.1 h'' with h4|h4;·exact h4
      .exact absurd (q50 h (hord.2.1.2.1 t' h4)) (q12 _)
  subst ht;have hnext:=ih (pre++[s]) t' (by rw[e];simp);have hlt:ndiff (2^c.Members.length-1) s<1024:=q96 (by omega);apply y4q;rw[show Config.mk c.Members=c from rfl,qiz (by omega) hc];simp only[cT,bS];cases hq:quoB c s with|false=>simp only[Bool.not_false,cT];rw[g1];simp only[bS];rw[hnext,List.find?_cons (a:=s)];simp[aptB,hq]|true=>
   have hm:z4y c=some ((2^c.Members.length-1:Nat):Int):=by apply y7r;rw[q13 (by omega),q5b hn]
   simp only[nT,cF];rw[hm];simp only[bS];rw[q2z (by omega) (by omega),q5r hlt hc];simp only[bS,y53];cases hg:(q18 c (ndiff (2^c.Members.length-1) s) !=0)with
   |false=>
    simp only[cF];rw[g1];simp only[bS];have:aptB c s=false:=by simp only[aptB,hq,hg];rfl
    rw[hnext,List.find?_cons (a:=s),this]|true=>
    simp only[cT];have:aptB c s=true:=by simp only[aptB,hq,hg];rfl
    rw[List.find?_cons (a:=s),this];rfl
theorem qmr(u:Nat):∃suf,q1y u=0::suf:=by
 have h0:(0:Nat)∈q1y u:=q0x.2 fun i hi=>by simp at hi
 cases h:q1y u with|nil=>rw[h]at h0;cases h0|cons a suf=>
  have ho:=q4s u;rw[h]at h0 ho;rcases List.mem_cons.1 h0 with e|hm;·exact⟨suf,by rw[e]⟩
  .have:=(List.pairwise_cons.1 ho).1 0 hm;have h1:pc 0=0:=by decide
   rcases this with h2|⟨_,h2⟩<;>omega
theorem y7c(hc:q23 c)(hn:c.Members.length<=10):z7k c=some (pairI (apart c)):=by obtain⟨suf,h⟩:=qmr (2^c.Members.length-1);apply ybw;have:=y9u hc hn suf [] 0 h;rw[<-h]at this;exact this
theorem apart_spec(hn:c.Members.length<=10):((apart c).1=0/\(apart c).2=0/\∀a b,q30 c a->q30 c b->a&&&b=0->False)\/(q30 c (apart c).1/\q30 c (apart c).2/\(apart c).1&&&(apart c).2=0/\(apart c).1≠0):=by have hp:=pow10 hn;have hp1:=Nat.two_pow_pos c.Members.length;unfold apart;cases h:(q1y (2^c.Members.length-1)).find? (aptB c)with
 |none=>
  refine .inl ⟨rfl,rfl,fun a b ha hb hab=>?_⟩;have hla:a<2^c.Members.length:=Nat.lt_of_le_of_lt (qn4 ha.2.1) (qc8 hn);have hlb:b<2^c.Members.length:=Nat.lt_of_le_of_lt (qn4 hb.2.1) (qc8 hn);have hno:=List.find?_eq_none.1 h a (q0x.2 (q2w.1 hla));apply hno;have hqa:=(qqj (by omega)).2 ha;have hlt:ndiff (2^c.Members.length-1) a<1024:=q96 (by omega);have hsub:Sub b (ndiff (2^c.Members.length-1) a):=fun i hi=>by rw[q04,q2w.1 hlb i hi];cases hai:a.testBit i with|false=>rfl|true=>
    have:(a&&&b).testBit i=true:=by rw[Nat.testBit_and,hai,hi];rfl
    rw[hab]at this;simp at this
  have hg:=qca c hlt hb hsub;have:q18 c (ndiff (2^c.Members.length-1) a)≠0:=fun h0=>by rw[h0]at hg;have:=qn4 hg;exact hb.1 (by omega)
  simp[aptB,hqa,this]|some s=>have h1:=List.find?_some h;have h2:=q2w.2 (q0x.1 (List.mem_of_find?_eq_some h));simp only[aptB,aT,bne_iff_ne]at h1;have hlt:ndiff (2^c.Members.length-1) s<1024:=q96 (by omega);have hQ:=(qqj (by omega)).1 h1.1;refine .inr ⟨hQ,q72 c hlt h1.2,?_,hQ.1⟩;apply Nat.eq_of_testBit_eq;intro i;show(s&&&q18 c (ndiff (2^c.Members.length-1) s)).testBit i=_;rw[Nat.testBit_and,Nat.zero_testBit];cases hsi:s.testBit i with|false=>rfl|true=>cases hgi:(q18 c (ndiff (2^c.Members.length-1) s)).testBit i with|false=>rfl|true=>have:=(q4p c hlt).trans (Sub.and_left _ _) i hgi;rw[q04,hsi]at this;simp at this
def twoB(c:Config):Bool:=(apart c).1 !=0
theorem y6n(hn:c.Members.length<=10):twoB c=true↔∃a b,q30 c a/\q30 c b/\a&&&b=0:=by
 simp only[twoB,bne_iff_ne];rcases apart_spec hn with⟨h1,_,h2⟩|⟨h1,h2,h3,h4⟩;·exact⟨fun h=>absurd h1 h,fun⟨a,b,ha,hb,hab⟩=>absurd (h2 a b ha hb hab) id⟩
 .exact⟨fun _=>⟨_,_,h1,h2,h3⟩,fun _=>h4⟩
theorem qsl(hc:q23 c)(he:cerr c=0):z6c c=some (!twoB c,0):=by apply yce;rw[qd9 hc,he];simp only[bS,q0v,cF];rw[y7c hc (q51.1 he).1];simp only[bS,pairI,qfi,twoB];congr 2;cases h:((apart c).1==0)<;>simp_all
def impB(a b:Trust):Bool:=((q1y 1023).find? fun s=>sat s a&&!sat s b).isNone
theorem y5u{a b:Trust}:impB a b=true↔∀s,s<1024->sat s a=true->sat s b=true:=by
 simp only[impB,Option.isNone_iff_eq_none,List.find?_eq_none,aT,Bool.not_eq_true',not_and,Bool.not_eq_false];constructor;·intro h s hs;exact h s (q0x.2 (q2w.1 (by omega:s<2^10)))
 .intro h s hs;exact h s (by have:s<2^10:=q2w.2 (q0x.1 hs);omega)
theorem qjd(s:Nat):∀n i,q0w s n i=((List.range' i n).filter fun j=>s.testBit j)|0,i=>by simp[q0w]|n+1,i=>by simp only[q0w,List.range'_succ,List.filter_cons,qjd s n (i+1)]
theorem qvx(s:Nat):nodes s=(List.range 10).filter fun i=>s.testBit i:=by rw[nodes,qjd,List.range_eq_range']
variable {a b : Go.Proofs.YtklhcnnpgkkjcaaGreatDoor.Trust}
theorem y95{k s:Nat}(hs:s<1024):(((List.range 10).filter fun i=>s.testBit i).length==k)=(subB s 1023&&(pc s==k)):=by have h1:subB s 1023=true:=qd1.2 (q2w.1 (show s<2^10 from hs));rw[h1,tA',pc,qvx]
theorem q78:setOrder=(q1y 1023).map Int.ofNat:=by
 have key:((List.range 11).flatMap fun k=>(List.range 1024).filter fun s=>((List.range 10).filter fun i=>s.testBit i).length==k)=q1y 1023:=by have h10:pc 1023=10:=qhs 10 (by decide);unfold q1y pick;rw[h10];apply congrArg (fun f=>List.flatMap f (List.range 11));funext k;apply List.filter_congr;intro s hs;exact y95 (List.mem_range.1 hs)
 rw[<-key];rfl
theorem qow:setOrder.Nodup:=by rw[q78];refine List.Pairwise.map _ (fun a b h=>?_) (q4s 1023);intro e;have e':a=b:=Int.ofNat.inj e;rw[e']at h;exact q12 _ h
theorem qrj:∃r,setOrder=0::r:=by obtain⟨suf,h⟩:=qmr 1023;exact⟨suf.map Int.ofNat,by rw[q78,h];rfl⟩
theorem y9g:∀f nx xs,env.seek f=some (nx,xs)->(∀g,env.glob g=none)/\qy3 env.P f nx xs:=by
 intro f nx xs h;obtain⟨r,hr⟩:=qrj;have hd:=qow;rw[hr]at hd;have h':(if List.contains [211] f then some (127,setOrder)else none)=some (nx,xs):=h;split at h'
 .rename_i hf;cases h';have:f=211:=by simpa using hf
  subst this;exact⟨fun _=>rfl,by rw[hr];exact y0n hd⟩
 .cases h'
theorem qsh:∀(suf pre:List Nat),q1y 1023=pre++suf->qzg (fun x=>z80 x 10) (suf.map Int.ofNat)
 |[],_,_=>trivial|[s],pre,e=>by have hord:=q4s 1023;have hs:s<2^10:=q2w.2 (q0x.1 (by rw[e];simp));obtain⟨t',b,g1,g2,g3⟩:=qlh (n:=10) (by decide) hs;cases b with|false=>exact⟨_,g1⟩|true=>
   obtain⟨h1,h2,_⟩:=g2 rfl;have hm:t'∈q1y 1023:=q0x.2 (q2w.1 h1);rw[e]at hm hord;rw[List.pairwise_append]at hord;rcases List.mem_append.1 hm with h|h;·exact absurd (q50 h2 (hord.2.2 t' h s (by simp))) (q12 _)
   .simp at h;subst h;exact absurd h2 (q12 _)
 |s::t::suf,pre,e=>by
  have hord:=q4s 1023;have hs:s<2^10:=q2w.2 (q0x.1 (by rw[e];simp));have ht:t<2^10:=q2w.2 (q0x.1 (by rw[e];simp));have hst:nlt s t:=by rw[e,List.pairwise_append,List.pairwise_cons]at hord;exact hord.2.1.1 t (by simp)
  obtain⟨t',b,g1,g2,g3⟩:=qlh (n:=10) (by decide) hs;refine⟨?_,qsh (t::suf) (pre++[s]) (by rw[e];simp)⟩;cases b with|false=>exact absurd hst (g3 rfl t ht)|true=>
   obtain⟨h1,h2,h3⟩:=g2 rfl;rcases h3 t ht hst with h|h;·subst h;exact g1
   .exfalso;have hm:t'∈q1y 1023:=q0x.2 (q2w.1 h1);rw[e]at hm hord;rw[List.pairwise_append,List.pairwise_cons,List.pairwise_cons]at hord;rcases List.mem_append.1 hm with hm|hm;·exact q12 _ (q50 h2 (hord.2.2 t' hm s (by simp)))
    .rcases List.mem_cons.1 hm with hm|hm;·subst hm;exact q12 _ h2
     .rcases List.mem_cons.1 hm with hm|hm;·subst hm;exact q12 _ h
      .exact q12 _ (q50 h (hord.2.1.2.1 t' hm))
def y56:Option Nat->Int×Bool|some s=>(s,true)|none=>(0,false)
set_option maxRecDepth 100000 in
theorem y2h(ha:Small a)(hb:Small b):z86 a.Threshold a.Nodes a.Inner b.Threshold b.Nodes b.Inner=some ((y56 ((q1y 1023).find? fun s=>sat s a&&!sat s b)).1,(y56 ((q1y 1023).find? fun s=>sat s a&&!sat s b)).2,a.Threshold,a.Nodes,a.Inner,b.Threshold,b.Nodes,b.Inner):=by
 refine qzw (T:=tn) (nx:=127) (xs:=setOrder) sigOk (by kernel_rfl) (by kernel_rfl) (by kernel_rfl) (by kernel_rfl) (by have:=qsh (q1y 1023) [] rfl;rw[<-q78]at this;exact this) (p:=fun z=>sat z.toNat a&&!sat z.toNat b) (oc:=⟨[.lf .b],[[.lf (.i .i64),.lf (.l .i64),.lf (.l .Trust)],[.lf (.i .i64),.lf (.l .i64),.lf (.l .Trust)]]⟩) (fun z hz=>?_) ?_ rfl
 .rw[q78]at hz;obtain⟨s,hs,rfl⟩:=List.mem_map.1 hz;have hlt:s<1024:=by have:s<2^10:=q2w.2 (q0x.1 hs);omega
  refine⟨(sat s a&&!sat s b,a.Threshold,a.Nodes,a.Inner,b.Threshold,b.Nodes,b.Inner),?_,rfl,rfl⟩;show z8j (Int.ofNat s) a.Threshold a.Nodes a.Inner b.Threshold b.Nodes b.Inner=_;apply ycw;rw[show Int.ofNat s=((s:Nat):Int)from rfl,show Trust.mk a.Threshold a.Nodes a.Inner=a by cases a;rfl,show Trust.mk b.Threshold b.Nodes b.Inner=b by cases b;rfl,q6j hlt a ha,q6j hlt b hb];cases sat s a<;>rfl
 .rw[q78];have:((q1y 1023).map Int.ofNat).find? (fun z=>sat z.toNat a&&!sat z.toNat b)=((q1y 1023).find? fun s=>sat s a&&!sat s b).map Int.ofNat:=by rw[List.find?_map];rfl
  rw[this];cases(q1y 1023).find? fun s=>sat s a&&!sat s b<;>rfl
theorem y0y(ha:valid a=true)(hb:valid b=true):∃z,z8g a b=some (impB a b,z,0):=by
 have h1:=qfg ha;have h2:=qfg hb;refine⟨(y56 ((q1y 1023).find? fun s=>sat s a&&!sat s b)).1,?_⟩;apply ycj;have hv:z8q a b=some 0:=by apply ycn;rw[qr7 a h1,(qix a).2 ha];simp only[bS,q0v,cF];rw[qr7 b h2,(qix b).2 hb];rfl
 rw[hv];simp only[bS,q0v,cF];rw[y2h h1 h2];simp only[bS,impB];cases(q1y 1023).find? fun s=>sat s a&&!sat s b<;>rfl
end Go.Proofs.YtklhcnnpgkkjcaaGreatDoor
namespace Go.Proofs.YtklhcnnpgkkjcaaGreatDoor
open Go Go.Ab
theorem yby:∀f m,env.lib f=some m->LibOk env f m:=by
 intro f m h;have h':look1 none y3u f=some m:=h;simp only[y3u,look1]at h';by_cases h0:21=f;·rw[if_pos h0]at h';cases h';rw[<-h0];exact y0o
 rw[if_neg h0]at h';by_cases h1:94=f;·rw[if_pos h1]at h';cases h';rw[<-h1];exact y25
 rw[if_neg h1]at h';by_cases h2:133=f;·rw[if_pos h2]at h';cases h';rw[<-h2];exact fun vs hp v hp' h=>by cases h
 rw[if_neg h2]at h';by_cases h3:134=f;·rw[if_pos h3]at h';cases h';rw[<-h3];exact y0r
 rw[if_neg h3]at h';by_cases h4:156=f;·rw[if_pos h4]at h';cases h';rw[<-h4];exact qox
 rw[if_neg h4]at h';by_cases h5:175=f;·rw[if_pos h5]at h';cases h';rw[<-h5];exact y05
 rw[if_neg h5]at h';by_cases h6:177=f;·rw[if_pos h6]at h';cases h';rw[<-h6];exact y68
 rw[if_neg h6]at h';by_cases h7:181=f;·rw[if_pos h7]at h';cases h';rw[<-h7];exact y6c
 rw[if_neg h7]at h';by_cases h8:200=f;·rw[if_pos h8]at h';cases h';rw[<-h8];exact y14
 rw[if_neg h8]at h';by_cases h9:214=f;·rw[if_pos h9]at h';cases h';rw[<-h9];exact y0w
 rw[if_neg h9]at h';by_cases h10:251=f;·rw[if_pos h10]at h';cases h';rw[<-h10];exact y0e
 rw[if_neg h10]at h';by_cases h11:264=f;·rw[if_pos h11]at h';cases h';rw[<-h11];exact y61
 rw[if_neg h11]at h';by_cases h12:265=f;·rw[if_pos h12]at h';cases h';rw[<-h12];exact qvl
 rw[if_neg h12]at h';cases h'
theorem yb1:∀f g k,env.pre f=some (g,k)->PreOk env f g k:=fun f g k h=>by cases h
theorem y5f:qrt env:=⟨y9g,yby,yb1⟩
theorem yae:qrq env (q8q an):=by
 intro h hok;have hlt:h<lastF+1:=by have:okF h=true:=hok;simp only[okF,aT,dT']at this;omega
 have h1:=List.all_eq_true.1 qrv h (List.mem_range.2 hlt);have hok':okF h=true:=hok;rw[hok',nT,Bool.false_or]at h1;unfold q68 at h1;cases hf:Tryz.prog.funcs[h]? with|none=>simp[hf]at h1|some fn=>cases hb:fn.body with|none=>simp[hf,hb]at h1|some c=>simp only[hf,hb,aT,dT']at h1;exact⟨fn,c,hf,hb,h1.1,fun _ hl=>by have h2:=h1.2;rw[hl]at h2;exact h2⟩
theorem yak(n:Nat):q8s env n:=sound (E:=env) mixed yae y5f n
def Law(f:Nat):Prop:=∀zs:LI,(∀z∈zs,(Lit.int .i64 z).wf=true)->∃n h',call env n f [.d (ints .i64 zs)] []=some (.d (.v (.bool true)),h')
theorem law_of{f:Nat}(h:∀t:LI,callC tn f [.d (.lf (.l (c:=TC.i64) t))] [] ⟨[.lf .b],[]⟩=some true):Law f:=by intro zs _;obtain⟨m,hm⟩:=qcy (h zs);exact⟨m,[],hm⟩
end Go.Proofs.YtklhcnnpgkkjcaaGreatDoor
namespace Go.Proofs.YtklhcnnpgkkjcaaGreatDoor
open Go Go.Ab Go.Sort
variable {c : Config} {s : Nat}
def q4x(c:Config)(s:Nat):Bool:=twoB (delC s c)
def haltB(c:Config)(s:Nat):Bool:=q18 c (ndiff (2^c.Members.length-1) s)==0
theorem ValidC.cerr{c:Config}(h:ValidC c):cerr c=0:=q51.2 h
theorem qnv(hn:c.Members.length<=10):z7r c=some ((2^c.Members.length-1:Nat):Int):=by apply yb7;rw[q13 (by omega),q5b hn]
theorem q8m{n:Nat}(hn:n<=10)(hs:s<2^n):s<1024:=by have:=pow10 hn;omega
theorem y02(hv:ValidC c)(hs:s<2^c.Members.length):z8k c (s:Int)=some (q4x c s):=by apply yc8;rw[y2g (q8m hv.1 hs) c hv.bears];simp only[bS];rw[qsl (qd8 s hv).small (qd8 s hv).cerr];simp only[bS,Bool.not_not,q4x]
theorem y1t(hv:ValidC c)(hs:s<2^c.Members.length):z8n c (s:Int)=some (haltB c s):=by have hp:=pow10 hv.1;have hlt:ndiff (2^c.Members.length-1) s<1024:=q96 (by omega);apply ydi;rw[qnv hv.1];simp only[bS];rw[q2z (by omega) (by omega),q5r hlt hv.small];simp only[bS,qfi,haltB]
def askE(c:Config)(z:Int):Int:=if cerr c≠0 then cerr c else if z<0 then 1 else if((2^c.Members.length-1:Nat):Int)<z then 1 else 0
theorem qu9(hc:q23 c)(z:Int):z8a c z=some (askE c z):=by
 apply yc3;rw[qd9 hc];simp only[bS,askE];by_cases he:cerr c=0
 .rw[he,q0v];simp only[cF,ne_eq,not_true,if_false];by_cases h0:z<0;·rw[q0b h0,if_pos h0];rfl
  .rw[q02 (by omega),if_neg h0,qnv (q51.1 he).1];simp only[cF,bS];by_cases h1:((2^c.Members.length-1:Nat):Int)<z;·rw[q0b h1,if_pos h1];rfl
   .rw[q02 (by omega),if_neg h1];rfl
 .rw[q4b he];simp[he]
theorem qc6{z:Int}(h:askE c z=0):ValidC c/\∃s:Nat,z=(s:Int)/\s<2^c.Members.length:=by
 unfold askE at h;have hp1:=Nat.two_pow_pos c.Members.length;split at h;·rename_i h1;exact absurd h h1
 .rename_i h1;refine⟨q51.1 (Classical.not_not.1 h1),z.toNat,?_,?_⟩
  .split at h;·omega
   .omega
  .split at h;·omega
   .split at h<;>omega
theorem qfy(hv:ValidC c)(hs:s<2^c.Members.length):askE c (s:Int)=0:=by unfold askE;rw[hv.cerr,if_neg (by simp),if_neg (by omega),if_neg (by omega)]
def splR(c:Config)(z:Int):Bool×Int:=if askE c z=0 then(q4x c z.toNat,0)else(false,askE c z)
def halR(c:Config)(z:Int):Bool×Int:=if askE c z=0 then(haltB c z.toNat,0)else(false,askE c z)
theorem qpd(hc:q23 c)(z:Int):z82 c z=some (splR c z):=by
 apply ybr;rw[qu9 hc];simp only[bS,splR];by_cases h:askE c z=0;·obtain⟨hv,s,rfl,hs⟩:=qc6 h;rw[h,q0v,y02 hv hs];rfl
 .rw[q4b h,if_neg h];rfl
theorem qv2(hc:q23 c)(z:Int):z89 c z=some (halR c z):=by
 apply yav;rw[qu9 hc];simp only[bS,halR];by_cases h:askE c z=0;·obtain⟨hv,s,rfl,hs⟩:=qc6 h;rw[h,q0v,y1t hv hs];rfl
 .rw[q4b h,if_neg h];rfl
theorem qz1(hv:ValidC c)(hs:s<2^c.Members.length):splR c (s:Int)=(q4x c s,0):=by unfold splR;rw[if_pos (qfy hv hs)];rfl
theorem qza(hv:ValidC c)(hs:s<2^c.Members.length):halR c (s:Int)=(haltB c s,0):=by unfold halR;rw[if_pos (qfy hv hs)];rfl
end Go.Proofs.YtklhcnnpgkkjcaaGreatDoor
namespace Go.Proofs.YtklhcnnpgkkjcaaGreatDoor
open Go Go.Ab Go.Sort
end Go.Proofs.YtklhcnnpgkkjcaaGreatDoor
