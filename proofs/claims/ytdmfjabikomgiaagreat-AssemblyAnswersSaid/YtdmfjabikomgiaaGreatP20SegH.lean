/- Laws of the printed functions. -/
import Derived.Test.YtdmfjabikomgiaaGreatP20SegA
import Derived.Test.YtdmfjabikomgiaaGreatP20SegG
import Derived.Test.YtdmfjabikomgiaaGreatRows
import Derived.ProofKit
import Derived.LaidMore
import Derived.OpenShut
import Derived.Stop.Joined
namespace Go.Ab
open Go Go.ChangeShapes Go.WideShapes Go.RowKit
variable {Y : Type} {k m n : Nat} {t : TypeId} {cs : List Value} {a : List D}
def Shows(w:World)(ds:List D)(cs:List Value):Prop:=cs.length=ds.length/\∀(j:Nat)c,ds[j]?=some c->Rep w q4o c (cs.getD j undef)
section
variable {H : Type} {enc : TypeId × Value -> H} {P : Program} {w : World} {spare : Nat -> Bool} {held : Bool}
def Opens(enc:TypeId×Value->H)(P:Program)(w:World)(spare:Nat->Bool)(held:Bool)(n:Nat)(t:TypeId)(f:Y->D)(good:Y->Prop):Prop:=∀cs d p,DataW.trod enc P w 0 spare held n t cs=some (d,p)->(d.weights P t).all (·<=reachBytes)=true->∃y,good y/\Shows w (f y).cells cs
theorem qf5{v:Value}{d:D}(h:Rep w q4o d v):Shows w [d] [v]:=⟨rfl,fun j c hj=>by grind⟩
theorem q38{k:IntKind}(ht:P.underlying t=some (.int k)):Opens enc P w spare held n t (fun z:Int=>D.v (.int k z)) (fun z=>(Lit.int k z).wf=true):=by intro cs d p h _;obtain⟨z,rfl,hx,hw⟩:=DataW.trod_int ht h;exact⟨z,hw,qf5 (.v _ rfl)⟩
theorem qzz(ht:P.underlying t=some .bool):Opens enc P w spare held n t (fun z:Bool=>D.v (.bool z)) (fun _=>True):=by intro cs d p h _;obtain⟨z,rfl,hx⟩:=DataW.trod_bool ht h;exact⟨z,trivial,qf5 (.v _ rfl)⟩
theorem qcc{e:TypeId}:∀{l:List (DataW H)},(DataW.weightsAll P e l).all (·<=reachBytes)=true->∀d∈l,(d.weights P e).all (·<=reachBytes)=true
 |[],_,d,hd=>by grind|x::r,h,d,hd=>by
  simp only[DataW.weightsAll,List.all_append,aT]at h;rcases List.mem_cons.1 hd with rfl|hd;·grind
  .exact qcc h.2 d hd
theorem q36:∀{ts:List TypeId}{l:List (DataW H)},(DataW.weightsEach P ts l).all (·<=reachBytes)=true->∀(i:Nat)t d,ts[i]?=some t->l[i]?=some d->(d.weights P t).all (·<=reachBytes)=true|[],_,_,i,t,d,h1,_=>by grind|_::_,[],_,i,t,d,_,h2=>by grind|t0::ts,d0::l,h,i,t,d,h1,h2=>by simp only[DataW.weightsEach,List.all_append,aT]at h;cases i with|zero=>simp_all|succ i=>exact q36 h.2 i t d (by simp_all) (by simp_all)
theorem ybf{Y:Type}{Q:Nat->Y->Prop}:∀(n:Nat),(∀i,i<n->∃y,Q i y)->∃ys:List Y,ys.length=n/\∀(i:Nat)y,ys[i]?=some y->Q i y|0,_=>⟨[],rfl,fun i y h=>by grind⟩|n+1,h=>by obtain⟨ys,h1,h2⟩:=ybf n (fun i hi=>h i (by omega));obtain⟨y,hy⟩:=h n (by omega);refine⟨ys++[y],by simp[h1],fun i z hz=>?_⟩;grind
theorem qkm{a:Addr}(h:w.cells? 0 a n=some cs):cs.length=n/\∀i,i<n->w.cell? (a.add i)=cs[i]?:=by unfold World.cells? at h;rw[if_pos (Nat.zero_le _)]at h;exact⟨by simpa using mapM_some_length h,fun i hi=>mapM_some_get h i i (by grind)⟩
theorem y0h{a:Addr}{u:Value}(h:w.cell? (a.add 0)=some u):a.spot=none:=by
 simp only[Addr.add,if_true,World.cell?]at h;split at h
 .split at h;·cases h
  .rename_i hs;simpa using hs
 grind
theorem q2i{sz:Nat}{e:TypeId}{f:Y->D}{good:Y->Prop}(ht:P.underlying t=some (.slice e))(hsz:P.cellsOf e=sz)(hpos:0<sz)(hb:8<=P.bytesOf e)(hf:∀y,(f y).cells.length=sz)(he:∀m,m<n->Opens enc P w spare held m e f good):Opens enc P w spare held n t (fun ys:List Y=>D.list (ys.map f)) (fun ys=>ys.length<1152921504606846976/\∀y∈ys,good y):=by
 intro cs d p h hw;rcases DataW.trod_slice ht h with⟨rfl,hx⟩|⟨a,len,cap,elems,rest,n',rfl,rfl,hx,_,hlc,_,hlen,hel,_,_⟩;·exact⟨[],⟨by simp,by simp⟩,qf5 (.empty _ _)⟩
 .simp only[pI]at hx;obtain⟨rfl,_⟩:=hx;simp only[DataW.weights,ht,List.all_cons,List.all_append,aT,dT,List.length_map]at hw;obtain⟨hw1,hw2,_⟩:=hw;have each:∀i,i<len->∃y,good y/\∃cs',w.cells? 0 (a.add (i*sz)) sz=some cs'/\Shows w (f y).cells cs':=by
   intro i hi;have h1:=hel i hi;have hie:i<elems.length:=by omega
   rw[List.getElem?_eq_getElem hie,Option.bind_eq_some_iff,hsz]at h1;obtain⟨cs',h2,h3⟩:=h1;obtain⟨y,g1,g2⟩:=he n' (by omega) cs' elems[i].1 elems[i].2 h3 (qcc hw2 _ (List.mem_map.2 ⟨_,List.getElem_mem hie,rfl⟩));grind
  obtain⟨ys,y1,y2⟩:=ybf len each;have hlenb:ys.length<1152921504606846976:=by have h8:len*8<=(elems.length+rest.length)*P.bytesOf e:=Nat.mul_le_mul (by omega) hb;have:reachBytes=140737488351232:=rfl;omega
  refine⟨ys,⟨hlenb,fun y hy=>?_⟩,qf5 ?_⟩;·obtain⟨i,hi⟩:=List.getElem?_of_mem hy;grind
  .by_cases h0:len=0;·have:ys=[]:=List.length_eq_zero_iff.1 (by omega);subst this;subst h0;exact .empty _ _
   .have hsp:a.spot=none:=by
     obtain⟨y,_,cs',h2,_⟩:=each 0 (by omega);obtain⟨h3,h4⟩:=qkm h2;have h5:=h4 0 hpos;have hlt:0<cs'.length:=by omega
     rw[List.getElem?_eq_getElem hlt,Nat.zero_mul]at h5;have:=y0h h5;simpa[Addr.add]using this
    obtain⟨b,off,sp⟩:=a;simp only at hsp;subst hsp;have hml:(ys.map f).length=len:=by simp[y1]
    have key:=Rep.list (w:=w) (I:=q4o) (ys.map f) b off cap sz (fun i j=>(w.cell? ⟨b,off+i*sz+j,none⟩).getD undef) (fun x hx=>by obtain⟨y,_,rfl⟩:=List.mem_map.1 hx;exact hf y) (by rw[hml];exact hlc) (fun i x hx j c hj=>by rw[List.getElem?_map]at hx;cases hy:ys[i]? with|none=>rw[hy]at hx;cases hx|some y=>
       rw[hy]at hx;simp only[mS,sI]at hx;subst hx;obtain⟨_,cs',h2,h3,h4⟩:=y2 i y hy;obtain⟨h5,h6⟩:=qkm h2;have hj':j<sz:=by rw[<-hf y];exact(List.getElem?_eq_some_iff.1 hj).1
       have h7:=h6 j hj';have hlt:j<cs'.length:=by omega
       rw[add_plain,add_plain,List.getElem?_eq_getElem hlt]at h7;exact⟨by rw[h7];rfl,trivial⟩) (fun i x hx j c hj=>by rw[List.getElem?_map]at hx;cases hy:ys[i]? with|none=>rw[hy]at hx;cases hx|some y=>
       rw[hy]at hx;simp only[mS,sI]at hx;subst hx;obtain⟨_,cs',h2,h3,h4⟩:=y2 i y hy;obtain⟨h5,h6⟩:=qkm h2;have hj':j<sz:=by rw[<-hf y];exact(List.getElem?_eq_some_iff.1 hj).1
       have h7:=h6 j hj';have hlt:j<cs'.length:=by omega
       rw[add_plain,add_plain,List.getElem?_eq_getElem hlt]at h7;have h8:=h4 j c hj;rw[List.getD_eq_getElem?_getD,List.getElem?_eq_getElem hlt]at h8;rw[h7];exact h8);simp_all
theorem q45{fs:Array Field}{d:DataW H}{p:List MemPlace}(ht:P.underlying t=some (.struct fs))(h:DataW.trod enc P w 0 spare held n t cs=some (d,p))(hw:(d.weights P t).all (·<=reachBytes)=true):∃m,n=m+1/\cs.length=P.cellsOf t/\∀(i:Nat)(f:Field),fs[i]?=some f->∃d' p',DataW.trod enc P w 0 spare held m f.type ((cs.drop f.offset).take (P.cellsOf f.type))=some (d',p')/\(d'.weights P f.type).all (·<=reachBytes)=true:=by
 obtain⟨xs,m,rfl,hx,hl,hn,hf⟩:=DataW.trod_struct ht h;simp only[pI]at hx;obtain⟨rfl,_⟩:=hx;simp only[DataW.weights,ht]at hw;refine⟨m,rfl,hl,fun i f hi=>?_⟩;have hlt:i<xs.length:=by grind
 have h1:=hf i f hi;rw[List.getElem?_eq_getElem hlt]at h1;exact⟨_,_,h1,q36 hw i f.type _ (by simp_all) (by grind)⟩
theorem q1h{b:List D}(hm:a.length=m)(h1:Shows w a ((cs.drop k).take m))(h2:Shows w b (cs.drop (k+m))):Shows w (a++b) (cs.drop k):=by
 have hle:m<=cs.length-k:=by have:=h1.1;grind
 refine⟨by have:=h2.1;grind,fun j c hj=>?_⟩;rw[List.getElem?_append]at hj;split at hj;·rename_i hlt;have:=h1.2 j c hj;grind
 .rename_i hge;have:=h2.2 _ c hj;grind
theorem q5u(h:Shows w a ((cs.drop k).take m))(hm:cs.length=k+m):Shows w a (cs.drop k):=by rw[List.take_of_length_le (by simp_all)]at h;exact h
theorem qk6{ds:List D}{cs:Array Value}(h:Shows w ds cs.toList):Rep w q4o (.agg ds) (.agg cs):=.agg ds cs (by simpa using h.1) (fun j c hj=>by have:=h.2 j c hj;simp_all)
end
end Go.Ab
namespace Go.Proofs.YtdmfjabikomgiaaGreat
open Go Go.Ab Go.ChangeShapes Go.WideShapes Go.RowKit
variable {k m n : Nat} {t : TypeId} {cs : List Value}
section
variable {H : Type} {enc : TypeId × Value -> H} {w : World} {spare : Nat -> Bool} {held : Bool}
theorem qtz(t:Trust):(q0z t).cells.length=3:=by cases t;rfl
theorem yc4{l:LT}(h:∀x∈l,raw x=true):raws l=true:=by induction l with|nil=>rfl|cons y r ih=>simp only[raws,h y (by simp),ih (fun x hx=>h x (by grind)),Bool.and_self]
theorem q8y:∀n,Opens enc Tryz.prog w spare held n 56 q0z (fun t=>raw t=true):=by intro n;induction n using Nat.strongRecOn with|_ n ih=>
  intro cs d p h hw;obtain⟨m,rfl,hl,hf⟩:=q45 Tryz.underlying56 h hw;have c56:Tryz.prog.cellsOf 56=3:=by kernel_rfl
  have c3:Tryz.prog.cellsOf 3=1:=by kernel_rfl
  have c22:Tryz.prog.cellsOf 22=1:=by kernel_rfl
  have c54:Tryz.prog.cellsOf 54=1:=by kernel_rfl
  have b3:Tryz.prog.bytesOf 3=8:=by kernel_rfl
  have b56:8<=Tryz.prog.bytesOf 56:=of_decide_eq_true (by kernel_rfl);obtain⟨d0,p0,t0,w0⟩:=hf 0 _ rfl;obtain⟨d1,p1,t1,w1⟩:=hf 1 _ rfl;obtain⟨d2,p2,t2,w2⟩:=hf 2 _ rfl;replace t0:DataW.trod enc Tryz.prog w 0 spare held m 3 ((cs.drop 0).take (Tryz.prog.cellsOf 3))=some (d0,p0):=t0;replace t1:DataW.trod enc Tryz.prog w 0 spare held m 22 ((cs.drop 1).take (Tryz.prog.cellsOf 22))=some (d1,p1):=t1;replace t2:DataW.trod enc Tryz.prog w 0 spare held m 54 ((cs.drop 2).take (Tryz.prog.cellsOf 54))=some (d2,p2):=t2;rw[c3]at t0;rw[c22]at t1;rw[c54]at t2;obtain⟨z,z1,z2⟩:=q38 Tryz.underlying3 _ _ _ t0 w0;obtain⟨ns,n1,n2⟩:=q2i (f:=q23) (good:=fun z=>(Lit.int .i64 z).wf=true) Tryz.underlying22 c3 (by decide) (by omega) (fun _=>rfl) (fun k _=>q38 Tryz.underlying3) _ _ _ t1 w1;obtain⟨is,i1,i2⟩:=q2i (f:=q0z) (good:=fun t=>raw t=true) Tryz.underlying54 c56 (by decide) b56 qtz (fun k hk=>ih k (by omega)) _ _ _ t2 w2;refine⟨⟨z,ns,is⟩,?_,?_⟩;·have:=bounds_i64 z1;show raw ⟨z,ns,is⟩=true;rw[yb9];simp only[aT,dT];exact⟨by omega,n1.1,i1.1,yc4 i1.2⟩
  .show Shows w ([D.v (.int .i64 z)]++([D.list (ns.map q23)]++[D.list (q3r is)])) (cs.drop 0);rw[q2w];exact q1h (m:=1) rfl z2 (q1h (m:=1) rfl n2 (q5u i2 (by omega)))
theorem qs9(n:Nat):Opens enc Tryz.prog w spare held n 111 q1o (fun m=>raw m.Trust=true):=by
 intro cs d p h hw;obtain⟨m,rfl,hl,hf⟩:=q45 Tryz.underlying111 h hw;have c111:Tryz.prog.cellsOf 111=4:=by kernel_rfl
 have c56:Tryz.prog.cellsOf 56=3:=by kernel_rfl
 have c4:Tryz.prog.cellsOf 4=1:=by kernel_rfl
 obtain⟨d0,p0,t0,w0⟩:=hf 0 _ rfl;obtain⟨d1,p1,t1,w1⟩:=hf 1 _ rfl;replace t0:DataW.trod enc Tryz.prog w 0 spare held m 4 ((cs.drop 0).take (Tryz.prog.cellsOf 4))=some (d0,p0):=t0;replace t1:DataW.trod enc Tryz.prog w 0 spare held m 56 ((cs.drop 1).take (Tryz.prog.cellsOf 56))=some (d1,p1):=t1;rw[c4]at t0;rw[c56]at t1;obtain⟨b,_,z2⟩:=qzz Tryz.underlying4 _ _ _ t0 w0;obtain⟨t,g1,g2⟩:=q8y _ _ _ _ t1 w1;refine⟨⟨b,t⟩,g1,?_⟩;obtain⟨thr,ns,is⟩:=t;show Shows w ([D.v (.bool b)]++[.v (.int .i64 thr),.list (ns.map q23),.list (is.map q0z)]) (cs.drop 0);rw[<-q2w];exact q1h (m:=1) rfl z2 (q5u g2 (by omega))
theorem qru(n:Nat):Opens enc Tryz.prog w spare held n 27 q3q (fun c=>∀m∈c.Members,raw m.Trust=true):=by
 intro cs d p h hw;obtain⟨m,rfl,hl,hf⟩:=q45 Tryz.underlying27 h hw;have c27:Tryz.prog.cellsOf 27=1:=by kernel_rfl
 have c111:Tryz.prog.cellsOf 111=4:=by kernel_rfl
 have c25:Tryz.prog.cellsOf 25=1:=by kernel_rfl
 have b111:8<=Tryz.prog.bytesOf 111:=of_decide_eq_true (by kernel_rfl);obtain⟨d0,p0,t0,w0⟩:=hf 0 _ rfl;replace t0:DataW.trod enc Tryz.prog w 0 spare held m 25 ((cs.drop 0).take (Tryz.prog.cellsOf 25))=some (d0,p0):=t0;rw[c25]at t0;obtain⟨ms,g1,g2⟩:=q2i (f:=q1o) (good:=fun m=>raw m.Trust=true) Tryz.underlying25 c111 (by decide) b111 (fun _=>rfl) (fun k _=>qs9 k) _ _ _ t0 w0;exact⟨⟨ms⟩,g1.2,q5u g2 (by omega)⟩
theorem q5e(n:Nat):Opens enc Tryz.prog w spare held n 66 q0h (fun _x=>True):=by
 intro cs d p h hw;obtain⟨m,rfl,hl,hf⟩:=q45 Tryz.underlying66 h hw;have c66:Tryz.prog.cellsOf 66=2:=by kernel_rfl
 have c3:Tryz.prog.cellsOf 3=1:=by kernel_rfl
 obtain⟨d0,p0,t0,w0⟩:=hf 0 _ rfl;replace t0:DataW.trod enc Tryz.prog w 0 spare held m 3 ((cs.drop 0).take (Tryz.prog.cellsOf 3))=some (d0,p0):=t0;rw[c3]at t0;obtain⟨z0,_,s0⟩:=q38 Tryz.underlying3 _ _ _ t0 w0;obtain⟨d1,p1,t1,w1⟩:=hf 1 _ rfl;replace t1:DataW.trod enc Tryz.prog w 0 spare held m 3 ((cs.drop 1).take (Tryz.prog.cellsOf 3))=some (d1,p1):=t1;rw[c3]at t1;obtain⟨z1,_,s1⟩:=q38 Tryz.underlying3 _ _ _ t1 w1;refine⟨⟨z0,z1⟩,trivial,?_⟩;show Shows w ([D.v (.int .i64 z0)]++([D.v (.int .i64 z1)])) (cs.drop 0);exact q1h (m:=1) rfl s0 (q5u s1 (by omega))
theorem qe4(n:Nat):Opens enc Tryz.prog w spare held n 68 q1d (fun x=>RawM x):=by
 intro cs d p h hw;obtain⟨m,rfl,hl,hf⟩:=q45 Tryz.underlying68 h hw;have c66:Tryz.prog.cellsOf 66=2:=by kernel_rfl
 have c51:Tryz.prog.cellsOf 51=1:=by kernel_rfl
 have c68:Tryz.prog.cellsOf 68=7:=by kernel_rfl
 have c56:Tryz.prog.cellsOf 56=3:=by kernel_rfl
 have c3:Tryz.prog.cellsOf 3=1:=by kernel_rfl
 have b66:8<=Tryz.prog.bytesOf 66:=of_decide_eq_true (by kernel_rfl);obtain⟨d0,p0,t0,w0⟩:=hf 0 _ rfl;replace t0:DataW.trod enc Tryz.prog w 0 spare held m 3 ((cs.drop 0).take (Tryz.prog.cellsOf 3))=some (d0,p0):=t0;rw[c3]at t0;obtain⟨z0,_,s0⟩:=q38 Tryz.underlying3 _ _ _ t0 w0;obtain⟨d1,p1,t1,w1⟩:=hf 1 _ rfl;replace t1:DataW.trod enc Tryz.prog w 0 spare held m 3 ((cs.drop 1).take (Tryz.prog.cellsOf 3))=some (d1,p1):=t1;rw[c3]at t1;obtain⟨z1,_,s1⟩:=q38 Tryz.underlying3 _ _ _ t1 w1;obtain⟨d2,p2,t2,w2⟩:=hf 2 _ rfl;replace t2:DataW.trod enc Tryz.prog w 0 spare held m 56 ((cs.drop 2).take (Tryz.prog.cellsOf 56))=some (d2,p2):=t2;rw[c56]at t2;obtain⟨z2,g2,s2⟩:=q8y _ _ _ _ t2 w2;obtain⟨d3,p3,t3,w3⟩:=hf 3 _ rfl;replace t3:DataW.trod enc Tryz.prog w 0 spare held m 51 ((cs.drop 5).take (Tryz.prog.cellsOf 51))=some (d3,p3):=t3;rw[c51]at t3;obtain⟨z3,g3,s3⟩:=q2i (f:=q0h) (good:=fun _=>True) Tryz.underlying51 c66 (by decide) b66 (fun _=>rfl) (fun k _=>q5e k) _ _ _ t3 w3;obtain⟨d4,p4,t4,w4⟩:=hf 4 _ rfl;replace t4:DataW.trod enc Tryz.prog w 0 spare held m 51 ((cs.drop 6).take (Tryz.prog.cellsOf 51))=some (d4,p4):=t4;rw[c51]at t4;obtain⟨z4,g4,s4⟩:=q2i (f:=q0h) (good:=fun _=>True) Tryz.underlying51 c66 (by decide) b66 (fun _=>rfl) (fun k _=>q5e k) _ _ _ t4 w4;refine⟨⟨z0,z1,z2,z3,z4⟩,⟨g2,g3.1,g4.1⟩,?_⟩;obtain⟨thr,ns,is⟩:=z2;show Shows w ([D.v (.int .i64 z0)]++([D.v (.int .i64 z1)]++([D.v (.int .i64 thr),.list (ns.map q23),.list (is.map q0z)]++([D.list (z3.map q0h)]++([D.list (z4.map q0h)]))))) (cs.drop 0);rw[<-q2w is];exact q1h (m:=1) rfl s0 (q1h (m:=1) rfl s1 (q1h (m:=3) rfl s2 (q1h (m:=1) rfl s3 (q5u s4 (by omega)))))
theorem qtj(n:Nat):Opens enc Tryz.prog w spare held n 59 q39 (fun x=>RawV x):=by
 intro cs d p h hw;obtain⟨m,rfl,hl,hf⟩:=q45 Tryz.underlying59 h hw;have c66:Tryz.prog.cellsOf 66=2:=by kernel_rfl
 have c51:Tryz.prog.cellsOf 51=1:=by kernel_rfl
 have c57:Tryz.prog.cellsOf 57=1:=by kernel_rfl
 have c68:Tryz.prog.cellsOf 68=7:=by kernel_rfl
 have c56:Tryz.prog.cellsOf 56=3:=by kernel_rfl
 have c59:Tryz.prog.cellsOf 59=9:=by kernel_rfl
 have c3:Tryz.prog.cellsOf 3=1:=by kernel_rfl
 have b66:8<=Tryz.prog.bytesOf 66:=of_decide_eq_true (by kernel_rfl);have b68:8<=Tryz.prog.bytesOf 68:=of_decide_eq_true (by kernel_rfl);obtain⟨d0,p0,t0,w0⟩:=hf 0 _ rfl;replace t0:DataW.trod enc Tryz.prog w 0 spare held m 3 ((cs.drop 0).take (Tryz.prog.cellsOf 3))=some (d0,p0):=t0;rw[c3]at t0;obtain⟨z0,_,s0⟩:=q38 Tryz.underlying3 _ _ _ t0 w0;obtain⟨d1,p1,t1,w1⟩:=hf 1 _ rfl;replace t1:DataW.trod enc Tryz.prog w 0 spare held m 3 ((cs.drop 1).take (Tryz.prog.cellsOf 3))=some (d1,p1):=t1;rw[c3]at t1;obtain⟨z1,_,s1⟩:=q38 Tryz.underlying3 _ _ _ t1 w1;obtain⟨d2,p2,t2,w2⟩:=hf 2 _ rfl;replace t2:DataW.trod enc Tryz.prog w 0 spare held m 56 ((cs.drop 2).take (Tryz.prog.cellsOf 56))=some (d2,p2):=t2;rw[c56]at t2;obtain⟨z2,g2,s2⟩:=q8y _ _ _ _ t2 w2;obtain⟨d3,p3,t3,w3⟩:=hf 3 _ rfl;replace t3:DataW.trod enc Tryz.prog w 0 spare held m 51 ((cs.drop 5).take (Tryz.prog.cellsOf 51))=some (d3,p3):=t3;rw[c51]at t3;obtain⟨z3,g3,s3⟩:=q2i (f:=q0h) (good:=fun _=>True) Tryz.underlying51 c66 (by decide) b66 (fun _=>rfl) (fun k _=>q5e k) _ _ _ t3 w3;obtain⟨d4,p4,t4,w4⟩:=hf 4 _ rfl;replace t4:DataW.trod enc Tryz.prog w 0 spare held m 51 ((cs.drop 6).take (Tryz.prog.cellsOf 51))=some (d4,p4):=t4;rw[c51]at t4;obtain⟨z4,g4,s4⟩:=q2i (f:=q0h) (good:=fun _=>True) Tryz.underlying51 c66 (by decide) b66 (fun _=>rfl) (fun k _=>q5e k) _ _ _ t4 w4;obtain⟨d5,p5,t5,w5⟩:=hf 5 _ rfl;replace t5:DataW.trod enc Tryz.prog w 0 spare held m 51 ((cs.drop 7).take (Tryz.prog.cellsOf 51))=some (d5,p5):=t5;rw[c51]at t5;obtain⟨z5,g5,s5⟩:=q2i (f:=q0h) (good:=fun _=>True) Tryz.underlying51 c66 (by decide) b66 (fun _=>rfl) (fun k _=>q5e k) _ _ _ t5 w5;obtain⟨d6,p6,t6,w6⟩:=hf 6 _ rfl;replace t6:DataW.trod enc Tryz.prog w 0 spare held m 57 ((cs.drop 8).take (Tryz.prog.cellsOf 57))=some (d6,p6):=t6;rw[c57]at t6;obtain⟨z6,g6,s6⟩:=q2i (f:=q1d) (good:=fun x=>RawM x) Tryz.underlying57 c68 (by decide) b68 (fun _=>rfl) (fun k _=>qe4 k) _ _ _ t6 w6;refine⟨⟨z0,z1,z2,z3,z4,z5,z6⟩,⟨g2,g3.1,g4.1,g5.1,g6.1,g6.2⟩,?_⟩;obtain⟨thr,ns,is⟩:=z2;show Shows w ([D.v (.int .i64 z0)]++([D.v (.int .i64 z1)]++([D.v (.int .i64 thr),.list (ns.map q23),.list (is.map q0z)]++([D.list (z3.map q0h)]++([D.list (z4.map q0h)]++([D.list (z5.map q0h)]++([D.list (z6.map q1d)]))))))) (cs.drop 0);rw[<-q2w is];exact q1h (m:=1) rfl s0 (q1h (m:=1) rfl s1 (q1h (m:=3) rfl s2 (q1h (m:=1) rfl s3 (q1h (m:=1) rfl s4 (q1h (m:=1) rfl s5 (q5u s6 (by omega)))))))
theorem qm9(n:Nat):Opens enc Tryz.prog w spare held n 70 q1l (fun x=>RawP x):=by
 intro cs d p h hw;obtain⟨m,rfl,hl,hf⟩:=q45 Tryz.underlying70 h hw;have c66:Tryz.prog.cellsOf 66=2:=by kernel_rfl
 have c68:Tryz.prog.cellsOf 68=7:=by kernel_rfl
 have c70:Tryz.prog.cellsOf 70=15:=by kernel_rfl
 have c56:Tryz.prog.cellsOf 56=3:=by kernel_rfl
 have c3:Tryz.prog.cellsOf 3=1:=by kernel_rfl
 obtain⟨d0,p0,t0,w0⟩:=hf 0 _ rfl;replace t0:DataW.trod enc Tryz.prog w 0 spare held m 3 ((cs.drop 0).take (Tryz.prog.cellsOf 3))=some (d0,p0):=t0;rw[c3]at t0;obtain⟨z0,_,s0⟩:=q38 Tryz.underlying3 _ _ _ t0 w0;obtain⟨d1,p1,t1,w1⟩:=hf 1 _ rfl;replace t1:DataW.trod enc Tryz.prog w 0 spare held m 3 ((cs.drop 1).take (Tryz.prog.cellsOf 3))=some (d1,p1):=t1;rw[c3]at t1;obtain⟨z1,_,s1⟩:=q38 Tryz.underlying3 _ _ _ t1 w1;obtain⟨d2,p2,t2,w2⟩:=hf 2 _ rfl;replace t2:DataW.trod enc Tryz.prog w 0 spare held m 3 ((cs.drop 2).take (Tryz.prog.cellsOf 3))=some (d2,p2):=t2;rw[c3]at t2;obtain⟨z2,_,s2⟩:=q38 Tryz.underlying3 _ _ _ t2 w2;obtain⟨d3,p3,t3,w3⟩:=hf 3 _ rfl;replace t3:DataW.trod enc Tryz.prog w 0 spare held m 66 ((cs.drop 3).take (Tryz.prog.cellsOf 66))=some (d3,p3):=t3;rw[c66]at t3;obtain⟨z3,g3,s3⟩:=q5e _ _ _ _ t3 w3;obtain⟨d4,p4,t4,w4⟩:=hf 4 _ rfl;replace t4:DataW.trod enc Tryz.prog w 0 spare held m 56 ((cs.drop 5).take (Tryz.prog.cellsOf 56))=some (d4,p4):=t4;rw[c56]at t4;obtain⟨z4,g4,s4⟩:=q8y _ _ _ _ t4 w4;obtain⟨d5,p5,t5,w5⟩:=hf 5 _ rfl;replace t5:DataW.trod enc Tryz.prog w 0 spare held m 68 ((cs.drop 8).take (Tryz.prog.cellsOf 68))=some (d5,p5):=t5;rw[c68]at t5;obtain⟨z5,g5,s5⟩:=qe4 _ _ _ _ t5 w5;refine⟨⟨z0,z1,z2,z3,z4,z5⟩,⟨g4,g5⟩,?_⟩;obtain⟨ct,cv⟩:=z3;obtain⟨thr,ns,is⟩:=z4;obtain⟨mn,ms,⟨mt,mns,mis⟩,mv,ma⟩:=z5;show Shows w ([D.v (.int .i64 z0)]++([D.v (.int .i64 z1)]++([D.v (.int .i64 z2)]++([D.v (.int .i64 ct),.v (.int .i64 cv)]++([D.v (.int .i64 thr),.list (ns.map q23),.list (is.map q0z)]++([D.v (.int .i64 mn),.v (.int .i64 ms),.v (.int .i64 mt),.list (mns.map q23),.list (mis.map q0z),.list (mv.map q0h),.list (ma.map q0h)])))))) (cs.drop 0);rw[<-q2w is];exact q1h (m:=1) rfl s0 (q1h (m:=1) rfl s1 (q1h (m:=1) rfl s2 (q1h (m:=2) rfl s3 (q1h (m:=3) rfl s4 (q5u s5 (by omega))))))
theorem qo6(n:Nat):Opens enc Tryz.prog w spare held n 33 q2y (fun x=>∀v∈x.Voters,RawV v):=by
 intro cs d p h hw;obtain⟨m,rfl,hl,hf⟩:=q45 Tryz.underlying33 h hw;have c31:Tryz.prog.cellsOf 31=1:=by kernel_rfl
 have c33:Tryz.prog.cellsOf 33=3:=by kernel_rfl
 have c59:Tryz.prog.cellsOf 59=9:=by kernel_rfl
 have c3:Tryz.prog.cellsOf 3=1:=by kernel_rfl
 have b59:8<=Tryz.prog.bytesOf 59:=of_decide_eq_true (by kernel_rfl);obtain⟨d0,p0,t0,w0⟩:=hf 0 _ rfl;replace t0:DataW.trod enc Tryz.prog w 0 spare held m 31 ((cs.drop 0).take (Tryz.prog.cellsOf 31))=some (d0,p0):=t0;rw[c31]at t0;obtain⟨z0,g0,s0⟩:=q2i (f:=q39) (good:=fun x=>RawV x) Tryz.underlying31 c59 (by decide) b59 (fun _=>rfl) (fun k _=>qtj k) _ _ _ t0 w0;obtain⟨d1,p1,t1,w1⟩:=hf 1 _ rfl;replace t1:DataW.trod enc Tryz.prog w 0 spare held m 3 ((cs.drop 1).take (Tryz.prog.cellsOf 3))=some (d1,p1):=t1;rw[c3]at t1;obtain⟨z1,_,s1⟩:=q38 Tryz.underlying3 _ _ _ t1 w1;obtain⟨d2,p2,t2,w2⟩:=hf 2 _ rfl;replace t2:DataW.trod enc Tryz.prog w 0 spare held m 3 ((cs.drop 2).take (Tryz.prog.cellsOf 3))=some (d2,p2):=t2;rw[c3]at t2;obtain⟨z2,_,s2⟩:=q38 Tryz.underlying3 _ _ _ t2 w2;refine⟨⟨z0,z1,z2⟩,g0.2,?_⟩;show Shows w ([D.list (z0.map q39)]++([D.v (.int .i64 z1)]++([D.v (.int .i64 z2)]))) (cs.drop 0);exact q1h (m:=1) rfl s0 (q1h (m:=1) rfl s1 (q5u s2 (by omega)))
end
end Go.Proofs.YtdmfjabikomgiaaGreat
namespace Go.Proofs.YtdmfjabikomgiaaGreat
open Go Go.Ab Go.ChangeShapes Go.WideShapes Go.ChangeAt Go.WideMaps Go.WideElems Go.RowKit
theorem Tryz.own:ownKnob Tryz.prog.godebug=none:=by kernel_rfl
theorem Tryz.laidOut:laidOutB Tryz.prog=true:=by kernel_rfl
end Go.Proofs.YtdmfjabikomgiaaGreat
