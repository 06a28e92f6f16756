/- Laws of the printed functions. -/
import Derived.Test.YtglokalgdbegeaaGreatMachC
import Derived.WalkKit
import Derived.OwnWalk
import Derived.Lib.AppendZeros
import Derived.Lib.AppendZerosOnto
import Derived.Deep.RegionHeld3
import Derived.Shelf.RegionOpenPlain
import Derived.Test.YtglokalgdbegeaaGreatN22Env
import Derived.Test.YtglokalgdbegeaaGreatN22Df
import Derived.Test.YtglokalgdbegeaaGreatN22Fn0
import Derived.Test.YtglokalgdbegeaaGreatN22Fn1
import Derived.Test.YtglokalgdbegeaaGreatN22Fn2
import Derived.Test.YtglokalgdbegeaaGreatN22Fn3
import Derived.Test.YtglokalgdbegeaaGreatN22Fn4
import Derived.Test.YtglokalgdbegeaaGreatN22Fn5
import Derived.Test.YtglokalgdbegeaaGreatN22Fn6
import Derived.Test.YtglokalgdbegeaaGreatN22Fn7
import Derived.Test.YtglokalgdbegeaaGreatMachT
import Derived.Sort.Statements
namespace Go.Proofs.YtglokalgdbegeaaGreat
open Go Go.Ab Go.RowKit Go.Lib
variable {w w' : World} {X : Cx} {args : Array Value} {sz : Nat} {x : D} {ds : List D} {row : List Value}
theorem ya5{v:AV}(h:Ab.ArgRel w X [v] args):args=#[args.getD 0 undef]/\RVl w X (.res 0) v (args.getD 0 undef):=by
 refine⟨?_,(h.2 0 v rfl).2⟩;apply Array.ext;·exact h.1
 .intro i h1 h2;have hi:i=0:=by simp at h2;omega
  subst hi;simp[Array.getD_eq_getD_getElem?,h1]
theorem q5v(h:q7c sz x=true):x.cells.length=sz/\∀c∈x.cells,c.isAgg=false:=by simp only[q7c,aT,dT,List.all_eq_true,Bool.not_eq_true']at h;exact h
structure Al(w w':World):Prop where
 heap:w'.heap=w.heap
 os:w'.os=w.os
 tape:w'.tape=w.tape
 output:w'.output=w.output
theorem Al.refl(w:World):Al w w:=⟨rfl,rfl,rfl,rfl⟩
theorem Al.drew(h:Al w w'):Al w w'.drew:=⟨h.heap,h.os,h.tape,h.output⟩
theorem Al.grown(h:Al w w')(b:Nat):w.grownBy w' (some b):=⟨h.os,h.tape,h.output,by rw[h.heap];exact Nat.le_refl _,fun k _ _=>by rw[h.heap]⟩
theorem qix{xs:List D}(hH:HRel env X [[.own xs false]] w)(hA:RVl w X (.res 0) (.ref 0) (args.getD 0 undef)):X.mu[0]?=some (.head (args.getD 0 undef))/\OwnOk w X (.cell 0 0) xs false (args.getD 0 undef):=by
 obtain⟨h1,_⟩:=hA;refine⟨h1,?_⟩;rcases hH.heap 0 _ rfl with⟨b,cur,e,hb,_⟩|⟨v,c,hv,hc,hr⟩;·rw[h1]at hb;cases hb
 .rw[h1]at hv;cases hv;cases hc;exact hr
theorem RowRep.take{I:Nat->Nat->Prop}(h:RowRep w I sz ds row)(n:Nat):RowRep w I sz (ds.take n) (row.take (n*sz)):=by
 obtain⟨h1,h2,h3⟩:=h;refine⟨?_,fun x hx=>h2 x (List.mem_of_mem_take hx),fun i x hx j c hj=>?_⟩;·rw[List.length_take,List.length_take,h1,Nat.mul_comm n,Nat.mul_comm ds.length,Nat.mul_min_mul_left,Nat.mul_comm]
 .rw[List.getElem?_take]at hx;split at hx
  .rename_i hin;obtain⟨u,hu,hr⟩:=h3 i x hx j c hj;have hj2:j<sz:=by rw[<-h2 x (List.mem_of_getElem? hx)];exact(List.getElem?_eq_some_iff.1 hj).1
   have:(i+1)*sz<=n*sz:=Nat.mul_le_mul_right _ hin;rw[Nat.add_mul]at this;exact⟨u,by rw[List.getElem?_take,if_pos (by omega)];exact hu,hr⟩
  .cases hx
theorem RowRep.drop{I:Nat->Nat->Prop}(h:RowRep w I sz ds row)(n:Nat):RowRep w I sz (ds.drop n) (row.drop (n*sz)):=by obtain⟨h1,h2,h3⟩:=h;refine⟨by rw[List.length_drop,List.length_drop,h1,Nat.sub_mul],fun x hx=>h2 x (List.mem_of_mem_drop hx),fun i x hx j c hj=>?_⟩;rw[List.getElem?_drop]at hx;obtain⟨u,hu,hr⟩:=h3 _ x hx j c hj;exact⟨u,by rw[List.getElem?_drop,<-Nat.add_assoc,<-Nat.add_mul];exact hu,hr⟩
theorem qqm{a b c:AV}(h:Ab.ArgRel w X [a,b,c] args):args=#[args.getD 0 undef,args.getD 1 undef,args.getD 2 undef]/\RVl w X (.res 0) a (args.getD 0 undef)/\RVl w X (.res 1) b (args.getD 1 undef)/\RVl w X (.res 2) c (args.getD 2 undef):=by
 refine⟨?_,(h.2 0 a rfl).2,(h.2 1 b rfl).2,(h.2 2 c rfl).2⟩;apply Array.ext;·exact h.1
 .intro i h1 h2;have h3:i<3:=by simpa using h2
  rcases(by omega:i=0\/i=1\/i=2)with rfl|rfl|rfl<;>simp[Array.getD_eq_getD_getElem?,h1]
theorem y36{I:Nat->Nat->Prop}{b o c:Nat}(h:Rep w I (.list [x]) (.slice (some ⟨b,o,none⟩) 1 c))(hx:0<x.cells.length):I b o:=by generalize hv:Value.slice (some ⟨b,o,none⟩) 1 c=v at h;cases h with|list _ b off cap sz V hs hc hh hr=>cases hv;have:=(hh 0 x rfl 0 x.cells[0] (by simp[hx])).2;simpa using this
variable {cur : Array Value} {cs vs : List Value} {cap i n : Nat} {w w' : World} {X : Cx} {xs : List D}
abbrev zMsgN:Value:=.agg #[.int .i64 0,.int .i64 0,.int .i64 0,.slice none 0 0,.slice none 0 0,.slice none 0 0,.slice none 0 0]
set_option maxRecDepth 100000 in
theorem qzk:∃i,Tryz.prog.info? 55=some i/\i.zero=some zMsgN/\i.size=7/\i.bytes=120:=⟨_,rfl,rfl,rfl,rfl⟩
set_option maxHeartbeats 4000000 in
set_option maxRecDepth 100000 in
theorem qnn(b n cap i vb vo vc:Nat)(cs vs:List Value)(cur:Array Value)(e1:TypeId)(w:World)(hi:i<n)(hroom:n+1<=cap)(hn:n<=1073741824)(hc63:cap<=9223372036854775807)(hvb:vb≠b)(hw:w.heap[b]?=some (.cells cur e1 (0,0)))(hsz:cur.size=cap*7)(hcl:cs.length=n*7)(hvl:vs.length=7)(hcs:∀(k:Nat)u,cs[k]?=some u->cur[k]?=some u)(hvs:∀(k:Nat)u,vs[k]?=some u->w.cell? ⟨vb,vo+k,none⟩=some u)(h1c:∀u∈cs,u.oneCell'=true)(h1v:∀u∈vs,u.oneCell'=true):Calls Tryz.prog 72 #[.slice (some ⟨b,0,none⟩) n cap,.int .i64 i,.slice (some ⟨vb,vo,none⟩) 1 vc] w fun e w'=>e=.returned (.slice (some ⟨b,0,none⟩) (n+1) cap)/\w'=(w.drew.setRow b (q0r cur ((i+1)*7) (cs.drop (i*7)))).setRow b (q0r (q0r cur ((i+1)*7) (cs.drop (i*7))) (i*7) vs):=by
 obtain⟨i0,hi0,hz0,hzs,hzb⟩:=qzk;have hz2:¬((i:Int)=(n:Int)):=by omega
 have hcell:w.cell? ⟨vb,vo,none⟩=some vs[0]:=hvs 0 _ (by simp[hvl]);obtain⟨cA,tA,fA,hA,hA0⟩:∃cA tA f,w.heap[vb]?=some (.cells cA tA f)/\cA.size≠0:=by
  unfold World.cell? at hcell;split at hcell;·rename_i cA tA f hq;refine⟨cA,tA,f,hq,fun h=>?_⟩;simp[h]at hcell
  all_goals cases hcell
 have hov:∀lb cb,(callFunc 115 #[.slice (some ⟨vb,vo,none⟩) 1 vc,.slice (some ⟨b,(i+1)*7,none⟩) lb cb]).run Tryz.prog w=.ok (.value (.bool false)) w:=fun lb cb=>by rw[run_callFunc_extern Tryz.func115 (by kernel_rfl) (by kernel_rfl) (by kernel_rfl) (e:=Extern.SlicesOverlaps.overlaps #[35,35] #[4]) (by kernel_rfl),qc4 w 35 4 55 Tryz.underlying35 hi0 ⟨vb,vo,none⟩ ⟨b,(i+1)*7,none⟩ 1 vc lb cb hvb hA hw (by omega) hA0];rfl
 have hdl:(cs.drop (i*7)).length=(n-i)*7:=by rw[List.length_drop,hcl,Nat.sub_mul]
 have hfit1:(i+1)*7+(cs.drop (i*7)).length<=cur.size:=by rw[hdl,hsz];omega
 have hcp1:∀ty dc sc,(Builtin.copy_ #[35,35] ty #[.slice (some ⟨b,(i+1)*7,none⟩) (n-i) dc,.slice (some ⟨b,i*7,none⟩) (n+1-i) sc]).run Tryz.prog w.drew=.ok (goInt ((n-i:Nat):Int)) (w.drew.setRow b (q0r cur ((i+1)*7) (cs.drop (i*7)))):=fun ty dc sc=>q3d (w:=w.drew) Tryz.underlying35 hi0 hw ⟨b,i*7,none⟩ (cs.drop (i*7)) (by omega) (by rw[hdl,hzs]) (fun j u hj=>by rw[List.getElem?_drop]at hj;rw[q1r];exact(cell_of_row w b _ cur e1 (0,0) hw).trans (hcs _ u hj)) (fun u hu=>h1c u (List.mem_of_mem_drop hu)) hfit1;have hfit2:i*7+vs.length<=(q0r cur ((i+1)*7) (cs.drop (i*7))).size:=by rw[q2m _ _ _ hfit1,hvl,hsz];omega
 have hcp2:∀ty dc,(Builtin.copy_ #[35,35] ty #[.slice (some ⟨b,i*7,none⟩) (n+1-i) dc,.slice (some ⟨vb,vo,none⟩) 1 vc]).run Tryz.prog (w.drew.setRow b (q0r cur ((i+1)*7) (cs.drop (i*7))))=.ok (goInt ((1:Nat):Int)) ((w.drew.setRow b (q0r cur ((i+1)*7) (cs.drop (i*7)))).setRow b (q0r (q0r cur ((i+1)*7) (cs.drop (i*7))) (i*7) vs)):=fun ty dc=>q3d (w:=w.drew.setRow b (q0r cur ((i+1)*7) (cs.drop (i*7)))) Tryz.underlying35 hi0 (setRow_heap _ _ _ _ _ _ hw) ⟨vb,vo,none⟩ vs (by omega) (by rw[hvl,hzs]) (fun j u hj=>by rw[q1r];exact(cell?_of_heap (setRow_other _ b vb _ hvb) _).trans (hvs j u hj)) h1v hfit2;have hw1:IntKind.i64.wrap ((i:Int)+1)=(i:Int)+1:=by rw[IntKind.wrap_i64];omega
 have hwn:IntKind.i64.wrap ((n:Int)+1)=(n:Int)+1:=by rw[IntKind.wrap_i64];omega
 have hb1:(0:Int)<=(i:Int)+1:=by omega
 have hin:i<=n:=by omega
 have htn:((i:Int)+1).toNat=i+1:=by omega
 have htn2:((n:Int)+1).toNat=n+1:=by omega
 have hb2:¬(cap=i+1):=by omega
 have hb3:(i:Int)<=(n:Int)+1:=by omega
 have hb4:¬(cap=i):=by omega
 have mixed:Tryz.prog.follows .mixedOrders=true:=by kernel_rfl
 go_enter Tryz.func72,Tryz.ntmps72;go_wp2_with(simp only[hov]);go_region_law_o(refine step_copy_eq rfl _ _ 35 35 rfl _ _ (by simp[Act.eval,Act.put]) (by simp[Act.eval,Act.put]) (hcp1 _ _ _) ?_);go_wp2_with(at_builtin;refine wpList_copy_eq rfl _ _ 35 35 rfl _ _ rfl rfl (hcp2 _ _) ?_);go_ret;exact⟨rfl,rfl⟩
def InsOutN(w:World)(row:Option Nat)(n:Nat)(new:List Value)(v:Value)(w':World):Prop:=∃g cap' cur' e',v=.slice (some ⟨g,0,none⟩) (n+1) cap'/\n+1<=cap'/\w'.heap[g]?=some (.cells cur' e' (0,0))/\(∀(k:Nat)u,new[k]?=some u->cur'[k]?=some u)/\w.grownBy w' row/\(row=some g\/w.heap.size<=g)
theorem qpv{A B C:List Value}{p:Nat}(hA:A.length=p)(hB:B.length=7)(k:Nat):(A++B++C)[k]?=if k<p then A[k]? else if k<p+7 then B[k-p]? else C[k-(p+7)]?:=by
 by_cases h1:k<p;·rw[if_pos h1,List.append_assoc,List.getElem?_append_left (by omega)]
 .rw[if_neg h1];by_cases h2:k<p+7;·rw[if_pos h2,List.append_assoc,List.getElem?_append_right (by omega),List.getElem?_append_left (by omega),hA]
  .rw[if_neg h2,List.getElem?_append_right (by simp;omega)];congr 1;simp;omega
theorem qxn(hi:i<n)(hroom:n+1<=cap)(hsz:cur.size=cap*7)(hcl:cs.length=n*7)(hvl:vs.length=7)(hcs:∀(k:Nat)u,cs[k]?=some u->cur[k]?=some u)(k:Nat)(u:Value)(h:(cs.take (i*7)++vs++cs.drop (i*7))[k]?=some u):(q0r (q0r cur ((i+1)*7) (cs.drop (i*7))) (i*7) vs)[k]?=some u:=by
 have hdl:(cs.drop (i*7)).length=(n-i)*7:=by rw[List.length_drop,hcl,Nat.sub_mul]
 have hfit1:(i+1)*7+(cs.drop (i*7)).length<=cur.size:=by rw[hdl,hsz];omega
 rw[q2s _ _ _ (by rw[q2m _ _ _ hfit1,hvl,hsz];omega),q2s _ _ _ hfit1];rw[qpv (p:=i*7) (by simp;omega) hvl]at h;by_cases h1:k<i*7;·rw[if_pos h1,List.getElem?_take,if_pos h1]at h;rw[if_neg (by omega),if_neg (by omega)];exact hcs k u h
 .rw[if_neg h1]at h;by_cases h2:k<i*7+7;·rw[if_pos h2]at h;rw[if_pos (by omega)];exact h
  .rw[if_neg h2]at h;have hk:=(List.getElem?_eq_some_iff.1 h).1;rw[if_neg (by omega),if_pos (by omega),show k-(i+1)*7=k-(i*7+7)by omega];exact h
theorem y2c(hi:i<n)(hsz:(n+1)*7<=cur.size)(hcl:cs.length=n*7)(hvl:vs.length=7)(hcs:∀(k:Nat)u,k<i*7->cs[k]?=some u->cur[k]?=some u)(k:Nat)(u:Value)(h:(cs.take (i*7)++vs++cs.drop (i*7))[k]?=some u):(q0r (q0r cur (i*7) vs) ((i+1)*7) (cs.drop (i*7)))[k]?=some u:=by
 have hdl:(cs.drop (i*7)).length=(n-i)*7:=by rw[List.length_drop,hcl,Nat.sub_mul]
 have hfit1:i*7+vs.length<=cur.size:=by rw[hvl];omega
 rw[q2s _ _ _ (by rw[q2m _ _ _ hfit1,hdl];omega),q2s _ _ _ hfit1];rw[qpv (p:=i*7) (by simp;omega) hvl]at h;by_cases h1:k<i*7;·rw[if_pos h1,List.getElem?_take,if_pos h1]at h;rw[if_neg (by omega),if_neg (by omega)];exact hcs k u h1 h
 .rw[if_neg h1]at h;by_cases h2:k<i*7+7;·rw[if_pos h2]at h;rw[if_neg (by omega),if_pos (by omega)];exact h
  .rw[if_neg h2]at h;have hk:=(List.getElem?_eq_some_iff.1 h).1;rw[if_pos (by omega),show k-(i+1)*7=k-(i*7+7)by omega];exact h
set_option maxHeartbeats 4000000 in
set_option maxRecDepth 100000 in
theorem qr1(b n cap i vb vo vc:Nat)(cs vs:List Value)(cur:Array Value)(e1:TypeId)(w:World)(hi:i<n)(hnc:n<=cap)(hroom:cap<n+1)(hn:n<=1073741823)(hw:w.heap[b]?=some (.cells cur e1 (0,0)))(hcl:cs.length=n*7)(hvl:vs.length=7)(hcs:∀(k:Nat)u,cs[k]?=some u->cur[k]?=some u)(hvs:∀(k:Nat)u,vs[k]?=some u->w.cell? ⟨vb,vo+k,none⟩=some u)(h1c:∀u∈cs,u.oneCell'=true)(h1v:∀u∈vs,u.oneCell'=true):Calls Tryz.prog 72 #[.slice (some ⟨b,0,none⟩) n cap,.int .i64 i,.slice (some ⟨vb,vo,none⟩) 1 vc] w fun e w'=>∃v,e=.returned v/\InsOutN w none n (cs.take (i*7)++vs++cs.drop (i*7)) v w':=by
 obtain⟨i0,hi0,hz0,hzs,hzb⟩:=qzk;have hz2:¬((i:Int)=(n:Int)):=by omega
 have hbw:b<w.heap.size:=(Array.getElem?_eq_some_iff.1 hw).1;have hvw:vb<w.heap.size:=World.block_lt_of_cell? w ⟨vb,vo,none⟩ (hvs 0 vs[0] (by simp[hvl]));have hold:(Builtin.firstCells i0.size i (.slice (some ⟨b,0,none⟩) i cap)).run Tryz.prog w.drew=.ok (cs.take (i*7)).toArray w.drew:=by rw[hzs];exact run_firstCells_some w.drew 7 i ⟨b,0,none⟩ i cap (cs.take (i*7)) (by rw[List.length_take];omega) (fun j v hj=>by
   rw[q1r,Nat.zero_add];rw[List.getElem?_take]at hj;split at hj;·exact(cell_of_row w b _ cur e1 (0,0) hw).trans (hcs j v hj)
   .cases hj)
 have hkk:(n:Int)+1-(i:Int)=((n+1-i:Nat):Int):=by omega
 have hik:i+(n+1-i)=n+1:=by omega
 obtain⟨G,hG⟩:∃G,G=grownCap w (n+1) cap 55:=⟨_,rfl⟩;obtain⟨ROW,hROW⟩:∃ROW:Array Value,ROW=(cs.take (i*7)).toArray++Builtin.zeroCells zMsgN.cells (n+1-i)++Builtin.zeroCells zMsgN.cells (G-(n+1)):=⟨_,rfl⟩;have hrz:∀ty,(Builtin.append_ #[35,3] ty #[.slice (some ⟨b,0,none⟩) i cap,.int .i64 ((n:Int)+1-(i:Int))]).run Tryz.prog w=.ok (.slice (some ⟨w.heap.size,0,none⟩) (n+1) G) (w.drew.alloc (.cells ROW 55)):=fun ty=>by have h:=Lib.run_append_grow_zeros (P:=Tryz.prog) w 35 3 ty 55 i0 _ .i64 .i64 Tryz.underlying35 Tryz.underlying3 hi0 hz0 (some ⟨b,0,none⟩) i cap (cs.take (i*7)) hold (n+1-i) (by omega) (by omega) (by omega) (by omega) (by rw[hzb];omega) (by rw[hzb,hik];exact growslice_fits hroom (by omega));rw[hik]at h;rw[hkk,hROW,hG];exact h
 have hzl:∀k,(Builtin.zeroCells zMsgN.cells k).size=k*7:=fun k=>by simp[Builtin.zeroCells,Value.cells]
 have hRl:(n+1)*7<=ROW.size:=by rw[hROW,Array.size_append,Array.size_append,hzl,hzl];simp;omega
 have hRc:∀(k:Nat)u,k<i*7->cs[k]?=some u->ROW[k]?=some u:=fun k u hk hu=>by have:=(List.getElem?_eq_some_iff.1 hu).1;rw[hROW,Array.append_assoc,Array.getElem?_append_left (by simp;omega)];simp[hk,hu]
 obtain⟨W1,hW1⟩:∃W1,W1=w.drew.alloc (.cells ROW 55):=⟨_,rfl⟩;rw[<-hW1]at hrz;have hN:W1.heap[w.heap.size]?=some (.cells ROW 55 (0,0)):=by rw[hW1];exact heap_alloc_new w.drew _
 have hO:∀k,k<w.heap.size->W1.heap[k]?=w.heap[k]?:=fun k hk=>by rw[hW1];exact heap_alloc_old w.drew _ hk
 have hGn:n+1<=G:=by rw[hG];exact grownCap_ge w _ _ _
 have hG63:G<=9223372036854775807:=by have:=grownCap_le_maxLen w (n+1) cap 55 (by unfold maxLen;omega);rw[<-hG]at this;unfold maxLen at this;omega
 have hfit1:i*7+vs.length<=ROW.size:=by rw[hvl];omega
 have hcpA:∀(W:World),(∀k:Nat,W.heap[k]?=W1.heap[k]?)->∀ty dc,(Builtin.copy_ #[35,35] ty #[.slice (some ⟨w.heap.size,i*7,none⟩) (n+1-i) dc,.slice (some ⟨vb,vo,none⟩) 1 vc]).run Tryz.prog W=.ok (goInt ((1:Nat):Int)) (W.setRow w.heap.size (q0r ROW (i*7) vs)):=fun W hW ty dc=>q3d (w:=W) Tryz.underlying35 hi0 ((hW _).trans hN) ⟨vb,vo,none⟩ vs (by omega) (by rw[hvl,hzs]) (fun j u hj=>by rw[q1r];exact(cell?_of_heap ((hW vb).trans (hO vb hvw)) _).trans (hvs j u hj)) h1v hfit1;have hdl:(cs.drop (i*7)).length=(n-i)*7:=by rw[List.length_drop,hcl,Nat.sub_mul]
 have hfit2:(i+1)*7+(cs.drop (i*7)).length<=(q0r ROW (i*7) vs).size:=by rw[q2m _ _ _ hfit1,hdl];omega
 have hcpB:∀(W:World),W.heap[w.heap.size]?=some (.cells (q0r ROW (i*7) vs) 55 (0,0))->W.heap[b]?=w.heap[b]?->∀ty dc sc,(Builtin.copy_ #[35,35] ty #[.slice (some ⟨w.heap.size,(i+1)*7,none⟩) (n-i) dc,.slice (some ⟨b,i*7,none⟩) (n-i) sc]).run Tryz.prog W=.ok (goInt ((n-i:Nat):Int)) (W.setRow w.heap.size (q0r (q0r ROW (i*7) vs) ((i+1)*7) (cs.drop (i*7)))):=fun W hW hWb ty dc sc=>q3d (w:=W) Tryz.underlying35 hi0 hW ⟨b,i*7,none⟩ (cs.drop (i*7)) (by omega) (by rw[hdl,hzs]) (fun j u hj=>by rw[List.getElem?_drop]at hj;rw[q1r];exact(cell_of_row W b _ cur e1 (0,0) (hWb.trans hw)).trans (hcs _ u hj)) (fun u hu=>h1c u (List.mem_of_mem_drop hu)) hfit2;have hGi:¬(G=i):=by omega
 have hGim:¬(G=i+1):=by omega
 have hci:¬(cap=i):=by omega
 have hw1:IntKind.i64.wrap ((i:Int)+1)=(i:Int)+1:=by rw[IntKind.wrap_i64];omega
 have hwn:IntKind.i64.wrap ((n:Int)+1)=(n:Int)+1:=by rw[IntKind.wrap_i64];omega
 have hwd:IntKind.i64.wrap ((n:Int)+1-(i:Int))=(n:Int)+1-(i:Int):=by rw[IntKind.wrap_i64];omega
 have hz3:(cap:Int)<(n:Int)+1:=by omega
 have hb1:(0:Int)<=(i:Int)+1:=by omega
 have hin:i<=n:=by omega
 have htn:((i:Int)+1).toNat=i+1:=by omega
 have hb3:(i:Int)<=(n:Int):=by omega
 have mixed:Tryz.prog.follows .mixedOrders=true:=by kernel_rfl
 have fin:∀(W:World),(∀k,W.heap[k]?=((W1.setRow w.heap.size (q0r ROW (i*7) vs)).setRow w.heap.size (q0r (q0r ROW (i*7) vs) ((i+1)*7) (cs.drop (i*7)))).heap[k]?)->W.os=w.os->W.tape=w.tape->W.output=w.output->InsOutN w none n (cs.take (i*7)++vs++cs.drop (i*7)) (.slice (some ⟨w.heap.size,0,none⟩) (n+1) G) W:=fun W h1 h2 h3 h4=>⟨w.heap.size,G,_,55,rfl,hGn,(h1 _).trans (setRow_heap _ _ _ _ _ _ (setRow_heap _ _ _ _ _ _ hN)),y2c hi hRl hcl hvl hRc,⟨h2,h3,h4,by have:=(Array.getElem?_eq_some_iff.1 ((h1 w.heap.size).trans (setRow_heap _ _ _ _ _ _ (setRow_heap _ _ _ _ _ _ hN)))).1;omega,fun k hk _=>(h1 k).trans ((setRow_other _ _ _ _ (by omega)).trans ((setRow_other _ _ _ _ (by omega)).trans (hO k hk)))⟩,.inr (Nat.le_refl _)⟩;have hS:∀(W:World),(∀k:Nat,W.heap[k]?=(W1.setRow w.heap.size (q0r ROW (i*7) vs)).heap[k]?)->W.heap[w.heap.size]?=some (.cells (q0r ROW (i*7) vs) 55 (0,0))/\W.heap[b]?=w.heap[b]?:=fun W h=>⟨(h _).trans (setRow_heap _ _ _ _ _ _ hN),(h _).trans ((setRow_other _ _ _ _ (by omega)).trans (hO b hbw))⟩;clear hkk hik hold hROW hG hRl hRc hzl hvs hcs;subst hW1;have hE:∀k:Nat,((w.alloc (.cells ROW 55)).drew).heap[k]?=(w.drew.alloc (.cells ROW 55)).heap[k]?:=fun _=>rfl;have hF:∀k:Nat,(((w.alloc (.cells ROW 55)).drew.setRow w.heap.size (q0r ROW (i*7) vs)).drew).heap[k]?=((w.drew.alloc (.cells ROW 55)).setRow w.heap.size (q0r ROW (i*7) vs)).heap[k]?:=fun _=>rfl;have hcpC:=hcpB _ (hS _ hF).1 (hS _ hF).2;go_enter Tryz.func72,Tryz.ntmps72;go_wp2_with(first|(at_builtin;refine Lib.wpList_append_run _ rfl _ _ _ _ rfl _ _ rfl rfl _ _ (hrz _) ?_)|(at_builtin;refine wpList_copy_eq rfl _ _ 35 35 rfl _ _ rfl rfl (hcpA _ hE _ _) ?_));go_region_law_o(refine step_copy_eq rfl _ _ 35 35 rfl _ _ (by simp[Act.eval,Act.put]) (by simp[Act.eval,Act.put]) (hcpC _ _ _) ?_);go_wp2;go_ret;exact⟨_,rfl,fin _ (fun _=>rfl) rfl rfl rfl⟩
set_option maxRecDepth 100000 in
theorem q9d(a:Option Addr)(n cap vc:Nat)(ad:Addr)(hnc:n<=cap)(hn:n<=1073741824)(h0:a=none->cap=0)(w:World){v':Value}(hr:∀ty,(Builtin.append_ #[35,35] ty #[.slice a n cap,.slice (some ad) 1 vc]).run Tryz.prog w=.ok v' w'):Calls Tryz.prog 72 #[.slice a n cap,.int .i64 n,.slice (some ad) 1 vc] w fun e w1=>e=.returned v'/\w1=w':=by
 have hsl:∀c,(n:Int)<=(n:Int):=fun _=>by omega
 cases a with|none=>
  have:cap=0:=h0 rfl;subst this;have:n=0:=by omega
  subst this;go_enter Tryz.func72,Tryz.ntmps72;go_wp2_with(at_builtin;refine Lib.wpList_append_run _ rfl _ _ _ _ rfl _ _ rfl rfl _ _ (hr _) ?_);go_ret;exact⟨rfl,rfl⟩|some b=>go_enter Tryz.func72,Tryz.ntmps72;go_wp2_with(at_builtin;refine Lib.wpList_append_run _ rfl _ _ _ _ rfl _ _ rfl rfl _ _ (hr _) ?_);all_goals(go_ret;exact⟨rfl,rfl⟩)
theorem y5b(hs:∀x∈xs,x.cells.length=7)(hna:∀x∈xs,∀c∈x.cells,c.isAgg=false)(hsz:cur.size=cap*7)(hcap:xs.length<=cap)(hcells:∀(i:Nat)x,xs[i]?=some x->∀(j:Nat)c,x.cells[j]?=some c->∃u,cur[i*7+j]?=some u/\Rep w X.imm c u):RowRep w X.imm 7 xs (cur.toList.take (xs.length*7))/\∀u∈cur.toList.take (xs.length*7),u.oneCell'=true:=by
 have hrow:RowRep w X.imm 7 xs (cur.toList.take (xs.length*7)):=by
  refine⟨by simp[hsz];omega,hs,fun i x hx j c hj=>?_⟩;obtain⟨u,hu,hr⟩:=hcells i x hx j c hj;have hi:=(List.getElem?_eq_some_iff.1 hx).1;have hj2:j<7:=by rw[<-hs x (List.mem_of_getElem? hx)];exact(List.getElem?_eq_some_iff.1 hj).1
  exact⟨u,by rw[List.getElem?_take,if_pos (by omega)];simpa using hu,hr⟩
 refine⟨hrow,fun u hu=>?_⟩;obtain⟨k,hk,rfl⟩:=List.mem_iff_getElem.1 hu;have hk2:k<xs.length*7:=by rw[<-hrow.1];exact hk
 have hx:xs[k/7]?=some (xs[k/7]'(by omega)):=by simp
 have hxl:=hs _ (List.mem_of_getElem? hx);have hc:(xs[k/7]'(by omega)).cells[k%7]?=some ((xs[k/7]'(by omega)).cells[k%7]'(by omega)):=by simp
 obtain⟨u,hu,hr⟩:=hrow.2.2 _ _ hx _ _ hc;rw[show k/7*7+k%7=k by omega,List.getElem?_eq_getElem hk]at hu;cases hu;exact quj (hna _ (List.mem_of_getElem? hx) _ (List.mem_of_getElem? hc)) hr
theorem InsOutN.fin{ds:List D}{u v:Value}{row:Option Nat}{new:List Value}(hH:HRel env X [[.own xs false]] w)(hmu:X.mu[0]?=some (.head u))(h:InsOutN w row n new v w')(hrow:∀g,row=some g->∃l,X.G g=some (l,0))(hn:ds.length=n+1)(hr:RowRep w X.imm 7 ds new):∃X1,(∃more,X1.mu=X.mu++more)/\Ext X w X1 w'/\HRel env X1 [[.undef]] w'/\ResRel w' X1 (.d (.list ds)) v:=by
 obtain⟨g,cap',cur',e',rfl,hc,hg,hnew,hgr,hor⟩:=h;refine qew hH hmu hgr hrow ?_;have hr':=RowRep.mono (w':=w') (I':=(X.strike row).imm) (fun b o u h1 h2=>qh9 hgr hrow h1 h2) hr;rw[<-hn];refine RowRep.rep hr' (fun k u hu=>⟨?_,?_,fun l k' e=>?_⟩) (by omega);·rw[Nat.zero_add];exact(cell_of_row w' g _ cur' e' (0,0) hg).trans (hnew k u hu)
 .rcases hor with h|h;·obtain⟨l,hl⟩:=hrow g h;exact hH.oamb g l 0 hl _
  .exact hH.amb g _ h
 .simp only[Cx.strike]at e;split at e;·cases e
  .rename_i hne;rcases hor with h|h;·exact absurd h.symm hne
   .have:=hH.gdom g l k' e;omega
theorem qty:LibOk env 72 (q35 7):=by
 intro vs hp v hp' hm X w args hH hA;unfold q35 at hm;split at hm
 .rename_i i x xs;split at hm
  .rename_i hcnd;obtain⟨hi0,hin,hlen,hx,hxs⟩:=hcnd;simp only[sI,pI]at hm;obtain⟨rfl,rfl⟩:=hm;obtain⟨ha,hr0,hr1,hr2⟩:=qqm hA;obtain⟨hmu,hown⟩:=qix hH hr0;have hr1':Rep w X.imm (.v (.int .i64 i)) (args.getD 1 undef):=hr1;have hr2':Rep w X.imm (.list [x]) (args.getD 2 undef):=hr2;rw[ha,q2i hr1'];generalize args.getD 0 undef=u0 at hmu hown;generalize args.getD 2 undef=u2 at hr2';obtain⟨n,rfl⟩:∃n:Nat,i=n:=⟨i.toNat,by omega⟩;have hx7:=q5v hx;have hs7:∀y∈xs,y.cells.length=7/\∀c∈y.cells,c.isAgg=false:=fun y hy=>q5v (List.all_eq_true.1 hxs y hy);obtain⟨ad,vc,nv,rfl,hrv,h1v,hcv⟩:=qlv hr2' (fun y hy=>by simp at hy;subst hy;exact hx7) (by decide:0<7);obtain⟨vb,vo,rfl,hvs⟩:=hcv (by simp);have himm:X.imm vb vo:=y36 hr2' (by rw[hx7.1];decide);have hvl:nv.length=7:=by rw[hrv.1];rfl
   obtain⟨i0,hi0',hz0,hzs,hzb⟩:=qzk;unfold q0a at hlen;have hvs':∀(k:Nat)u,nv[k]?=some u->w.cell? ((⟨vb,vo,none⟩:Addr).add k)=some u:=fun k u h=>by rw[q1r];exact hvs k u h
   have hzl:∀k,(Builtin.zeroCells zMsgN.cells k).size=k*7:=fun k=>by simp[Builtin.zeroCells,Value.cells]
   simp only[tN];rcases hown with⟨h0,a,rfl⟩|⟨h0,_⟩|⟨b,cap,cur,e,sz,rfl,hg,hw,hs,hz,hne,hsz,hcap,hmax,hcells⟩
   .subst h0;have:n=0:=by simpa using hin
    subst this;have hfin:∀(G:Nat)(Z:Array Value),1<=G->InsOutN w none 0 nv (.slice (some ⟨w.heap.size,0,none⟩) 1 G) (w.drew.alloc (.cells (nv.toArray++Z) 55)):=fun G Z hG=>⟨_,G,_,55,rfl,hG,heap_alloc_new w.drew _,fun k u hu=>by rw[Array.getElem?_append_left (by simpa using(List.getElem?_eq_some_iff.1 hu).1)];simpa using hu,⟨rfl,rfl,rfl,by simp,fun k hk _=>heap_alloc_old w.drew _ hk⟩,.inr (Nat.le_refl _)⟩;cases a with|none=>refine(q9d none 0 0 vc ⟨vb,vo,none⟩ (Nat.le_refl _) (by omega) (fun _=>rfl) w (fun ty=>run_append_nil (P:=env.P) w 35 ty 55 i0 _ Tryz.underlying35 hi0' hz0 ⟨vb,vo,none⟩ 1 vc nv (by rw[hvl,hzs]) hvs' (by omega) (by omega) (by rw[hzb];omega))).mono ?_;rintro e w1⟨rfl,rfl⟩;exact⟨_,rfl,InsOutN.fin hH hmu (hfin _ _ (grownCap_ge w 1 0 55)) (fun g e=>by cases e) rfl hrv⟩|some ad=>have hrun:=fun ty=>run_append_grow (P:=env.P) w 35 ty 55 i0 _ Tryz.underlying35 hi0' hz0 ad 0 0 [] (by simp) (fun j v hv=>by simp at hv) ⟨vb,vo,none⟩ 1 vc nv (by rw[hvl,hzs]) hvs' (by omega) (by omega) (growslice_fits (by omega) (by rw[hzb];omega));refine(q9d (some ad) 0 0 vc ⟨vb,vo,none⟩ (Nat.le_refl _) (by omega) (fun e=>by cases e) w hrun).mono ?_;rintro e w1⟨rfl,rfl⟩;refine⟨_,rfl,InsOutN.fin hH hmu ?_ (row:=none) (fun g e=>by cases e) rfl hrv⟩;have:=hfin (grownCap w (0+1) 0 55) (Builtin.zeroCells zMsgN.cells (grownCap w (0+1) 0 55-(0+1))) (grownCap_ge w 1 0 55);simpa using this
   .cases h0
   .have hsz7:sz=7:=by obtain⟨y,hy⟩:=List.exists_mem_of_ne_nil _ hne;rw[<-hs _ hy,(hs7 y hy).1]
    subst hsz7;simp only[fT,if_false]at hg;have hvb:vb≠b:=fun e=>by have:=himm.2 _ 0 (by rw[e];exact hg);omega
    obtain⟨hrow,h1c⟩:=y5b (X:=X) hs (fun y hy=>(hs7 y hy).2) hsz hcap hcells;have hcs:∀(k:Nat)u,(cur.toList.take (xs.length*7))[k]?=some u->cur[k]?=some u:=fun k u hu=>by
     rw[List.getElem?_take]at hu;split at hu;·simpa using hu
     .cases hu
    have hrowb:∀g,some b=some g->∃l,X.G g=some (l,0):=fun g e=>by cases e;exact⟨_,hg⟩
    have hnew:RowRep w X.imm 7 (xs.take n++x::xs.drop n) ((cur.toList.take (xs.length*7)).take (n*7)++nv++(cur.toList.take (xs.length*7)).drop (n*7)):=by rw[show xs.take n++x::xs.drop n=xs.take n++[x]++xs.drop n by simp];exact(RowRep.append (RowRep.append (RowRep.take hrow n) hrv) (RowRep.drop hrow n))
    have hnl:(xs.take n++x::xs.drop n).length=xs.length+1:=by simp;omega
    have hcl:(cur.toList.take (xs.length*7)).length=xs.length*7:=hrow.1;have hcap63:cap<=9223372036854775807:=by unfold maxLen at hmax;omega
    by_cases hlt:n<xs.length
    .by_cases hroom:xs.length+1<=cap;·refine(qnn b xs.length cap n vb vo vc _ nv cur e w hlt hroom (by omega) hcap63 hvb hw hsz hcl hvl hcs hvs h1c h1v).mono ?_;rintro e1 w1⟨rfl,rfl⟩;refine⟨_,rfl,InsOutN.fin hH hmu (row:=some b) ⟨b,cap,_,e,rfl,hroom,setRow_heap _ _ _ _ _ _ (setRow_heap w.drew _ _ _ _ _ hw),qxn hlt hroom hsz hcl hvl hcs,?_,.inl rfl⟩ hrowb hnl hnew⟩;exact World.grown_row _ (World.grown_row _ ⟨rfl,rfl,rfl,Nat.le_refl _,fun _ _ _=>rfl⟩)
     .refine(qr1 b xs.length cap n vb vo vc _ nv cur e w hlt hcap (by omega) (by omega) hw hcl hvl hcs hvs h1c h1v).mono ?_;rintro e1 w1⟨val,rfl,hout⟩;exact⟨_,rfl,InsOutN.fin hH hmu hout (fun g e=>by cases e) hnl hnew⟩
    .have:n=xs.length:=by omega
     subst this;have hnew':RowRep w X.imm 7 (xs.take xs.length++x::xs.drop xs.length) (cur.toList.take (xs.length*7)++nv):=by have e1:(cur.toList.take (xs.length*7)).take (xs.length*7)=cur.toList.take (xs.length*7):=List.take_of_length_le (by omega);have e2:(cur.toList.take (xs.length*7)).drop (xs.length*7)=[]:=List.drop_eq_nil_of_le (by omega);rw[e1,e2,List.append_nil]at hnew;exact hnew
     by_cases hroom:xs.length+1<=cap
     .have hfit:xs.length*i0.size+nv.length<=cur.size:=by rw[hzs,hvl,hsz];omega
      refine(q9d (some ⟨b,0,none⟩) xs.length cap vc ⟨vb,vo,none⟩ hcap (by omega) (fun e=>by cases e) w (fun ty=>q5g (P:=env.P) (w:=w) 35 ty 55 e i0 Tryz.underlying35 hi0' b xs.length cap cur hw ⟨vb,vo,none⟩ 1 vc nv (by rw[hvl,hzs]) hvs' h1v hroom hfit)).mono ?_;rintro e1 w1⟨rfl,rfl⟩;refine⟨_,rfl,InsOutN.fin hH hmu (row:=some b) ⟨b,cap,_,e,rfl,hroom,setRow_heap _ _ _ _ _ _ hw,fun k u hu=>?_,World.grown_row _ ⟨rfl,rfl,rfl,Nat.le_refl _,fun _ _ _=>rfl⟩,.inl rfl⟩ hrowb hnl hnew'⟩;show(q0r cur (xs.length*i0.size) nv)[k]?=some u;rw[q2s _ _ _ hfit,hzs];by_cases hk:k<xs.length*7;·rw[List.getElem?_append_left (by omega)]at hu;rw[if_neg (by omega)];exact hcs k u hu
      .rw[List.getElem?_append_right (by omega),hcl]at hu;have:=(List.getElem?_eq_some_iff.1 hu).1;rw[if_pos (by omega)];exact hu
     .have hrun:=fun ty=>run_append_grow (P:=env.P) w 35 ty 55 i0 _ Tryz.underlying35 hi0' hz0 ⟨b,0,none⟩ xs.length cap (cur.toList.take (xs.length*7)) (by rw[hcl,hzs]) (fun j v hv=>by rw[q1r,Nat.zero_add];exact(cell_of_row w b _ cur e (0,0) hw).trans (hcs j v hv)) ⟨vb,vo,none⟩ 1 vc nv (by rw[hvl,hzs]) hvs' (by omega) (by omega) (growslice_fits (by omega) (by rw[hzb];omega));refine(q9d (some ⟨b,0,none⟩) xs.length cap vc ⟨vb,vo,none⟩ hcap (by omega) (fun e=>by cases e) w hrun).mono ?_;rintro e1 w1⟨rfl,rfl⟩;refine⟨_,rfl,InsOutN.fin hH hmu (row:=none) ⟨_,_,_,55,rfl,grownCap_ge w _ _ _,heap_alloc_new w.drew _,fun k u hu=>?_,⟨rfl,rfl,rfl,by simp,fun k hk _=>heap_alloc_old w.drew _ hk⟩,.inr (Nat.le_refl _)⟩ (fun g e=>by cases e) hnl hnew'⟩;have:=(List.getElem?_eq_some_iff.1 hu).1;simp only[List.length_append]at this;rw[Array.getElem?_append_left (by simp only[Array.size_append,List.size_toArray];omega),<-hu];simp
  .cases hm
 .cases hm
variable {cur : Array Value} {cs vs : List Value} {cap i n : Nat} {w w' : World} {X : Cx} {xs : List D}
abbrev zMsgS:Value:=.string ⟨#[]⟩
set_option maxRecDepth 100000 in
theorem info9:∃i,Tryz.prog.info? 9=some i/\i.zero=some zMsgS/\i.size=1/\i.bytes=16:=⟨_,rfl,rfl,rfl,rfl⟩
set_option maxHeartbeats 4000000 in
set_option maxRecDepth 100000 in
theorem qo3(b n cap i vb vo vc:Nat)(cs vs:List Value)(cur:Array Value)(e1:TypeId)(w:World)(hi:i<n)(hroom:n+1<=cap)(hn:n<=1073741824)(_hc63:cap<=9223372036854775807)(hvb:vb≠b)(hw:w.heap[b]?=some (.cells cur e1 (0,0)))(hsz:cur.size=cap)(hcl:cs.length=n)(hvl:vs.length=1)(hcs:∀(k:Nat)u,cs[k]?=some u->cur[k]?=some u)(hvs:∀(k:Nat)u,vs[k]?=some u->w.cell? ⟨vb,vo+k,none⟩=some u)(h1c:∀u∈cs,u.oneCell'=true)(h1v:∀u∈vs,u.oneCell'=true):Calls Tryz.prog 145 #[.slice (some ⟨b,0,none⟩) n cap,.int .i64 i,.slice (some ⟨vb,vo,none⟩) 1 vc] w fun e w'=>e=.returned (.slice (some ⟨b,0,none⟩) (n+1) cap)/\w'=(w.drew.setRow b (q0r cur ((i+1)) (cs.drop (i)))).setRow b (q0r (q0r cur ((i+1)) (cs.drop (i))) (i) vs):=by
 obtain⟨i0,hi0,hz0,hzs,hzb⟩:=info9;have hz2:¬((i:Int)=(n:Int)):=by omega
 have hcell:w.cell? ⟨vb,vo,none⟩=some vs[0]:=hvs 0 _ (by simp[hvl]);obtain⟨cA,tA,fA,hA,hA0⟩:∃cA tA f,w.heap[vb]?=some (.cells cA tA f)/\cA.size≠0:=by
  unfold World.cell? at hcell;split at hcell;·rename_i cA tA f hq;refine⟨cA,tA,f,hq,fun h=>?_⟩;simp[h]at hcell
  all_goals cases hcell
 have hov:∀lb cb,(callFunc 173 #[.slice (some ⟨vb,vo,none⟩) 1 vc,.slice (some ⟨b,(i+1),none⟩) lb cb]).run Tryz.prog w=.ok (.value (.bool false)) w:=fun lb cb=>by rw[run_callFunc_extern Tryz.func173 (by kernel_rfl) (by kernel_rfl) (by kernel_rfl) (e:=Extern.SlicesOverlaps.overlaps #[34,34] #[4]) (by kernel_rfl),qc4 w 34 4 9 Tryz.underlying34 hi0 ⟨vb,vo,none⟩ ⟨b,(i+1),none⟩ 1 vc lb cb hvb hA hw (by omega) hA0];rfl
 have hdl:(cs.drop (i)).length=(n-i):=by rw[List.length_drop,hcl]
 have hfit1:(i+1)+(cs.drop (i)).length<=cur.size:=by rw[hdl,hsz];omega
 have hcp1:∀ty dc sc,(Builtin.copy_ #[34,34] ty #[.slice (some ⟨b,(i+1),none⟩) (n-i) dc,.slice (some ⟨b,i,none⟩) (n+1-i) sc]).run Tryz.prog w.drew=.ok (goInt ((n-i:Nat):Int)) (w.drew.setRow b (q0r cur ((i+1)) (cs.drop (i)))):=fun ty dc sc=>q3d (w:=w.drew) Tryz.underlying34 hi0 hw ⟨b,i,none⟩ (cs.drop (i)) (by omega) (by rw[hdl,hzs,Nat.mul_one]) (fun j u hj=>by rw[List.getElem?_drop]at hj;rw[q1r];exact(cell_of_row w b _ cur e1 (0,0) hw).trans (hcs _ u hj)) (fun u hu=>h1c u (List.mem_of_mem_drop hu)) hfit1;have hfit2:i+vs.length<=(q0r cur ((i+1)) (cs.drop (i))).size:=by rw[q2m _ _ _ hfit1,hvl,hsz];omega
 have hcp2:∀ty dc,(Builtin.copy_ #[34,34] ty #[.slice (some ⟨b,i,none⟩) (n+1-i) dc,.slice (some ⟨vb,vo,none⟩) 1 vc]).run Tryz.prog (w.drew.setRow b (q0r cur ((i+1)) (cs.drop (i))))=.ok (goInt ((1:Nat):Int)) ((w.drew.setRow b (q0r cur ((i+1)) (cs.drop (i)))).setRow b (q0r (q0r cur ((i+1)) (cs.drop (i))) (i) vs)):=fun ty dc=>q3d (w:=w.drew.setRow b (q0r cur ((i+1)) (cs.drop (i)))) Tryz.underlying34 hi0 (setRow_heap _ _ _ _ _ _ hw) ⟨vb,vo,none⟩ vs (by omega) (by rw[hvl,hzs]) (fun j u hj=>by rw[q1r];exact(cell?_of_heap (setRow_other _ b vb _ hvb) _).trans (hvs j u hj)) h1v hfit2;have hw1:IntKind.i64.wrap ((i:Int)+1)=(i:Int)+1:=by rw[IntKind.wrap_i64];omega
 have hwn:IntKind.i64.wrap ((n:Int)+1)=(n:Int)+1:=by rw[IntKind.wrap_i64];omega
 have hb1:(0:Int)<=(i:Int)+1:=by omega
 have hin:i<=n:=by omega
 have htn:((i:Int)+1).toNat=i+1:=by omega
 have htn2:((n:Int)+1).toNat=n+1:=by omega
 have hb2:¬(cap=i+1):=by omega
 have hb3:(i:Int)<=(n:Int)+1:=by omega
 have hb4:¬(cap=i):=by omega
 have mixed:Tryz.prog.follows .mixedOrders=true:=by kernel_rfl
 go_enter Tryz.func145,Tryz.ntmps145;go_wp2_with(simp only[hov]);go_region_law_o(refine step_copy_eq rfl _ _ 34 34 rfl _ _ (by simp[Act.eval,Act.put]) (by simp[Act.eval,Act.put]) (hcp1 _ _ _) ?_);go_wp2_with(at_builtin;refine wpList_copy_eq rfl _ _ 34 34 rfl _ _ rfl rfl (hcp2 _ _) ?_);go_ret;exact⟨rfl,rfl⟩
def InsOutS(w:World)(row:Option Nat)(n:Nat)(new:List Value)(v:Value)(w':World):Prop:=∃g cap' cur' e',v=.slice (some ⟨g,0,none⟩) (n+1) cap'/\n+1<=cap'/\w'.heap[g]?=some (.cells cur' e' (0,0))/\(∀(k:Nat)u,new[k]?=some u->cur'[k]?=some u)/\w.grownBy w' row/\(row=some g\/w.heap.size<=g)
theorem qq2{A B C:List Value}{p:Nat}(hA:A.length=p)(hB:B.length=1)(k:Nat):(A++B++C)[k]?=if k<p then A[k]? else if k<p+1 then B[k-p]? else C[k-(p+1)]?:=by
 by_cases h1:k<p;·rw[if_pos h1,List.append_assoc,List.getElem?_append_left (by omega)]
 .rw[if_neg h1];by_cases h2:k<p+1;·rw[if_pos h2,List.append_assoc,List.getElem?_append_right (by omega),List.getElem?_append_left (by omega),hA]
  .rw[if_neg h2,List.getElem?_append_right (by simp;omega)];congr 1;simp;omega
theorem qy2(hi:i<n)(hroom:n+1<=cap)(hsz:cur.size=cap)(hcl:cs.length=n)(hvl:vs.length=1)(hcs:∀(k:Nat)u,cs[k]?=some u->cur[k]?=some u)(k:Nat)(u:Value)(h:(cs.take (i)++vs++cs.drop (i))[k]?=some u):(q0r (q0r cur ((i+1)) (cs.drop (i))) (i) vs)[k]?=some u:=by
 have hdl:(cs.drop (i)).length=(n-i):=by rw[List.length_drop,hcl]
 have hfit1:(i+1)+(cs.drop (i)).length<=cur.size:=by rw[hdl,hsz];omega
 rw[q2s _ _ _ (by rw[q2m _ _ _ hfit1,hvl,hsz];omega),q2s _ _ _ hfit1];rw[qq2 (p:=i) (by simp;omega) hvl]at h;by_cases h1:k<i;·rw[if_pos h1,List.getElem?_take,if_pos h1]at h;rw[if_neg (by omega),if_neg (by omega)];exact hcs k u h
 .rw[if_neg h1]at h;by_cases h2:k<i+1;·rw[if_pos h2]at h;rw[if_pos (by omega)];exact h
  .rw[if_neg h2]at h;have hk:=(List.getElem?_eq_some_iff.1 h).1;rw[if_neg (by omega),if_pos (by omega),show k-(i+1)=k-(i+1)by omega];exact h
theorem y3e(hi:i<n)(hsz:(n+1)<=cur.size)(hcl:cs.length=n)(hvl:vs.length=1)(hcs:∀(k:Nat)u,k<i->cs[k]?=some u->cur[k]?=some u)(k:Nat)(u:Value)(h:(cs.take (i)++vs++cs.drop (i))[k]?=some u):(q0r (q0r cur (i) vs) ((i+1)) (cs.drop (i)))[k]?=some u:=by
 have hdl:(cs.drop (i)).length=(n-i):=by rw[List.length_drop,hcl]
 have hfit1:i+vs.length<=cur.size:=by rw[hvl];omega
 rw[q2s _ _ _ (by rw[q2m _ _ _ hfit1,hdl];omega),q2s _ _ _ hfit1];rw[qq2 (p:=i) (by simp;omega) hvl]at h;by_cases h1:k<i;·rw[if_pos h1,List.getElem?_take,if_pos h1]at h;rw[if_neg (by omega),if_neg (by omega)];exact hcs k u h1 h
 .rw[if_neg h1]at h;by_cases h2:k<i+1;·rw[if_pos h2]at h;rw[if_neg (by omega),if_pos (by omega)];exact h
  .rw[if_neg h2]at h;have hk:=(List.getElem?_eq_some_iff.1 h).1;rw[if_pos (by omega),show k-(i+1)=k-(i+1)by omega];exact h
set_option maxHeartbeats 4000000 in
set_option maxRecDepth 100000 in
theorem qra(b n cap i vb vo vc:Nat)(cs vs:List Value)(cur:Array Value)(e1:TypeId)(w:World)(hi:i<n)(hnc:n<=cap)(hroom:cap<n+1)(hn:n<=1073741823)(hw:w.heap[b]?=some (.cells cur e1 (0,0)))(hcl:cs.length=n)(hvl:vs.length=1)(hcs:∀(k:Nat)u,cs[k]?=some u->cur[k]?=some u)(hvs:∀(k:Nat)u,vs[k]?=some u->w.cell? ⟨vb,vo+k,none⟩=some u)(h1c:∀u∈cs,u.oneCell'=true)(h1v:∀u∈vs,u.oneCell'=true):Calls Tryz.prog 145 #[.slice (some ⟨b,0,none⟩) n cap,.int .i64 i,.slice (some ⟨vb,vo,none⟩) 1 vc] w fun e w'=>∃v,e=.returned v/\InsOutS w none n (cs.take (i)++vs++cs.drop (i)) v w':=by
 obtain⟨i0,hi0,hz0,hzs,hzb⟩:=info9;have hz2:¬((i:Int)=(n:Int)):=by omega
 have hbw:b<w.heap.size:=(Array.getElem?_eq_some_iff.1 hw).1;have hvw:vb<w.heap.size:=World.block_lt_of_cell? w ⟨vb,vo,none⟩ (hvs 0 vs[0] (by simp[hvl]));have hold:(Builtin.firstCells i0.size i (.slice (some ⟨b,0,none⟩) i cap)).run Tryz.prog w.drew=.ok (cs.take (i)).toArray w.drew:=by rw[hzs];exact run_firstCells_some w.drew 1 i ⟨b,0,none⟩ i cap (cs.take (i)) (by rw[List.length_take];omega) (fun j v hj=>by
   rw[q1r,Nat.zero_add];rw[List.getElem?_take]at hj;split at hj;·exact(cell_of_row w b _ cur e1 (0,0) hw).trans (hcs j v hj)
   .cases hj)
 have hkk:(n:Int)+1-(i:Int)=((n+1-i:Nat):Int):=by omega
 have hik:i+(n+1-i)=n+1:=by omega
 obtain⟨G,hG⟩:∃G,G=grownCap w (n+1) cap 9:=⟨_,rfl⟩;obtain⟨ROW,hROW⟩:∃ROW:Array Value,ROW=(cs.take (i)).toArray++Builtin.zeroCells zMsgS.cells (n+1-i)++Builtin.zeroCells zMsgS.cells (G-(n+1)):=⟨_,rfl⟩;have hrz:∀ty,(Builtin.append_ #[34,3] ty #[.slice (some ⟨b,0,none⟩) i cap,.int .i64 ((n:Int)+1-(i:Int))]).run Tryz.prog w=.ok (.slice (some ⟨w.heap.size,0,none⟩) (n+1) G) (w.drew.alloc (.cells ROW 9)):=fun ty=>by have h:=Lib.run_append_grow_zeros (P:=Tryz.prog) w 34 3 ty 9 i0 _ .i64 .i64 Tryz.underlying34 Tryz.underlying3 hi0 hz0 (some ⟨b,0,none⟩) i cap (cs.take (i)) hold (n+1-i) (by omega) (by omega) (by omega) (by omega) (by rw[hzb];omega) (by rw[hzb,hik];exact growslice_fits hroom (by omega));rw[hik]at h;rw[hkk,hROW,hG];exact h
 have hzl:∀k,(Builtin.zeroCells zMsgS.cells k).size=k:=fun k=>by simp[Builtin.zeroCells,Value.cells]
 have hRl:(n+1)<=ROW.size:=by rw[hROW,Array.size_append,Array.size_append,hzl,hzl];simp;omega
 have hRc:∀(k:Nat)u,k<i->cs[k]?=some u->ROW[k]?=some u:=fun k u hk hu=>by have:=(List.getElem?_eq_some_iff.1 hu).1;rw[hROW,Array.append_assoc,Array.getElem?_append_left (by simp;omega)];simp[hk,hu]
 obtain⟨W1,hW1⟩:∃W1,W1=w.drew.alloc (.cells ROW 9):=⟨_,rfl⟩;rw[<-hW1]at hrz;have hN:W1.heap[w.heap.size]?=some (.cells ROW 9 (0,0)):=by rw[hW1];exact heap_alloc_new w.drew _
 have hO:∀k,k<w.heap.size->W1.heap[k]?=w.heap[k]?:=fun k hk=>by rw[hW1];exact heap_alloc_old w.drew _ hk
 have hGn:n+1<=G:=by rw[hG];exact grownCap_ge w _ _ _
 have hG63:G<=9223372036854775807:=by have:=grownCap_le_maxLen w (n+1) cap 9 (by unfold maxLen;omega);rw[<-hG]at this;unfold maxLen at this;omega
 have hfit1:i+vs.length<=ROW.size:=by rw[hvl];omega
 have hcpA:∀(W:World),(∀k:Nat,W.heap[k]?=W1.heap[k]?)->∀ty dc,(Builtin.copy_ #[34,34] ty #[.slice (some ⟨w.heap.size,i,none⟩) (n+1-i) dc,.slice (some ⟨vb,vo,none⟩) 1 vc]).run Tryz.prog W=.ok (goInt ((1:Nat):Int)) (W.setRow w.heap.size (q0r ROW (i) vs)):=fun W hW ty dc=>q3d (w:=W) Tryz.underlying34 hi0 ((hW _).trans hN) ⟨vb,vo,none⟩ vs (by omega) (by rw[hvl,hzs]) (fun j u hj=>by rw[q1r];exact(cell?_of_heap ((hW vb).trans (hO vb hvw)) _).trans (hvs j u hj)) h1v hfit1;have hdl:(cs.drop (i)).length=(n-i):=by rw[List.length_drop,hcl]
 have hfit2:(i+1)+(cs.drop (i)).length<=(q0r ROW (i) vs).size:=by rw[q2m _ _ _ hfit1,hdl];omega
 have hcpB:∀(W:World),W.heap[w.heap.size]?=some (.cells (q0r ROW (i) vs) 9 (0,0))->W.heap[b]?=w.heap[b]?->∀ty dc sc,(Builtin.copy_ #[34,34] ty #[.slice (some ⟨w.heap.size,(i+1),none⟩) (n-i) dc,.slice (some ⟨b,i,none⟩) (n-i) sc]).run Tryz.prog W=.ok (goInt ((n-i:Nat):Int)) (W.setRow w.heap.size (q0r (q0r ROW (i) vs) ((i+1)) (cs.drop (i)))):=fun W hW hWb ty dc sc=>q3d (w:=W) Tryz.underlying34 hi0 hW ⟨b,i,none⟩ (cs.drop (i)) (by omega) (by rw[hdl,hzs,Nat.mul_one]) (fun j u hj=>by rw[List.getElem?_drop]at hj;rw[q1r];exact(cell_of_row W b _ cur e1 (0,0) (hWb.trans hw)).trans (hcs _ u hj)) (fun u hu=>h1c u (List.mem_of_mem_drop hu)) hfit2;have hGi:¬(G=i):=by omega
 have hGim:¬(G=i+1):=by omega
 have hci:¬(cap=i):=by omega
 have hw1:IntKind.i64.wrap ((i:Int)+1)=(i:Int)+1:=by rw[IntKind.wrap_i64];omega
 have hwn:IntKind.i64.wrap ((n:Int)+1)=(n:Int)+1:=by rw[IntKind.wrap_i64];omega
 have hwd:IntKind.i64.wrap ((n:Int)+1-(i:Int))=(n:Int)+1-(i:Int):=by rw[IntKind.wrap_i64];omega
 have hz3:(cap:Int)<(n:Int)+1:=by omega
 have hb1:(0:Int)<=(i:Int)+1:=by omega
 have hin:i<=n:=by omega
 have htn:((i:Int)+1).toNat=i+1:=by omega
 have hb3:(i:Int)<=(n:Int):=by omega
 have mixed:Tryz.prog.follows .mixedOrders=true:=by kernel_rfl
 have fin:∀(W:World),(∀k,W.heap[k]?=((W1.setRow w.heap.size (q0r ROW (i) vs)).setRow w.heap.size (q0r (q0r ROW (i) vs) ((i+1)) (cs.drop (i)))).heap[k]?)->W.os=w.os->W.tape=w.tape->W.output=w.output->InsOutS w none n (cs.take (i)++vs++cs.drop (i)) (.slice (some ⟨w.heap.size,0,none⟩) (n+1) G) W:=fun W h1 h2 h3 h4=>⟨w.heap.size,G,_,9,rfl,hGn,(h1 _).trans (setRow_heap _ _ _ _ _ _ (setRow_heap _ _ _ _ _ _ hN)),y3e hi hRl hcl hvl hRc,⟨h2,h3,h4,by have:=(Array.getElem?_eq_some_iff.1 ((h1 w.heap.size).trans (setRow_heap _ _ _ _ _ _ (setRow_heap _ _ _ _ _ _ hN)))).1;omega,fun k hk _=>(h1 k).trans ((setRow_other _ _ _ _ (by omega)).trans ((setRow_other _ _ _ _ (by omega)).trans (hO k hk)))⟩,.inr (Nat.le_refl _)⟩;have hS:∀(W:World),(∀k:Nat,W.heap[k]?=(W1.setRow w.heap.size (q0r ROW (i) vs)).heap[k]?)->W.heap[w.heap.size]?=some (.cells (q0r ROW (i) vs) 9 (0,0))/\W.heap[b]?=w.heap[b]?:=fun W h=>⟨(h _).trans (setRow_heap _ _ _ _ _ _ hN),(h _).trans ((setRow_other _ _ _ _ (by omega)).trans (hO b hbw))⟩;clear hkk hik hold hROW hG hRl hRc hzl hvs hcs;subst hW1;have hE:∀k:Nat,((w.alloc (.cells ROW 9)).drew).heap[k]?=(w.drew.alloc (.cells ROW 9)).heap[k]?:=fun _=>rfl;have hF:∀k:Nat,(((w.alloc (.cells ROW 9)).drew.setRow w.heap.size (q0r ROW (i) vs)).drew).heap[k]?=((w.drew.alloc (.cells ROW 9)).setRow w.heap.size (q0r ROW (i) vs)).heap[k]?:=fun _=>rfl;have hcpC:=hcpB _ (hS _ hF).1 (hS _ hF).2;go_enter Tryz.func145,Tryz.ntmps145;go_wp2_with(first|(at_builtin;refine Lib.wpList_append_run _ rfl _ _ _ _ rfl _ _ rfl rfl _ _ (hrz _) ?_)|(at_builtin;refine wpList_copy_eq rfl _ _ 34 34 rfl _ _ rfl rfl (hcpA _ hE _ _) ?_));go_region_law_o(refine step_copy_eq rfl _ _ 34 34 rfl _ _ (by simp[Act.eval,Act.put]) (by simp[Act.eval,Act.put]) (hcpC _ _ _) ?_);go_wp2;go_ret;exact⟨_,rfl,fin _ (fun _=>rfl) rfl rfl rfl⟩
set_option maxRecDepth 100000 in
theorem q98(a:Option Addr)(n cap vc:Nat)(ad:Addr)(hnc:n<=cap)(hn:n<=1073741824)(h0:a=none->cap=0)(w:World){v':Value}(hr:∀ty,(Builtin.append_ #[34,34] ty #[.slice a n cap,.slice (some ad) 1 vc]).run Tryz.prog w=.ok v' w'):Calls Tryz.prog 145 #[.slice a n cap,.int .i64 n,.slice (some ad) 1 vc] w fun e w1=>e=.returned v'/\w1=w':=by
 have hsl:∀c,(n:Int)<=(n:Int):=fun _=>by omega
 cases a with|none=>
  have:cap=0:=h0 rfl;subst this;have:n=0:=by omega
  subst this;go_enter Tryz.func145,Tryz.ntmps145;go_wp2_with(at_builtin;refine Lib.wpList_append_run _ rfl _ _ _ _ rfl _ _ rfl rfl _ _ (hr _) ?_);go_ret;exact⟨rfl,rfl⟩|some b=>go_enter Tryz.func145,Tryz.ntmps145;go_wp2_with(at_builtin;refine Lib.wpList_append_run _ rfl _ _ _ _ rfl _ _ rfl rfl _ _ (hr _) ?_);all_goals(go_ret;exact⟨rfl,rfl⟩)
theorem y3v(hs:∀x∈xs,x.cells.length=1)(hna:∀x∈xs,∀c∈x.cells,c.isAgg=false)(hsz:cur.size=cap*1)(hcap:xs.length<=cap)(hcells:∀(i:Nat)x,xs[i]?=some x->∀(j:Nat)c,x.cells[j]?=some c->∃u,cur[i*1+j]?=some u/\Rep w X.imm c u):RowRep w X.imm 1 xs (cur.toList.take (xs.length*1))/\∀u∈cur.toList.take (xs.length*1),u.oneCell'=true:=by
 have hrow:RowRep w X.imm 1 xs (cur.toList.take (xs.length*1)):=by
  refine⟨by simp[hsz];omega,hs,fun i x hx j c hj=>?_⟩;obtain⟨u,hu,hr⟩:=hcells i x hx j c hj;have hi:=(List.getElem?_eq_some_iff.1 hx).1;have hj2:j<1:=by rw[<-hs x (List.mem_of_getElem? hx)];exact(List.getElem?_eq_some_iff.1 hj).1
  exact⟨u,by rw[List.getElem?_take,if_pos (by omega)];simpa using hu,hr⟩
 refine⟨hrow,fun u hu=>?_⟩;obtain⟨k,hk,rfl⟩:=List.mem_iff_getElem.1 hu;have hk2:k<xs.length*1:=by rw[<-hrow.1];exact hk
 have hx:xs[k/1]?=some (xs[k/1]'(by omega)):=by simp
 have hxl:=hs _ (List.mem_of_getElem? hx);have hc:(xs[k/1]'(by omega)).cells[k%1]?=some ((xs[k/1]'(by omega)).cells[k%1]'(by omega)):=by simp
 obtain⟨u,hu,hr⟩:=hrow.2.2 _ _ hx _ _ hc;rw[show k/1*1+k%1=k by omega,List.getElem?_eq_getElem hk]at hu;cases hu;exact quj (hna _ (List.mem_of_getElem? hx) _ (List.mem_of_getElem? hc)) hr
theorem InsOutS.fin{ds:List D}{u v:Value}{row:Option Nat}{new:List Value}(hH:HRel env X [[.own xs false]] w)(hmu:X.mu[0]?=some (.head u))(h:InsOutS w row n new v w')(hrow:∀g,row=some g->∃l,X.G g=some (l,0))(hn:ds.length=n+1)(hr:RowRep w X.imm 1 ds new):∃X1,(∃more,X1.mu=X.mu++more)/\Ext X w X1 w'/\HRel env X1 [[.undef]] w'/\ResRel w' X1 (.d (.list ds)) v:=by
 obtain⟨g,cap',cur',e',rfl,hc,hg,hnew,hgr,hor⟩:=h;refine qew hH hmu hgr hrow ?_;have hr':=RowRep.mono (w':=w') (I':=(X.strike row).imm) (fun b o u h1 h2=>qh9 hgr hrow h1 h2) hr;rw[<-hn];refine RowRep.rep hr' (fun k u hu=>⟨?_,?_,fun l k' e=>?_⟩) (by omega);·rw[Nat.zero_add];exact(cell_of_row w' g _ cur' e' (0,0) hg).trans (hnew k u hu)
 .rcases hor with h|h;·obtain⟨l,hl⟩:=hrow g h;exact hH.oamb g l 0 hl _
  .exact hH.amb g _ h
 .simp only[Cx.strike]at e;split at e;·cases e
  .rename_i hne;rcases hor with h|h;·exact absurd h.symm hne
   .have:=hH.gdom g l k' e;omega
theorem qt4:LibOk env 145 (q35 1):=by
 intro vs hp v hp' hm X w args hH hA;unfold q35 at hm;split at hm
 .rename_i i x xs;split at hm
  .rename_i hcnd;obtain⟨hi0,hin,hlen,hx,hxs⟩:=hcnd;simp only[sI,pI]at hm;obtain⟨rfl,rfl⟩:=hm;obtain⟨ha,hr0,hr1,hr2⟩:=qqm hA;obtain⟨hmu,hown⟩:=qix hH hr0;have hr1':Rep w X.imm (.v (.int .i64 i)) (args.getD 1 undef):=hr1;have hr2':Rep w X.imm (.list [x]) (args.getD 2 undef):=hr2;rw[ha,q2i hr1'];generalize args.getD 0 undef=u0 at hmu hown;generalize args.getD 2 undef=u2 at hr2';obtain⟨n,rfl⟩:∃n:Nat,i=n:=⟨i.toNat,by omega⟩;have hx7:=q5v hx;have hs7:∀y∈xs,y.cells.length=1/\∀c∈y.cells,c.isAgg=false:=fun y hy=>q5v (List.all_eq_true.1 hxs y hy);obtain⟨ad,vc,nv,rfl,hrv,h1v,hcv⟩:=qlv hr2' (fun y hy=>by simp at hy;subst hy;exact hx7) (by decide:0<1);obtain⟨vb,vo,rfl,hvs⟩:=hcv (by simp);have himm:X.imm vb vo:=y36 hr2' (by rw[hx7.1];decide);have hvl:nv.length=1:=by rw[hrv.1];rfl
   obtain⟨i0,hi0',hz0,hzs,hzb⟩:=info9;unfold q0a at hlen;have hvs':∀(k:Nat)u,nv[k]?=some u->w.cell? ((⟨vb,vo,none⟩:Addr).add k)=some u:=fun k u h=>by rw[q1r];exact hvs k u h
   have hzl:∀k,(Builtin.zeroCells zMsgS.cells k).size=k*1:=fun k=>by simp[Builtin.zeroCells,Value.cells]
   simp only[tN];rcases hown with⟨h0,a,rfl⟩|⟨h0,_⟩|⟨b,cap,cur,e,sz,rfl,hg,hw,hs,hz,hne,hsz,hcap,hmax,hcells⟩
   .subst h0;have:n=0:=by simpa using hin
    subst this;have hfin:∀(G:Nat)(Z:Array Value),1<=G->InsOutS w none 0 nv (.slice (some ⟨w.heap.size,0,none⟩) 1 G) (w.drew.alloc (.cells (nv.toArray++Z) 9)):=fun G Z hG=>⟨_,G,_,9,rfl,hG,heap_alloc_new w.drew _,fun k u hu=>by rw[Array.getElem?_append_left (by simpa using(List.getElem?_eq_some_iff.1 hu).1)];simpa using hu,⟨rfl,rfl,rfl,by simp,fun k hk _=>heap_alloc_old w.drew _ hk⟩,.inr (Nat.le_refl _)⟩;cases a with|none=>refine(q98 none 0 0 vc ⟨vb,vo,none⟩ (Nat.le_refl _) (by omega) (fun _=>rfl) w (fun ty=>run_append_nil (P:=env.P) w 34 ty 9 i0 _ Tryz.underlying34 hi0' hz0 ⟨vb,vo,none⟩ 1 vc nv (by rw[hvl,hzs]) hvs' (by omega) (by omega) (by rw[hzb];omega))).mono ?_;rintro e w1⟨rfl,rfl⟩;exact⟨_,rfl,InsOutS.fin hH hmu (hfin _ _ (grownCap_ge w 1 0 9)) (fun g e=>by cases e) rfl hrv⟩|some ad=>have hrun:=fun ty=>run_append_grow (P:=env.P) w 34 ty 9 i0 _ Tryz.underlying34 hi0' hz0 ad 0 0 [] (by simp) (fun j v hv=>by simp at hv) ⟨vb,vo,none⟩ 1 vc nv (by rw[hvl,hzs]) hvs' (by omega) (by omega) (growslice_fits (by omega) (by rw[hzb];omega));refine(q98 (some ad) 0 0 vc ⟨vb,vo,none⟩ (Nat.le_refl _) (by omega) (fun e=>by cases e) w hrun).mono ?_;rintro e w1⟨rfl,rfl⟩;refine⟨_,rfl,InsOutS.fin hH hmu ?_ (row:=none) (fun g e=>by cases e) rfl hrv⟩;have:=hfin (grownCap w (0+1) 0 9) (Builtin.zeroCells zMsgS.cells (grownCap w (0+1) 0 9-(0+1))) (grownCap_ge w 1 0 9);simpa using this
   .cases h0
   .have hsz7:sz=1:=by obtain⟨y,hy⟩:=List.exists_mem_of_ne_nil _ hne;rw[<-hs _ hy,(hs7 y hy).1]
    subst hsz7;simp only[fT,if_false]at hg;have hvb:vb≠b:=fun e=>by have:=himm.2 _ 0 (by rw[e];exact hg);omega
    obtain⟨hrow,h1c⟩:=y3v (X:=X) hs (fun y hy=>(hs7 y hy).2) hsz hcap hcells;have hcs:∀(k:Nat)u,(cur.toList.take (xs.length*1))[k]?=some u->cur[k]?=some u:=fun k u hu=>by
     rw[List.getElem?_take]at hu;split at hu;·simpa using hu
     .cases hu
    have hrowb:∀g,some b=some g->∃l,X.G g=some (l,0):=fun g e=>by cases e;exact⟨_,hg⟩
    have hnew:RowRep w X.imm 1 (xs.take n++x::xs.drop n) ((cur.toList.take (xs.length*1)).take (n*1)++nv++(cur.toList.take (xs.length*1)).drop (n*1)):=by rw[show xs.take n++x::xs.drop n=xs.take n++[x]++xs.drop n by simp];exact(RowRep.append (RowRep.append (RowRep.take hrow n) hrv) (RowRep.drop hrow n))
    have hnl:(xs.take n++x::xs.drop n).length=xs.length+1:=by simp;omega
    have hcl:(cur.toList.take (xs.length*1)).length=xs.length*1:=hrow.1;have hcap63:cap<=9223372036854775807:=by unfold maxLen at hmax;omega
    by_cases hlt:n<xs.length
    .by_cases hroom:xs.length+1<=cap;·refine(qo3 b xs.length cap n vb vo vc _ nv cur e w hlt hroom (by omega) hcap63 hvb hw (by simpa using hsz) (by simpa using hcl) hvl hcs hvs h1c h1v).mono ?_;rintro e1 w1⟨rfl,rfl⟩;refine⟨_,rfl,InsOutS.fin hH hmu (row:=some b) ⟨b,cap,_,e,rfl,hroom,setRow_heap _ _ _ _ _ _ (setRow_heap w.drew _ _ _ _ _ hw),(by simpa using qy2 hlt hroom (by simpa using hsz) (by simpa using hcl) hvl hcs),?_,.inl rfl⟩ hrowb hnl hnew⟩;exact World.grown_row _ (World.grown_row _ ⟨rfl,rfl,rfl,Nat.le_refl _,fun _ _ _=>rfl⟩)
     .refine(qra b xs.length cap n vb vo vc _ nv cur e w hlt hcap (by omega) (by omega) hw (by simpa using hcl) hvl hcs hvs h1c h1v).mono ?_;rintro e1 w1⟨val,rfl,hout⟩;exact⟨_,rfl,InsOutS.fin hH hmu hout (fun g e=>by cases e) hnl (by simpa using hnew)⟩
    .have:n=xs.length:=by omega
     subst this;have hnew':RowRep w X.imm 1 (xs.take xs.length++x::xs.drop xs.length) (cur.toList.take (xs.length*1)++nv):=by have e1:(cur.toList.take (xs.length*1)).take (xs.length*1)=cur.toList.take (xs.length*1):=List.take_of_length_le (by omega);have e2:(cur.toList.take (xs.length*1)).drop (xs.length*1)=[]:=List.drop_eq_nil_of_le (by omega);rw[e1,e2,List.append_nil]at hnew;exact hnew
     by_cases hroom:xs.length+1<=cap
     .have hfit:xs.length*i0.size+nv.length<=cur.size:=by rw[hzs,hvl,hsz];omega
      refine(q98 (some ⟨b,0,none⟩) xs.length cap vc ⟨vb,vo,none⟩ hcap (by omega) (fun e=>by cases e) w (fun ty=>q5g (P:=env.P) (w:=w) 34 ty 9 e i0 Tryz.underlying34 hi0' b xs.length cap cur hw ⟨vb,vo,none⟩ 1 vc nv (by rw[hvl,hzs]) hvs' h1v hroom hfit)).mono ?_;rintro e1 w1⟨rfl,rfl⟩;refine⟨_,rfl,InsOutS.fin hH hmu (row:=some b) ⟨b,cap,_,e,rfl,hroom,setRow_heap _ _ _ _ _ _ hw,fun k u hu=>?_,World.grown_row _ ⟨rfl,rfl,rfl,Nat.le_refl _,fun _ _ _=>rfl⟩,.inl rfl⟩ hrowb hnl hnew'⟩;show(q0r cur (xs.length*i0.size) nv)[k]?=some u;rw[q2s _ _ _ hfit,hzs];by_cases hk:k<xs.length*1;·rw[List.getElem?_append_left (by omega)]at hu;rw[if_neg (by omega)];exact hcs k u hu
      .rw[List.getElem?_append_right (by omega),hcl]at hu;have:=(List.getElem?_eq_some_iff.1 hu).1;rw[if_pos (by omega)];exact hu
     .have hrun:=fun ty=>run_append_grow (P:=env.P) w 34 ty 9 i0 _ Tryz.underlying34 hi0' hz0 ⟨b,0,none⟩ xs.length cap (cur.toList.take (xs.length*1)) (by rw[hcl,hzs]) (fun j v hv=>by rw[q1r,Nat.zero_add];exact(cell_of_row w b _ cur e (0,0) hw).trans (hcs j v hv)) ⟨vb,vo,none⟩ 1 vc nv (by rw[hvl,hzs]) hvs' (by omega) (by omega) (growslice_fits (by omega) (by rw[hzb];omega));refine(q98 (some ⟨b,0,none⟩) xs.length cap vc ⟨vb,vo,none⟩ hcap (by omega) (fun e=>by cases e) w hrun).mono ?_;rintro e1 w1⟨rfl,rfl⟩;refine⟨_,rfl,InsOutS.fin hH hmu (row:=none) ⟨_,_,_,9,rfl,grownCap_ge w _ _ _,heap_alloc_new w.drew _,fun k u hu=>?_,⟨rfl,rfl,rfl,by simp,fun k hk _=>heap_alloc_old w.drew _ hk⟩,.inr (Nat.le_refl _)⟩ (fun g e=>by cases e) hnl hnew'⟩;have:=(List.getElem?_eq_some_iff.1 hu).1;simp only[List.length_append]at this;rw[Array.getElem?_append_left (by simp only[Array.size_append,List.size_toArray];omega),<-hu];simp
  .cases hm
 .cases hm
end Go.Proofs.YtglokalgdbegeaaGreat
namespace Go.Proofs.YtglokalgdbegeaaGreat
open Go Go.Ab Go.RowKit
variable {w wr : World} {b e k n size : Nat} {cur' : Array Value}
def InvS(w:World)(b e size:Nat)(zs:List ByteArray)(n k:Nat)(wr:World):Prop:=∃cur',wr.heap[b]?=some (.cells cur' e (0,0))/\cur'.size=size/\w.grownBy wr (some b)/\(∀(j:Nat)p,(q0g (zs.take n))[j]?=some p->cur'[j]?=some (.string p))/\(∀(j:Nat)p,k<=j->zs[j]?=some p->cur'[j]?=some (.string p))
theorem InvS.drew{zs:List ByteArray}(h:InvS w b e size zs n k wr):InvS w b e size zs n k wr.drew:=let⟨c,h1,h2,h3,h4,h5⟩:=h;⟨c,h1,h2,⟨h3.os,h3.tape,h3.output,h3.size,h3.block⟩,h4,h5⟩
theorem qva(zs:List ByteArray)(n:Nat)(y x:ByteArray)(hy:zs[n]?=some y)(hx:zs[n+1]?=some x):q0g (zs.take (n+2))=if y=x then q0g (zs.take (n+1))else q0g (zs.take (n+1))++[x]:=by
 have h1:zs.take (n+1)=zs.take n++[y]:=by rw[List.take_add_one,hy];rfl
 have h2:zs.take (n+2)=zs.take n++[y]++[x]:=by rw[show n+2=n+1+1 from rfl,List.take_add_one,hx,h1];rfl
 rw[h2,h1,q9e];by_cases h:y=x<;>simp[h]
theorem InvS.same{zs:List ByteArray}{x:ByteArray}(hy:zs[n]?=some x)(hx:zs[n+1]?=some x)(h:InvS w b e size zs (n+1) k wr):InvS w b e size zs (n+2) k wr:=by unfold InvS at h⊢;rw[qva zs n _ _ hy hx,if_pos rfl];exact h
set_option maxRecDepth 100000 in
theorem qww(h1:wr.heap[b]?=some (.cells cur' e (0,0)))(hk:k+1<=cur'.size)(x:ByteArray):(storeVar 9 ⟨b,k,none⟩ (.string x)).run Tryz.prog wr=.ok () (wr.setRow b (q0r cur' k [.string x])):=by have:=qgw (P:=Tryz.prog) (w:=wr) (t:=9) (n:=1) (b:=b) (off:=k) (val:=.string x) (cur:=cur') (e:=e) rfl rfl h1 (by omega) (fun u hu=>by simp[Value.cells]at hu;subst hu;rfl);exact this
theorem InvS.put{zs:List ByteArray}{y x:ByteArray}(hy:zs[n]?=some y)(hx:zs[n+1]?=some x)(hne:¬y=x)(hk:(q0g (zs.take (n+1))).length=k)(hkn:k<n+1)(h1:wr.heap[b]?=some (.cells cur' e (0,0)))(h2:cur'.size=size)(h3:w.grownBy wr (some b))(h4:∀(j:Nat)p,(q0g (zs.take (n+1)))[j]?=some p->cur'[j]?=some (.string p))(h5:∀(j:Nat)p,k<=j->zs[j]?=some p->cur'[j]?=some (.string p)):(q0g (zs.take (n+2))).length=k+1/\InvS w b e size zs (n+2) (k+1) (wr.setRow b (q0r cur' k [.string x])):=by
 have hlt:n+1<cur'.size:=(Array.getElem?_eq_some_iff.1 (h5 (n+1) x (by omega) hx)).1;have hfit:k+[Value.string x].length<=cur'.size:=by simp;omega
 have ht:q0g (zs.take (n+2))=q0g (zs.take (n+1))++[x]:=by rw[qva zs n _ _ hy hx,if_neg hne]
 refine⟨by rw[ht];simp[hk],_,setRow_heap _ _ _ _ _ _ h1,by rw[q2m _ _ _ hfit,h2],World.grown_row _ h3,fun j p hj=>?_,fun j p hkj hj=>?_⟩
 .rw[q2s _ _ _ hfit];rw[ht]at hj;by_cases hjk:j<k;·rw[List.getElem?_append_left (by omega)]at hj;rw[if_neg (by omega)];exact h4 j p hj
  .have hjk2:j=k:=by have:=(List.getElem?_eq_some_iff.1 hj).1;simp[hk]at this;omega
   subst hjk2;rw[List.getElem?_append_right (by omega),hk]at hj;simp at hj;subst hj;rw[if_pos (by simp)];simp
 .rw[q2s _ _ _ hfit,if_neg (by simp;omega)];exact h5 j p (by omega) hj
set_option maxRecDepth 100000 in
theorem qxi{c:Nat}{ty:TypeId}(h1:wr.heap[b]?=some (.cells cur' e (0,0)))(hn:0<n)(hk:k+n<=cur'.size):(Builtin.clear_ #[34] ty #[.slice (some ⟨b,k,none⟩) n c]).run Tryz.prog wr=.ok (.tuple #[]) (wr.setRow b (q0r cur' k (Builtin.zeroCells #[.string ⟨#[]⟩] n).toList)):=by
 obtain⟨i,hi,hz0,hz1,hz2⟩:∃i,Tryz.prog.info? 9=some i/\i.zero=some (.string ⟨#[]⟩)/\i.size=1/\i.bytes=16:=⟨_,rfl,rfl,rfl,rfl⟩;have hz:(Value.string ⟨#[]⟩).cells=#[.string ⟨#[]⟩]:=rfl;refine y3c (e:=9) Tryz.underlying34 hi hz0 h1 hn (fun u hu=>?_) ?_
 .rw[hz]at hu;simp only[Builtin.zeroCells,Array.toList_map,List.mem_map]at hu;obtain⟨j,_,rfl⟩:=hu;have:j%(#[Value.string ⟨#[]⟩]:Array Value).size<1:=Nat.mod_lt _ (by decide);have h:j%(#[Value.string ⟨#[]⟩]:Array Value).size=0:=by omega
  rw[h];rfl
 .rw[hz];simp[Builtin.zeroCells];omega
def qnv(w:World)(b e cap size:Nat)(zs:List ByteArray)(v:Value)(w':World):Prop:=v=.slice (some ⟨b,0,none⟩) (q0g zs).length cap/\∃cur',w'.heap[b]?=some (.cells cur' e (0,0))/\cur'.size=size/\w.grownBy w' (some b)/\∀(j:Nat)p,(q0g zs)[j]?=some p->cur'[j]?=some (.string p)
theorem qdg:∀(zs:List ByteArray),(q0g zs).length<=zs.length
 |[]=>Nat.le_refl _|[_]=>Nat.le_refl _|x::y::r=>by
  rw[q1m];have:=qdg (y::r);split;·simp at this⊢;omega
  .simp at this⊢;omega
theorem InvS.out{cap:Nat}{zs:List ByteArray}(h1:wr.heap[b]?=some (.cells cur' e (0,0)))(h2:cur'.size=size)(h3:w.grownBy wr (some b))(hk:(q0g zs).length=k)(h4:∀(j:Nat)p,(q0g zs)[j]?=some p->cur'[j]?=some (.string p))(n:Nat)(hn:k+n<=cur'.size):qnv w b e cap size zs (.slice (some ⟨b,0,none⟩) k cap) (wr.setRow b (q0r cur' k (Builtin.zeroCells #[.string ⟨#[]⟩] n).toList)):=by
 have hfit:k+(Builtin.zeroCells #[.string ⟨#[]⟩] n).toList.length<=cur'.size:=by simp[Builtin.zeroCells];omega
 refine⟨by rw[hk],_,setRow_heap _ _ _ _ _ _ h1,by rw[q2m _ _ _ hfit,h2],World.grown_row _ h3,fun j p hj=>?_⟩;have hjk:j<k:=by rw[<-hk];exact(List.getElem?_eq_some_iff.1 hj).1
 rw[q2s _ _ _ hfit,if_neg (by omega)];exact h4 j p hj
theorem y7h{x y:ByteArray}(h:x≠y):(x.toList==y.toList)=false:=by rw[beq_eq_false_iff_ne,ByteArray.toList_eq,ByteArray.toList_eq];intro e;apply h;cases x;cases y;congr 1;exact Array.ext' e
set_option maxHeartbeats 4000000 in
set_option maxRecDepth 100000 in
theorem qpb(b cap:Nat)(zs:List ByteArray)(cur:Array Value)(e:TypeId)(w:World)(hlen:zs.length<=1073741824)(hcap:zs.length<=cap)(hw:w.heap[b]?=some (.cells cur e (0,0)))(hc:∀(j:Nat)p,zs[j]?=some p->cur[j]?=some (.string p)):Calls Tryz.prog 167 #[.slice (some ⟨b,0,none⟩) zs.length cap] w fun x w'=>∃v,x=.returned v/\qnv w b e cap cur.size zs v w':=by
 have cell:∀(wr:World),Al w wr->∀(j:Nat)p,zs[j]?=some p->wr.cell? ⟨b,j,none⟩=some (.string p):=fun wr hal j p hj=>by
  have hw':wr.heap[b]?=some (.cells cur e (0,0)):=by rw[hal.heap];exact hw
  rw[cell_of_row wr b _ cur e (0,0) hw'];exact hc j p hj
 go_enter Tryz.func167,Tryz.ntmps167;have same:∀wr,Al w wr->q0g zs=zs->qnv w b e cap cur.size zs (.slice (some ⟨b,0,none⟩) zs.length cap) wr:=fun wr hal hid=>⟨by rw[hid],cur,by rw[hal.heap];exact hw,rfl,hal.grown b,fun j p hj=>hc j p (by rwa [hid]at hj)⟩;go_wp2;·go_ret;exact⟨_,rfl,same _ (Al.refl _) (by
   have:zs.length<2:=by omega
   match zs,this with|[],_=>rfl|[_],_=>rfl)⟩
 .go_loopw [3](fun i wr=>∃k:Nat,1<=k/\k<=zs.length/\i=.int .i64 k/\Al w wr/\∀(j:Nat)x y,j+1<k->zs[j]?=some x->zs[j+1]?=some y->x≠y)(fun i _=>zs.length-(intOf i).toNat);case atStart=>exact⟨1,by omega,by omega,rfl,Al.refl _,fun j x y hj=>by omega⟩
  case round=>
   obtain⟨k,hk1,hk,rfl,hal,hne⟩:=hrel;by_cases hlt:k<zs.length
   .obtain⟨m,rfl⟩:∃m,k=m+1:=⟨k-1,by omega⟩;obtain⟨x1,hp⟩:∃x,zs[m+1]?=some x:=⟨zs[m+1],by simp[hlt]⟩;obtain⟨y1,hq⟩:∃y,zs[m]?=some y:=⟨zs[m],by simp[show m<zs.length by omega]⟩;have c0:=cell wr hal (m+1) _ hp;have d0:=cell wr hal m _ hq;have i0:(0:Int)<=((m+1:Nat):Int):=by omega
    have i1:((m+1:Nat):Int)<(zs.length:Int):=by omega
    have i4:(0:Int)<=(m:Int)+1:=by omega
    have i5:(m:Int)+1<(zs.length:Int):=by omega
    have i6:m+1<zs.length:=by omega
    have i7:m<zs.length:=by omega
    have i8:RowKit.wrap64 (m:Int)=m:=by unfold RowKit.wrap64;omega
    have i9:IntKind.i64.wrap ((m:Int)+1-1)=m:=by rw[IntKind.wrap_i64];omega
    have i10:IntKind.i64.wrap (m:Int)=m:=by rw[IntKind.wrap_i64];omega
    have i11:m+1<cap:=by omega
    have i12:m+1<=cap:=by omega
    have i13:¬(m+1=cap):=by omega
    have i14:¬(cap=m+1):=by omega
    have i15:¬(cap-(m+1)=0):=by omega
    have i2:(0:Int)<=(m:Int):=by omega
    have i3:(m:Int)<(zs.length:Int):=by omega
    go_wp2;by_cases e1:x1=y1
    .subst e1;go_region_held3(fun w'=>w'.cell? ⟨b,m+1,none⟩=some (.string x1)/\w'.cell? ⟨b,m,none⟩=some (.string x1))(exact⟨c0,d0⟩)(fail);go_wp2;go_loopw [3,5](fun kv k2v wr=>∃k q:Nat,m+1+(q+1)<=zs.length/\kv=.int .i64 k/\k2v=.int .i64 ((q+1:Nat):Int)/\(q0g (zs.take (m+1+(q+1)))).length=k/\k<m+1+(q+1)/\InvS w b e cur.size zs (m+1+(q+1)) k wr)(fun _ k2v _=>zs.length-(intOf k2v).toNat);case atStart=>
      have hid:q0g (zs.take (m+1))=zs.take (m+1):=qcu _ (fun j x y hx hy=>by
       rw[List.getElem?_take]at hx hy;split at hx
       .split at hy;·exact hne j x y (by omega) hx hy
        .cases hy
       .cases hx);have h2:q0g (zs.take (m+1+(0+1)))=zs.take (m+1):=by rw[show m+1+(0+1)=m+2 by omega,qva zs m _ _ hq hp,if_pos rfl,hid]
      refine⟨m+1,0,by omega,by rfl,by rfl,by rw[h2];simp;omega,by omega,InvS.drew ⟨cur,by rw[hal.heap];exact hw,rfl,hal.grown b,fun j p hj=>?_,fun j p _ hj=>hc j p hj⟩⟩;rw[h2,List.getElem?_take]at hj;split at hj;·exact hc j p hj
      .cases hj
     case round=>
      clear i13 i14 i15 i8 i9 i10;obtain⟨k,q,hq2,rfl,rfl,hk',hkl,cur',hb',hs',hg',hC,hO⟩:=hrel;have cell2:∀(j:Nat)p,k<=j->zs[j]?=some p->wr.cell? ⟨b,j,none⟩=some (.string p):=fun j p hkj hj=>by rw[cell_of_row wr b _ cur' e (0,0) hb'];exact hO j p hkj hj
      by_cases hlt2:m+1+(q+2)<=zs.length
      .obtain⟨p1,hp2⟩:∃x,zs[m+1+(q+1)]?=some x:=⟨zs[m+1+(q+1)],by simp[show m+1+(q+1)<zs.length by omega]⟩;obtain⟨q1,hq3⟩:∃x,zs[m+1+q]?=some x:=⟨zs[m+1+q],by simp[show m+1+q<zs.length by omega]⟩;have c0:=cell2 (m+1+(q+1)) _ (by omega) hp2;have d0:=cell2 (m+1+q) _ (by omega) hq3;have j0:(0:Int)<=((q+1:Nat):Int):=by omega
       have j1:((q+1:Nat):Int)<((zs.length-(m+1):Nat):Int):=by omega
       have j4:(0:Int)<=(q:Int)+1:=by omega
       have j5:(q:Int)+1<((zs.length-(m+1):Nat):Int):=by omega
       have j6:q+1<zs.length-(m+1):=by omega
       have j7:q<zs.length-(m+1):=by omega
       have j8:RowKit.wrap64 (q:Int)=q:=by unfold RowKit.wrap64;omega
       have j9:IntKind.i64.wrap ((q:Int)+1-1)=q:=by rw[IntKind.wrap_i64];omega
       have j10:IntKind.i64.wrap (q:Int)=q:=by rw[IntKind.wrap_i64];omega
       have j2:(0:Int)<=(q:Int):=by omega
       have j3:(q:Int)<((zs.length-(m+1):Nat):Int):=by omega
       have k0:(0:Int)<=(k:Int):=by omega
       have k1:(k:Int)<(zs.length:Int):=by omega
       have k2:k<zs.length:=by omega
       have k3:k+1<=cur'.size:=by have:=(Array.getElem?_eq_some_iff.1 (hO (m+1+q) _ (by omega) hq3)).1;omega
       go_wp2;by_cases e1:p1=q1
       .subst e1;go_region_held3(fun w'=>w'.cell? ⟨b,m+1+(q+1),none⟩=some (.string p1)/\w'.cell? ⟨b,m+1+q,none⟩=some (.string p1))(exact⟨c0,d0⟩)(fail);go_wp2;go_roundw;case rel=>exact⟨k,q+1,hlt2,rfl,by go_num,by rw[show m+1+(q+1+1)=m+1+q+2 by omega,qva zs (m+1+q) _ _ hq3 hp2,if_pos rfl];exact hk',by omega,InvS.drew (InvS.same (n:=m+1+q) hq3 hp2 ⟨cur',hb',hs',hg',hC,hO⟩)⟩
        case measure=>simp[intOf];omega
       .have e3:=y7h e1;go_region_held3(fun w'=>w'.cell? ⟨b,m+1+(q+1),none⟩=some (.string p1)/\w'.cell? ⟨b,m+1+q,none⟩=some (.string q1))(exact⟨c0,d0⟩)(fail);go_wp2_with(first|(refine qhn rfl _ _ _ rfl rfl rfl (qww (wr:=World.drew _) hb' k3 p1) ?_)|go_in);(refine⟨?_,?measure⟩;(repeat apply Exists.intro);refine⟨?rel,rfl⟩);case rel=>exact⟨k+1,q+1,hlt2,by go_num,by go_num,(InvS.put (n:=m+1+q) hq3 hp2 (fun e=>e1 e.symm) hk' hkl hb' hs' hg' hC hO).1,by omega,InvS.drew (wr:=World.setRow _ _ _) (InvS.put (n:=m+1+q) hq3 hp2 (fun e=>e1 e.symm) hk' hkl hb' hs' hg' hC hO).2⟩
        case measure=>simp[intOf];omega
      .have hqe:m+1+(q+1)=zs.length:=by omega
       have k4:k<zs.length:=by omega
       have k5:0<zs.length-k:=by omega
       have k6:k+(zs.length-k)<=cur'.size:=by obtain⟨p,hp'⟩:∃x,zs[zs.length-1]?=some x:=⟨zs[zs.length-1],by simp[show zs.length-1<zs.length by omega]⟩;have:=(Array.getElem?_eq_some_iff.1 (hO (zs.length-1) p (by omega) hp')).1;omega
       rw[hqe,List.take_length]at hk' hC;go_wp2_with(first|(refine qho rfl _ _ rfl rfl (qxi hb' k5 k6) ?_)|go_in);go_ret;exact⟨_,rfl,InvS.out hb' hs' hg' hk' hC _ k6⟩
    .have e3:=y7h e1;go_region_held3(fun w'=>w'.cell? ⟨b,m+1,none⟩=some (.string x1)/\w'.cell? ⟨b,m,none⟩=some (.string y1))(exact⟨c0,d0⟩)(fail);go_wp2;go_roundw;case rel=>exact⟨m+2,by omega,by omega,by go_num,hal.drew,fun j x y hj hx hy=>by
      by_cases hjm:j=m;·subst hjm;rw[hq]at hx;rw[hp]at hy;cases hx;cases hy;exact fun e=>e1 e.symm
      .exact hne j x y (by omega) hx hy⟩
     case measure=>simp[intOf];omega
   .go_wp2;go_ret;exact⟨_,rfl,same _ hal (qcu _ (fun j x y hx hy=>hne j x y (by have:=(List.getElem?_eq_some_iff.1 hy).1;omega) hx hy))⟩
set_option maxRecDepth 100000 in
theorem qoe(a:Option Addr)(cap:Nat)(w:World):Calls Tryz.prog 167 #[.slice a 0 cap] w fun e w'=>e=.returned (.slice a 0 cap)/\w'=w:=by go_enter Tryz.func167,Tryz.ntmps167;go_wp2;go_ret;exact⟨rfl,rfl⟩
abbrev strD(p:ByteArray):D:=.v (.string p)
theorem qp8:∀(xs:List D),xs.all (fun|.v (.string _)=>true|_=>false)=true->∃zs:List ByteArray,xs=zs.map strD
 |[],_=>⟨[],rfl⟩|x::r,h1=>by
  simp only[List.all_cons,aT]at h1;obtain⟨zs,rfl⟩:=qp8 r h1.2;have h1:=h1.1;split at h1;·exact⟨_::zs,rfl⟩
  .cases h1
theorem qqj:LibOk env 167 q4t:=by
 intro vs hp v hp' hm X w args hH hA;unfold q4t at hm;split at hm
 .rename_i xs;split at hm
  .rename_i hcnd;obtain⟨hflat,hlen⟩:=hcnd;simp only[sI,pI]at hm;obtain⟨rfl,rfl⟩:=hm;obtain⟨zs,rfl⟩:=qp8 xs hflat;obtain⟨ha,hr⟩:=ya5 hA;obtain⟨hmu,hown⟩:=qix hH hr;rw[ha];generalize args.getD 0 undef=u at hmu hown;rcases hown with⟨h0,a,rfl⟩|⟨h0,_⟩|⟨b,cap,cur,e,sz,rfl,hg,hw,hs,hz,hne,hsz,hcap,hmax,hcells⟩
   .have:zs=[]:=by simpa using h0
    subst this;refine(qoe a 0 w).mono ?_;rintro e w1⟨rfl,rfl⟩;exact⟨_,rfl,qew hH hmu (row:=none) ⟨rfl,rfl,rfl,Nat.le_refl _,fun _ _ _=>rfl⟩ (fun g e=>by cases e) (.empty a 0)⟩
   .cases h0
   .have hsz1:sz=1:=by obtain⟨x,hx⟩:=List.exists_mem_of_ne_nil _ hne;obtain⟨p,_,rfl⟩:=List.mem_map.1 hx;rw[<-hs _ hx];rfl
    subst hsz1;rw[List.length_map]at*;simp only[fT,if_false]at hg;refine(qpb b cap zs cur e w (by unfold q0a at hlen;exact hlen) hcap hw (fun j p hj=>?_)).mono ?_
    .have hj':(zs.map strD)[j]?=some (strD p):=by rw[List.getElem?_map,hj];rfl
     obtain⟨u0,k0,r0⟩:=hcells j _ hj' 0 _ rfl;rw[q2i r0]at k0;simpa using k0
    .rintro e1 w1⟨val,rfl,hv,cur',hb',hs',hgr,hC⟩;refine⟨val,rfl,?_⟩;have hmap:q0g (zs.map strD)=(q0g zs).map strD:=qaq (fun a c h=>by simpa[strD]using h) zs;rw[hmap,hv];refine qew hH hmu (row:=some b) hgr (fun g e=>by cases e;exact⟨_,hg⟩) ?_;rw[show(q0g zs).length=((q0g zs).map strD).length by simp];have himm:∀o,(X.strike (some b)).imm b o:=fun o=>⟨hH.oamb b _ _ hg o,fun l k e=>by simp[Cx.strike]at e⟩;refine .list _ b 0 cap 1 (fun i j=>cur'.getD (i*1+j) undef) (fun x hx=>by obtain⟨p,_,rfl⟩:=List.mem_map.1 hx;rfl) (by have:=qdg zs;simp;omega) (fun i x hx j c hj=>⟨?_,himm _⟩) (fun i x hx j c hj=>?_)
     .rw[List.getElem?_map,Option.map_eq_some_iff]at hx;obtain⟨p,hp,rfl⟩:=hx;have c0:=hC i p hp;rw[Nat.zero_add,cell_of_row w1 b _ cur' e (0,0) hb'];have hj2:j<1:=(List.getElem?_eq_some_iff.1 hj).1;have:j=0:=by omega
      subst this;show cur'[i*1+0]?=some (cur'.getD (i*1+0) undef);rw[show i*1+0=i by omega,Array.getD_eq_getD_getElem?,c0];rfl
     .rw[List.getElem?_map,Option.map_eq_some_iff]at hx;obtain⟨p,hp,rfl⟩:=hx;have c0:=hC i p hp;have hj2:j<1:=(List.getElem?_eq_some_iff.1 hj).1;have:j=0:=by omega
      subst this;simp[strD,D.cells]at hj;subst hj;show Rep w1 _ _ (cur'.getD (i*1+0) undef);rw[show i*1+0=i by omega,Array.getD_eq_getD_getElem?,c0];exact .v _ rfl
  .cases hm
 .cases hm
end Go.Proofs.YtglokalgdbegeaaGreat
namespace Go.Proofs.YtglokalgdbegeaaGreat
open Go Go.Ab
variable {s : Nat} {t x : Trust} {k : Int}
theorem Trust.ind{p:Trust->Prop}(h:∀t,(∀x∈t.Inner,p x)->p t)(t:Trust):p t:=h t fun x _hx=>Trust.ind h x
termination_by SizeOf.sizeOf t
decreasing_by have:=List.sizeOf_lt_of_mem _hx;cases t;simp only[Trust.mk.sizeOf_spec]at*;omega
@[simp]theorem Trust.eta(t:Trust):Trust.mk t.Threshold t.Nodes t.Inner=t:=by cases t;rfl
def has(s:Nat)(k:Int):Bool:=decide (0<=k)&&(decide (k<10)&&s.testBit k.toNat)
def cnt(s:Nat)(l:LI):Nat:=l.countP (has s)
theorem q2n(h:s<1024):z4c s=some true:=by apply yd2;simp only[q0j (show(0:Int)<=(s:Int)by omega),q0j (show(s:Int)<=1023 by omega),cT]
theorem q36(h:s<1024):z2w s=some true:=by
 apply y7f;have:z63 s 10=some true:=by apply y7n;simp only[q0j (show(0:Int)<=(s:Int)by omega),cT,q12 (show(0:Int)<=10 by decide),shl1 (show(0:Int)<=10 by decide) (by decide)];rw[q03];show(s:Int)<((2^10:Nat):Int);omega
 simp only[this,bS]
theorem qn6(s k:Nat):(s>>>k)&&&1=if s.testBit k then 1 else 0:=by
 rw[Nat.testBit_eq_decide_div_mod_eq,Nat.shiftRight_eq_div_pow,Nat.and_one_is_mod];have:s/2^k%2=0\/s/2^k%2=1:=by omega
 rcases this with h|h<;>simp[h]
theorem q21(h:s<1024)(k:Int):z5t s k=some (has s k):=by
 apply ybj;simp only[q2n h,bS,cT];unfold has;by_cases h0:0<=k
 .by_cases h1:k<10
  .obtain⟨n,rfl⟩:=Int.eq_ofNat_of_zero_le h0;have hn:n<10:=by omega
   simp only[q0j h0,q03 h1,cT,q12 h0,y46 s n (by omega),decide_eq_true h0,decide_eq_true h1,tA',tN];have h2:s>>>n<2^62:=Nat.lt_of_le_of_lt (Nat.shiftRight_le _ _) (by omega);have h3:andI .i64 ((s>>>n:Nat):Int) 1=(((s>>>n)&&&1:Nat):Int):=qej (b:=1) h2 (by decide);rw[h3,qn6];cases s.testBit n<;>rfl
  .simp only[q0j h0,q00 (Int.not_lt.1 h1),cT,cF,h1,decide_false,Bool.false_and,Bool.and_false]
 .simp only[q0e (Int.not_le.1 h0),cF,h0,decide_false,Bool.false_and]
theorem y8q(s k:Nat):s&&&2^k=if s.testBit k then 2^k else 0:=by
 apply Nat.eq_of_testBit_eq;intro i;rw[Nat.testBit_and,Nat.testBit_two_pow];by_cases hi:k=i;·subst hi;cases h:s.testBit k<;>simp[]
 .cases h:s.testBit k<;>simp[hi]
theorem q2k(h:s<1024)(k:Int):z4r s k=some (has s k):=by
 apply yah;simp only[q36 h,bS,cT];unfold has;by_cases h0:0<=k
 .by_cases h1:k<10
  .obtain⟨n,rfl⟩:=Int.eq_ofNat_of_zero_le h0;have hn:n<10:=by omega
   simp only[q0j h0,q03 h1,cT,q12 h0,shl1 h0 (show((n:Nat):Int)<=62 by omega),decide_eq_true h0,decide_eq_true h1,tA',tN];have h2:2^n<2^62:=Nat.pow_lt_pow_right (by decide) (by omega);rw[qej (show s<2^62 by omega) h2,y8q];cases s.testBit n with
   |true=>
    have:(2:Nat)^n≠0:=by have:=Nat.two_pow_pos n;omega
    simp only[if_true];rw[q2o (by omega)]|false=>rfl
  .simp only[q0j h0,q00 (Int.not_lt.1 h1),cT,cF,h1,decide_false,Bool.false_and,Bool.and_false]
 .simp only[q0e (Int.not_le.1 h0),cF,h0,decide_false,Bool.false_and]
mutual
def size : Trust -> Nat
 | ⟨_, nodes, inner⟩ => nodes.length + inner.length + sizes inner
def sizes : LT -> Nat
 | [] => 0
 | x :: r => size x + sizes r
end
mutual
def depth : Trust -> Nat
 | ⟨_, _, inner⟩ => q3g inner + 1
def q3g : LT -> Nat
 | [] => 0
 | x :: r => max (depth x) (q3g r)
end
theorem q1q(t:Trust):size t=t.Nodes.length+t.Inner.length+sizes t.Inner:=by cases t;simp only[size]
theorem qeg(t:Trust):depth t=q3g t.Inner+1:=by cases t;simp only[depth]
theorem qei{l:LT}(h:x∈l):size x<=sizes l:=by induction l with|nil=>cases h|cons y r ih=>
  simp only[sizes];rcases List.mem_cons.1 h with rfl|h;·omega
  .have:=ih h;omega
def Small(t:Trust):Prop:=size t<1152921504606846976
theorem Small.nodes(h:Small t):t.Nodes.length<1152921504606846976:=by unfold Small at h;rw[q1q]at h;omega
theorem Small.inner(h:Small t):t.Inner.length<1152921504606846976:=by unfold Small at h;rw[q1q]at h;omega
theorem Small.mem(h:Small t)(hx:x∈t.Inner):Small x:=by unfold Small at*;rw[q1q]at h;have:=qei hx;omega
mutual
def sat (s : Nat) : Trust -> Bool
 | ⟨thr, nodes, inner⟩ => decide (thr <= ((cnt s nodes + sats s inner : Nat) : Int))
def sats (s : Nat) : LT -> Nat
 | [] => 0
 | x :: r => (if sat s x then 1 else 0) + sats s r
end
theorem qzb(s:Nat)(t:Trust):sat s t=decide (t.Threshold<=((cnt s t.Nodes+sats s t.Inner:Nat):Int)):=by cases t;simp only[sat]
theorem qa0{s:Nat}(hs:s<1024)(xs:LI)(hl:xs.length<1152921504606846976)(a11:Int)(a13:LI)(a15:LT):∀(suf:LI)(i c:Nat),xs.drop i=suf->c<=i->Le (z2q s ((c+cnt s suf:Nat):Int) a15 ((a15.length:Nat):Int) 0 a11 a13 a15) (z32 s (c:Int) xs ((xs.length:Nat):Int) (i:Int) a11 a13 a15)|[],i,c,h,hc=>fun r hr=>by apply y6w;simp only[q0c h,cF];exact hr|y::suf,i,c,h,hc=>fun r hr=>by apply y6w;have hlt:=q09 h;simp only[q05 h,cT,q04 h,q21 hs,bS,q01 (show i<4611686018427387904 by omega),q01 (show c<4611686018427387904 by omega)];cases hy:has s y with|true=>simp only[cT];refine qa0 hs xs hl a11 a13 a15 suf (i+1) (c+1) (q02 h) (by omega) r ?_;rw[<-hr];congr 2;simp only[cnt,List.countP_cons,hy,if_true];omega|false=>simp only[cF];refine qa0 hs xs hl a11 a13 a15 suf (i+1) c (q02 h) (by omega) r ?_;rw[<-hr];congr 2;simp only[cnt,List.countP_cons,hy];rfl
theorem qgp(hs:s<1024):∀t:Trust,Small t->z4x t s=some (sat s t):=by
 apply Trust.ind;intro t ih ht;have hn:=ht.nodes;have hi:=ht.inner;have l2:∀(suf:LT)(i c:Nat),t.Inner.drop i=suf->c<=t.Nodes.length+i->z2q s (c:Int) t.Inner ((t.Inner.length:Nat):Int) (i:Int) t.Threshold t.Nodes t.Inner=some (decide (t.Threshold<=((c+sats s suf:Nat):Int))):=by intro suf;induction suf with|nil=>intro i c h hc;apply y7u;simp only[q0c h,cF,sats,Nat.add_zero];rfl|cons y suf ihs=>
   intro i c h hc;apply y7u;have hlt:=q09 h;have hy:y∈t.Inner:=by
    have:y∈t.Inner.drop i:=by rw[h];exact List.mem_cons_self
    exact List.mem_of_mem_drop this
   simp only[q05 h,cT,q04 h,ih y hy (ht.mem hy),bS,q01 (show i<4611686018427387904 by omega),q01 (show c<4611686018427387904 by omega)];cases hsy:sat s y with|true=>simp only[cT];rw[ihs (i+1) (c+1) (q02 h) (by omega)];simp only[sats,hsy,if_true];congr 3;omega|false=>simp only[cF];rw[ihs (i+1) c (q02 h) (by omega)];simp only[sats,hsy,fT,if_false,Nat.zero_add]
 apply ycs;simp only[q2n hs,bS,nT,cF];apply qa0 hs t.Nodes (by omega) t.Threshold t.Nodes t.Inner t.Nodes 0 0 rfl (Nat.le_refl _);rw[show(0:Int)=((0:Nat):Int)from rfl,l2 t.Inner 0 _ rfl (by have:cnt s t.Nodes<=t.Nodes.length:=List.countP_le_length;omega)];rw[qzb,Nat.zero_add]
theorem qtw:∀t:Trust,Small t->z7v t=some ((size t:Nat):Int):=by
 apply Trust.ind;intro t ih ht;have hn:=ht.nodes;have hi:=ht.inner;have hs:size t<1152921504606846976:=ht;have l1:∀(suf:LT)(i c:Nat),t.Inner.drop i=suf->c+sizes suf=size t->z64 (c:Int) t.Inner ((t.Inner.length:Nat):Int) (i:Int) t.Threshold t.Nodes t.Inner=some ((size t:Nat):Int):=by intro suf;induction suf with|nil=>intro i c h hc;apply y76;simp only[q0c h,cF];simp only[sizes,Nat.add_zero]at hc;rw[hc]|cons y suf ihs=>intro i c h hc;apply y76;have hlt:=q09 h;have hy:y∈t.Inner:=List.mem_of_mem_drop (by rw[h];exact List.mem_cons_self);simp only[sizes]at hc;simp only[q05 h,cT,q04 h,ih y hy (ht.mem hy),bS,q01 (show i<4611686018427387904 by omega)];rw[q20 (by omega) (by omega)];exact ihs (i+1) (c+size y) (q02 h) (by omega)
 apply yfw;rw[q20 (by omega) (by omega)];have h1:=q1q t;exact l1 t.Inner 0 (t.Nodes.length+t.Inner.length) rfl (by omega)
theorem q5w:∀t:Trust,depth t<=size t+1:=by
 apply Trust.ind;intro t ih;rw[qeg,q1q];have:∀l:LT,(∀x∈l,depth x<=size x+1)->q3g l<=sizes l+l.length:=by intro l;induction l with|nil=>intro _;simp[q3g]|cons y r ihl=>intro h;have h1:=h y (by simp);have h2:=ihl (fun x hx=>h x (by simp[hx]));simp only[q3g,sizes,List.length_cons];omega
 have:=this t.Inner ih;omega
theorem qih:∀t:Trust,Small t->z7j t=some ((depth t:Nat):Int):=by
 apply Trust.ind;intro t ih ht;have hi:=ht.inner;have hd:=q5w t;have hs:size t<1152921504606846976:=ht;have l1:∀(suf:LT)(i c:Nat),t.Inner.drop i=suf->max c (q3g suf)=q3g t.Inner->z5i (c:Int) t.Inner ((t.Inner.length:Nat):Int) (i:Int) t.Threshold t.Nodes t.Inner=some ((depth t:Nat):Int):=by intro suf;induction suf with|nil=>intro i c h hc;apply y7b;simp only[q0c h,cF];simp only[q3g,Nat.max_zero]at hc;rw[qeg]at hd⊢;rw[hc,q01 (by omega)]|cons y suf ihs=>
   intro i c h hc;apply y7b;have hlt:=q09 h;have hy:y∈t.Inner:=List.mem_of_mem_drop (by rw[h];exact List.mem_cons_self);simp only[q3g]at hc;simp only[q05 h,cT,q04 h,ih y hy (ht.mem hy),bS,q01 (show i<4611686018427387904 by omega)];have:(if((depth y:Nat):Int)>(c:Int)then((depth y:Nat):Int)else(c:Int))=((max c (depth y):Nat):Int):=by split<;>omega
   rw[this];exact ihs (i+1) (max c (depth y)) (q02 h) (by omega)
 apply yaj;exact l1 t.Inner 0 0 rfl (by omega)
def inR(k:Int):Bool:=decide (0<=k)&&decide (k<10)
def bit(k:Int):Nat:=2^k.toNat
theorem q9l(h:inR k=true):bit k<1024:=by
 simp only[inR,aT,dT]at h;have:k.toNat<10:=by omega
 exact Nat.pow_lt_pow_right (a:=2) (by decide) this
theorem qnf(h:inR k=true):shlI .i64 1 k=((bit k:Nat):Int):=by simp only[inR,aT,dT]at h;exact shl1 h.1 (by omega)
def fresh(s:Nat):LI->Bool|[]=>true|k::r=>inR k&&(!has s k&&fresh (s|||bit k) r)
theorem of_l1(xs:LI)(hl:xs.length<1152921504606846976):∀(suf:LI)(i s:Nat),xs.drop i=suf->s<1024->∃v e,z30 (s:Int) xs ((xs.length:Nat):Int) (i:Int)=some (v,e)/\(e=0↔fresh s suf=true)
 |[],i,s,h,hs=>⟨s,0,by apply qhc;simp only[q0c h,cF],by simp[fresh]⟩|y::suf,i,s,h,hs=>by
  have hlt:=q09 h;by_cases hy:inR y=true;·have hy':=hy;simp only[inR,aT,dT]at hy';cases hh:has s y with|true=>refine⟨0,6,?_,by simp[fresh,hy,hh]⟩;apply qhc;simp only[q05 h,cT,q04 h,q00 hy'.1,q0e hy'.2,cF,q21 hs,hh,bS]|false=>have hb:=q9l hy;obtain⟨v,e,h1,h2⟩:=of_l1 xs hl suf (i+1) (s|||bit y) (q02 h) (Nat.or_lt_two_pow (n:=10) hs hb);refine⟨v,e,?_,by rw[h2];simp[fresh,hy,hh]⟩;apply qhc;simp only[q05 h,cT,q04 h,q00 hy'.1,q0e hy'.2,cF,q21 hs,hh,bS,q12 hy'.1,qnf hy,q7n (show s<2^62 by omega) (show bit y<2^62 by omega),q01 (show i<4611686018427387904 by omega)];exact h1
  .have hn:¬(0<=y/\y<10):=by simpa[inR]using hy
   refine⟨0,5,?_,by simp[fresh,hy]⟩;apply qhc;simp only[q05 h,cT,q04 h];by_cases h0:y<0;·simp only[q03 h0,cT]
   .simp only[q00 (Int.not_lt.1 h0),cF,q0j (show 10<=y by omega),cT]
theorem of_ok(xs:LI)(hl:xs.length<1152921504606846976):∃v e,z82 xs=some (v,e)/\(e=0↔fresh 0 xs=true):=by obtain⟨v,e,h1,h2⟩:=of_l1 xs hl xs 0 0 rfl (by decide);exact⟨v,e,y63 _ _ h1,h2⟩
mutual
def good : Trust -> Bool
 | ⟨thr, nodes, inner⟩ => decide (1 <= thr) && (decide (thr <= ((nodes.length + inner.length : Nat) : Int)) && (nodes.all inR && (fresh 0 nodes && goods inner)))
def goods : LT -> Bool
 | [] => true
 | x :: r => good x && goods r
end
theorem qkc(t:Trust):good t=(decide (1<=t.Threshold)&&(decide (t.Threshold<=((t.Nodes.length+t.Inner.length:Nat):Int))&&(t.Nodes.all inR&&(fresh 0 t.Nodes&&goods t.Inner)))):=by cases t;simp only[good]
theorem qvn(xs:LI)(hl:xs.length<1152921504606846976)(thr:Int)(inner:LT)(Q:Int->Prop)(hQ:∃e,z2d inner ((inner.length:Nat):Int) 0 thr xs inner=some e/\Q e):∀(suf:LI)(i:Nat),xs.drop i=suf->∃e,z2c xs ((xs.length:Nat):Int) (i:Int) thr xs inner=some e/\(if suf.all inR&&fresh 0 xs then Q e else e≠0)
 |[],i,h=>by obtain⟨v,e,h1,h2⟩:=of_ok xs hl;cases hf:fresh 0 xs with|true=>obtain⟨e',h3,h4⟩:=hQ;refine⟨e',?_,by simpa[hf]using h4⟩;apply qkw;have he:e=0:=h2.2 hf;subst he;simp only[q0c h,cF,h1,bS,q0u,h3]|false=>
   have he:e≠0:=fun h0=>by rw[h2.1 h0]at hf;cases hf
   refine⟨e,?_,by simp[he]⟩;apply qkw;simp only[q0c h,cF,h1,bS,q2o he,cT]
 |y::suf,i,h=>by
  have hlt:=q09 h;by_cases hy:inR y=true;·have hy':=hy;simp only[inR,aT,dT]at hy';obtain⟨e,h1,h2⟩:=qvn xs hl thr inner Q hQ suf (i+1) (q02 h);refine⟨e,?_,by simpa[hy]using h2⟩;apply qkw;simp only[q05 h,cT,q04 h,q00 hy'.1,q0e hy'.2,cF,q01 (show i<4611686018427387904 by omega),h1]
  .have hn:¬(0<=y/\y<10):=by simpa[inR]using hy
   refine⟨5,?_,by simp[hy]⟩;apply qkw;simp only[q05 h,cT,q04 h];by_cases h0:y<0;·simp only[q03 h0,cT]
   .simp only[q00 (Int.not_lt.1 h0),cF,q0j (show 10<=y by omega),cT]
theorem y4s:∀t:Trust,Small t->∃e,z4q t=some e/\(e=0↔good t=true):=by
 apply Trust.ind;intro t ih ht;have hn:=ht.nodes;have hi:=ht.inner;have hs:size t<1152921504606846976:=ht;rw[q1q]at hs;have l2:∀(suf:LT)(i:Nat),t.Inner.drop i=suf->∃e,z2d t.Inner ((t.Inner.length:Nat):Int) (i:Int) t.Threshold t.Nodes t.Inner=some e/\(e=0↔goods suf=true):=by intro suf;induction suf with|nil=>intro i h;refine⟨0,?_,by simp[goods]⟩;apply qp7;simp only[q0c h,cF]|cons y suf ihs=>
   intro i h;have hlt:=q09 h;have hy:y∈t.Inner:=List.mem_of_mem_drop (by rw[h];exact List.mem_cons_self);obtain⟨e,h1,h2⟩:=ih y hy (ht.mem hy);by_cases he:e=0;·obtain⟨e',h3,h4⟩:=ihs (i+1) (q02 h);refine⟨e',?_,by rw[h4];simp[goods,h2.1 he]⟩;apply qp7;simp only[q05 h,cT,q04 h,h1,bS,he,q0u,cF,q01 (show i<4611686018427387904 by omega),h3]
   .refine⟨e,?_,?_⟩;·apply qp7;simp only[q05 h,cT,q04 h,h1,bS,q2o he]
    .have:good y=false:=by cases hg:good y with|true=>exact absurd (h2.2 hg) he|false=>rfl
     simp[goods,this,he]
 rw[qkc];by_cases h1:1<=t.Threshold
 .by_cases h2:t.Threshold<=((t.Nodes.length+t.Inner.length:Nat):Int)
  .obtain⟨e,h3,h4⟩:=qvn t.Nodes (by omega) t.Threshold t.Inner (fun e=>e=0↔goods t.Inner=true) (l2 t.Inner 0 rfl) t.Nodes 0 rfl;refine⟨e,?_,?_⟩;·apply qwb;rw[q00 h1,q20 (by omega) (by omega),q00 (by omega)];simp only[cF];exact h3
   .simp only[decide_eq_true h1,decide_eq_true h2,tA'];cases ha:t.Nodes.all inR<;>cases hf:fresh 0 t.Nodes<;>simp[ha,hf]at h4⊢<;>exact h4
  .refine⟨4,?_,by rw[decide_eq_false h2];simp⟩;apply qwb;rw[q00 h1,q20 (by omega) (by omega),q03 (by omega)];simp only[cF,cT]
 .refine⟨4,?_,by simp[h1]⟩;apply qwb;rw[q03 (by omega)];simp only[cT]
def valid(t:Trust):Bool:=decide (depth t<=4)&&(decide (size t<=200)&&good t)
theorem y3r(t:Trust)(ht:Small t):∃e,z2l t=some e/\(e=0↔valid t=true):=by
 have hs:size t<1152921504606846976:=ht;by_cases h1:depth t<=4
 .by_cases h2:size t<=200;·obtain⟨e,h3,h4⟩:=y4s t ht;refine⟨e,?_,by simp[valid,h1,h2,h4]⟩;apply qv0;rw[qih t ht];simp only[bS];rw[q00 (by omega),qtw t ht];simp only[cF,bS];rw[q00 (by omega)];simp only[cF,h3,bS]
  .refine⟨3,?_,by simp[valid,h2]⟩;apply qv0;rw[qih t ht];simp only[bS];rw[q00 (by omega),qtw t ht];simp only[cF,bS];rw[q03 (by omega)];simp only[cT]
 .refine⟨3,?_,by simp[valid,h1]⟩;apply qv0;rw[qih t ht];simp only[bS];rw[q03 (by omega)];simp only[cT]
variable {i m n : Int} {l : LI}
def q0w(l:LI)(i:Int):Prop:=0<=i/\i<=400/\l.length<=400
theorem yet(t:LI):∃l,z89 t=some ((),l,0)/\q0w l 0:=by
 by_cases h:400<((t.length:Nat):Int);·refine⟨List.drop 0 (List.take 400 t),?_,by simp[q0w];omega⟩;apply y7j;rw[if_pos h,qhy (by decide) (by omega)];rfl
 .refine⟨List.drop 0 (List.take t.length t),?_,by simp[q0w];omega⟩;apply y7j;rw[if_neg h,qhy (by omega) (by omega)];simp only[tN]
theorem N_ok(hn:0<n)(hn2:n<4611686018427387904)(h:q0w l i):∃v j,z1l n l i=some (v,l,j)/\0<=v/\v<n/\q0w l j:=by
 obtain⟨h0,h1,h2⟩:=h;by_cases hl:((l.length:Nat):Int)<=i;·refine⟨0,i,?_,by omega,hn,h0,h1,h2⟩;apply y02;simp only[q0j hl,cT]
 .have hi:i.toNat<l.length:=by omega
  have hg:l[i.toNat]?=some l[i.toNat]:=List.getElem?_eq_getElem hi;generalize l[i.toNat]=y at hg;have b1:=Int.tmod_lt_of_pos y hn;have b2:=Int.lt_tmod_of_pos y hn;have hne:n≠0:=by omega
  have hj:addI .i64 i 1=i+1:=q20 (by omega) (by omega);by_cases hr:y.tmod n<0;·refine⟨y.tmod n+n,i+1,?_,by omega,by omega,by omega,by omega,h2⟩;apply y02;simp only[q0e (Int.not_le.1 hl),cF,q0s h0 hg,q12 hne,hj];rw[show remI .i64 y n=y.tmod n from rfl,q03 hr,q20 (by omega) (by omega)];rfl
  .refine⟨y.tmod n,i+1,?_,by omega,by omega,by omega,by omega,h2⟩;apply y02;simp only[q0e (Int.not_le.1 hl),cF,q0s h0 hg,q12 hne,hj];rw[show remI .i64 y n=y.tmod n from rfl,q00 (by omega)];rfl
theorem qbo{a b:Int}(hab:a<=b)(ha:-1000000<=a)(hb:b<=1000000)(h:q0w l i):∃v j,z2e a b l i=some (v,l,j)/\a<=v/\v<=b/\q0w l j:=by obtain⟨v,j,h1,h2,h3,h4⟩:=N_ok (n:=b-a+1) (by omega) (by omega) h;refine⟨a+v,j,?_,by omega,by omega,h4⟩;apply ybp;rw[q22 (by omega) (by omega),q20 (by omega) (by omega),h1];simp only[bS];rw[q20 (by omega) (by omega)]
theorem q6i{ps:LI}(hp:0<ps.length)(hp2:ps.length<1000000)(h:q0w l i):∃v j,z1n ps l i=some (v,l,j)/\v∈ps/\q0w l j:=by
 obtain⟨v,j,h1,h2,h3,h4⟩:=N_ok (n:=((ps.length:Nat):Int)) (by omega) (by omega) h;have hi:v.toNat<ps.length:=by omega
 refine⟨ps[v.toNat],j,?_,List.getElem_mem hi,h4⟩;apply ya9;rw[h1];simp only[bS,q0s h2 (List.getElem?_eq_getElem hi)]
theorem qwi{l:LI}(B:Int):∀(k:Nat)(a:LI)(c:Int)(i:Int),c.toNat=k->c<((a.length:Nat):Int)->a.length<=1000->(∀x∈a,0<=x/\x<B)->q0w l i->∃p j,z4j a c l i=some (p,l,j)/\p.length=a.length/\(∀x∈p,0<=x/\x<B)/\q0w l j
 |0,a,c,i,hk,hc,ha,hm,h=>by refine⟨a,i,?_,rfl,hm,h⟩;apply y6h;simp only[q00 (show c<=0 by omega),cF]|k+1,a,c,i,hk,hc,ha,hm,h=>by
  obtain⟨v,j,h1,h2,h3,h4⟩:=N_ok (n:=c+1) (by omega) (by omega) h;have hv:v.toNat<a.length:=by omega
  have hcl:c.toNat<a.length:=by omega
  have g1:a[v.toNat]?=some a[v.toNat]:=List.getElem?_eq_getElem hv;have g2:a[c.toNat]?=some a[c.toNat]:=List.getElem?_eq_getElem hcl;have m1:=hm _ (List.getElem_mem hv);have m2:=hm _ (List.getElem_mem hcl);generalize a[v.toNat]=y1 at g1 m1;generalize a[c.toNat]=y2 at g2 m2;have hl1:v.toNat<(List.set a c.toNat y1).length:=by simpa using hv
  have g3:(List.set a c.toNat y1)[v.toNat]?=some (List.set a c.toNat y1)[v.toNat]:=List.getElem?_eq_getElem hl1;generalize(List.set a c.toNat y1)[v.toNat]=y3 at g3;have hm':∀x∈List.set (List.set a c.toNat y1) v.toNat y2,0<=x/\x<B:=by
   intro x hx;rcases List.mem_or_eq_of_mem_set hx with hx|rfl
   .rcases List.mem_or_eq_of_mem_set hx with hx|rfl;·exact hm x hx
    .exact m1
   .exact m2
  obtain⟨p,j',h5,h6,h7,h8⟩:=qwi B k (List.set (List.set a c.toNat y1) v.toNat y2) (c-1) j (by omega) (by simp;omega) (by simpa using ha) hm' h4;refine⟨p,j',?_,by simpa using h6,h7,h8⟩;apply y6h;rw[q03 (by omega),q20 (by omega) (by omega),h1,q22 (by omega) (by omega)];simp only[cT,bS,q0s h2 g1,q0s (show 0<=c by omega) g2,q44 g1,q44 g2,q0s h2 g3,q44 g3];exact h5
theorem quu{l:LI}(n:Int)(hn:n<=1000):∀(k:Nat)(a:LI)(i:Int),n-((a.length:Nat):Int)=((k:Nat):Int)->(∀x∈a,0<=x/\x<n)->q0w l i->∃p j,z4g n a ((a.length:Nat):Int) l i=some (p,l,j)/\((p.length:Nat):Int)=n/\(∀x∈p,0<=x/\x<n)/\q0w l j
 |0,a,i,hk,hm,h=>by obtain⟨p,j,h1,h2,h3,h4⟩:=qwi n (n-1).toNat a (n-1) i rfl (by omega) (by omega) hm h;refine⟨p,j,?_,by omega,h3,h4⟩;apply y7x;rw[q00 (by omega),q22 (by omega) (by omega)];simp only[cF,h1]
 |k+1,a,i,hk,hm,h=>by obtain⟨p,j,h1,h2,h3,h4⟩:=quu n hn k (a++[((a.length:Nat):Int)]) i (by simp;omega) (by
   intro x hx;rcases List.mem_append.1 hx with hx|hx;·exact hm x hx
   .rw[List.mem_singleton]at hx;subst hx;omega) h;refine⟨p,j,?_,h2,h3,h4⟩;apply y7x;rw[q03 (by omega),q07 (by simp[q0a];omega),q01 (by omega)];simp only[cT];rw[<-h1];congr 1;simp
theorem qvi(h0:0<=n)(hn:n<=1000)(h:q0w l i):∃p j,z7e n l i=some (p,l,j)/\((p.length:Nat):Int)=n/\(∀x∈p,0<=x/\x<n)/\q0w l j:=by obtain⟨p,j,h1,h2,h3,h4⟩:=quu n hn n.toNat [] i (by simp;omega) (by simp) h;exact⟨p,j,yct _ _ _ _ h1,h2,h3,h4⟩
theorem q6x(a b:LT):sizes (a++b)=sizes a+sizes b:=by induction a with|nil=>simp[sizes]|cons x r ih=>simp only[List.cons_append,sizes,ih];omega
theorem qnw(a1 a3:Int)(xs:LI)(hl:xs.length<=10)(a13:LI)(a15 a17:Int)(a19:LI)(a21:LT)(a23:Int)(a27:LT):∀(suf:LI)(i:Nat)(acc:LI),xs.drop i=suf->i<=xs.length->acc.length<=i->Le (z5p a1 a3 xs ((xs.length:Nat):Int) ((xs.length:Nat):Int) a13 a15 a17 a19 a21 a23 (acc++suf) a27) (z5p a1 a3 xs ((xs.length:Nat):Int) (i:Int) a13 a15 a17 a19 a21 a23 acc a27)
 |[],i,acc,h,hi,ha=>by
  have h1:xs.length<=i:=List.drop_eq_nil_iff.1 h;have:i=xs.length:=by omega
  subst this;rw[List.append_nil];exact Le.refl _|y::suf,i,acc,h,hi,ha=>fun r hr=>by have hlt:=q09 h;apply qz8;simp only[q05 h,cT,q04 h,q01 (show i<4611686018427387904 by omega)];rw[q07 (by simp[q0a];omega)];refine qnw a1 a3 xs hl a13 a15 a17 a19 a21 a23 a27 suf (i+1) (acc++[y]) (q02 h) (by omega) (by simp;omega) r ?_;rw[List.append_assoc];exact hr
def bound:Nat->Nat|0=>8|d+1=>8+3*bound d
theorem qwo:∀d,d<=bound d|0=>by simp[bound]|d+1=>by have:=qwo d;simp only[bound];omega
theorem qz3(thr:Int)(a:LI)(b:LT):size (Trust.mk thr a b)=a.length+b.length+sizes b:=by simp only[size]
mutual
def below (m : Int) : Trust -> Bool
 | ⟨_, nodes, inner⟩ => nodes.all (fun k => decide (0 <= k) && decide (k < m)) && qc1 m inner
def qc1 (m : Int) : LT -> Bool
 | [] => true
 | x :: r => below m x && qc1 m r
end
theorem qn5(m:Int)(a b:LT):qc1 m (a++b)=(qc1 m a&&qc1 m b):=by induction a with|nil=>simp[qc1]|cons x r ih=>simp only[List.cons_append,qc1,ih,Bool.and_assoc]
theorem y34(h:∀x∈l,0<=x/\x<m):l.all (fun k=>decide (0<=k)&&decide (k<m))=true:=by rw[List.all_eq_true];intro x hx;have:=h x hx;simp[this.1,this.2]
theorem qoo{thr:Int}{a:LI}{b:LT}(ha:∀x∈a,0<=x/\x<m)(hb:qc1 m b=true):below m ⟨thr,a,b⟩=true:=by simp only[below,y34 ha,hb,Bool.and_self]
theorem qv3{n:Int}{l:LI}{d:Nat}(hd:bound d<1000000)(IH:∀i,q0w l i->∃t j,z7r n (d+1:Nat) l i=some (t,l,j)/\(size t<=bound d/\below n t=true)/\q0w l j)(a13:Int)(a15:LI)(a17:LT)(a19:Int)(a21:LI)(h5:1<=a21.length)(h6:a21.length<=5)(hN:∀x∈a21,0<=x/\x<n):∀(k:Nat)(i:Int)(acc:LT),acc.length+k<=3->(sizes acc<=acc.length*bound d/\qc1 n acc=true)->q0w l i->∃t j,z5r n ((d+2:Nat):Int) (k:Int) l i a13 a15 a17 a19 a21 acc=some (t,l,j)/\(size t<=bound (d+1)/\below n t=true)/\q0w l j
 |0,i,acc,ha,hs,h=>by
  obtain⟨hs,hbl⟩:=hs;have hb:sizes acc<=3*bound d:=Nat.le_trans hs (Nat.mul_le_mul_right _ (by omega));have fin:∀(q:LI)(i':Int),q.length<=5->1<=q.length+acc.length->(∀x∈q,0<=x/\x<n)->q0w l i'->∃v j,z2e 1 (addI .i64 ((q.length:Nat):Int) ((acc.length:Nat):Int)) l i'=some (v,l,j)/\(size (Trust.mk v q acc)<=bound (d+1)/\below n (Trust.mk v q acc)=true)/\q0w l j:=by intro q i' hq hq1 hqn h';rw[q20 (by omega) (by omega)];obtain⟨v,j,g1,g2,g3,g4⟩:=qbo (a:=1) (b:=((q.length:Nat):Int)+((acc.length:Nat):Int)) (by omega) (by omega) (by omega) h';exact⟨v,j,g1,⟨by rw[qz3];simp only[bound];omega,qoo hqn hbl⟩,g4⟩
  by_cases h0:acc.length=0;·obtain⟨v,j,g1,g2,g3⟩:=fin a21 i h6 (by omega) hN h;refine⟨_,j,?_,g2,g3⟩;apply qwv;rw[q00 (show((0:Nat):Int)<=0 by omega),q00 (show((acc.length:Nat):Int)<=0 by omega),g1];rfl
  .obtain⟨u,j0,g1,g2,g3,g4⟩:=N_ok (n:=3) (by decide) (by decide) h;by_cases hu:u=0;·obtain⟨v,j,g5,g6,g7⟩:=fin [] j0 (by simp) (by simp;omega) (by simp) g4;refine⟨_,j,?_,g6,g7⟩;apply qwv;rw[q00 (show((0:Nat):Int)<=0 by omega),q03 (show 0<((acc.length:Nat):Int)by omega),g1];simp only[cF,cT,bS,hu,q0m];rw[g5];rfl
   .obtain⟨v,j,g5,g6,g7⟩:=fin a21 j0 h6 (by omega) hN g4;refine⟨_,j,?_,g6,g7⟩;apply qwv;rw[q00 (show((0:Nat):Int)<=0 by omega),q03 (show 0<((acc.length:Nat):Int)by omega),g1];simp only[cF,cT,bS,q0h hu];rw[g5];rfl|k+1,i,acc,ha,hs,h=>by obtain⟨x,j0,g1,g2,g3⟩:=IH i h;obtain⟨t,j,g4,g5,g6⟩:=qv3 hd IH a13 a15 a17 a19 a21 h5 h6 hN k j0 (acc++[x]) (by simp;omega) ⟨by rw[q6x];simp only[sizes,List.length_append,List.length_cons,List.length_nil,Nat.add_mul];have:=hs.1;have:=g2.1;omega,by simp only[qn5,qc1,hs.2,g2.2,Bool.and_self]⟩ g3;refine⟨t,j,?_,g5,g6⟩;apply qwv;have hdd:=qwo d;rw[q03 (by omega),q22 (by omega) (by omega),q22 (by omega) (by omega)];rw[show((d+2:Nat):Int)-1=((d+1:Nat):Int)by omega,g1];simp only[cT,bS,Trust.eta];rw[q07 (by simp[q0a];omega)];rw[<-g4];congr 1;omega
theorem y4u(h1:1<=n)(h2:n<=1000):∀(d:Nat),bound d<1000000->∀i,q0w l i->∃t j,z7r n (d+1:Nat) l i=some (t,l,j)/\(size t<=bound d/\below n t=true)/\q0w l j:=by intro d;induction d with|zero=>
  intro _ i h;obtain⟨p,j0,g1,g2,g3,g4⟩:=qvi (by omega) h2 h;obtain⟨b,j1,g5,g6,g7,g8⟩:=qbo (a:=1) (b:=if 5<n then 5 else n) (by split<;>omega) (by omega) (by split<;>omega) g4;have hb5:b<=5:=by split at g7<;>omega
  have hbn:b<=n:=by split at g7<;>omega
  have hxs:(List.take b.toNat p).length=b.toNat:=by simp;omega
  obtain⟨v,j,g9,g10,g11,g12⟩:=qbo (a:=1) (b:=((b.toNat:Nat):Int)) (by omega) (by omega) (by omega) g8;refine⟨Trust.mk v (List.take b.toNat p) [],j,?_,⟨by rw[qz3,hxs];simp[sizes,bound];omega,qoo (fun x hx=>g3 x (List.mem_of_mem_take hx)) rfl⟩,g12⟩;apply y8h;rw[g1];simp only[bS];rw[g5];simp only[bS];rw[qhy (by omega) (by omega)];simp only[List.drop_zero];refine qnw n _ _ (by omega) l j1 0 [] [] 0 [] _ 0 [] rfl (Nat.zero_le _) (Nat.zero_le _) _ ?_;rw[List.nil_append,List.drop_zero];apply qz8;rw[q00 (Int.le_refl _),q00 (by decide)];simp only[cF];rw[hxs,show addI .i64 ((b.toNat:Nat):Int) (([]:LT).length:Nat)=((b.toNat:Nat):Int)by rw[q20 (by simp;omega) (by simp;omega)];simp,g9];rfl|succ d ihd=>
  intro hbd i h;have hbd':bound d<1000000:=by simp only[bound]at hbd;omega
  obtain⟨p,j0,g1,g2,g3,g4⟩:=qvi (by omega) h2 h;obtain⟨b,j1,g5,g6,g7,g8⟩:=qbo (a:=1) (b:=if 5<n then 5 else n) (by split<;>omega) (by omega) (by split<;>omega) g4;have hb5:b<=5:=by split at g7<;>omega
  have hbn:b<=n:=by split at g7<;>omega
  have hxs:(List.take b.toNat p).length=b.toNat:=by simp;omega
  obtain⟨k,j2,g9,g10,g11⟩:=q6i (ps:=[0,0,1,1,2,3]) (by decide) (by decide) g8;have hk:0<=k/\k<=3:=by simp only[List.mem_cons,List.not_mem_nil,or_false]at g10;omega
  obtain⟨kn,rfl⟩:=Int.eq_ofNat_of_zero_le hk.1;obtain⟨t,j,g12,g13,g14⟩:=qv3 hbd' (ihd hbd') 0 [] [] 0 (List.take b.toNat p) (by omega) (by omega) (fun x hx=>g3 x (List.mem_of_mem_take hx)) kn j2 [] (by simp;omega) ⟨by simp[sizes],rfl⟩ g11;refine⟨t,j,?_,g13,g14⟩;apply y8h;rw[g1];simp only[bS];rw[g5];simp only[bS];rw[qhy (by omega) (by omega)];simp only[List.drop_zero];refine qnw n _ _ (by omega) l j1 0 [] [] 0 [] _ 0 [] rfl (Nat.zero_le _) (Nat.zero_le _) _ ?_;rw[List.nil_append,List.drop_zero];apply qz8;rw[q00 (Int.le_refl _),q03 (show(1:Int)<((d+1+1:Nat):Int)by omega),g9];simp only[cF,cT,bS];exact g12
theorem y59(k:Int):has 0 k=false:=by simp[has]
theorem y1b{v:Int}(h:inR v=true):valid (Trust.mk 1 [v] [])=true:=by simp[valid,depth,q3g,size,sizes,good,goods,fresh,h,y59]
theorem Small.of_size{t:Trust}{b:Nat}(h:size t<=b)(hb:b<1000000):Small t:=by unfold Small;omega
theorem y5g(h1:1<=n)(h2:n<=10)(d:Nat)(hd:bound d<1000000)(h:q0w l i):∃t j,z6i n (d+1:Nat) l i=some (t,l,j)/\(valid t=true/\below n t=true)/\Small t/\q0w l j:=by
 obtain⟨t,j,g1,g2,g3⟩:=y4u h1 (by omega) d hd i h;have hsm:=Small.of_size g2.1 hd;obtain⟨e,g4,g5⟩:=y3r t hsm;by_cases he:e=0;·refine⟨t,j,?_,⟨g5.1 he,g2.2⟩,hsm,g3⟩;apply y79;rw[g1];simp only[bS];rw[g4];simp only[bS,he,q0u,cF,Trust.eta]
 .obtain⟨v,j',g6,g7,g8,g9⟩:=N_ok (n:=n) (by omega) (by omega) g3;have hv:inR v=true:=by simp only[inR,aT,dT];omega
  refine⟨Trust.mk 1 [v] [],j',?_,⟨y1b hv,qoo (by simp;omega) rfl⟩,Small.of_size (b:=1) (by simp[size,sizes]) (by decide),g9⟩;apply y79;rw[g1];simp only[bS];rw[g4];simp only[bS,q2o he,cT];rw[g6];rfl
theorem ya7{m:Int}(h0:0<=m):∀{l:LI},(∀k∈l,0<=k/\k<m)->l.Pairwise (·<·)->(l.length:Int)<=m:=by
 intro l h hs;have key:∀(l:LI)(b:Int),(∀k∈l,b<=k/\k<m)->l.Pairwise (·<·)->b<=m->(l.length:Int)<=m-b:=by intro l;induction l with|nil=>intro b _ _ hb;simp;omega|cons x r ih=>intro b h hs hb;rw[List.pairwise_cons]at hs;have hx:=h x (by simp);have:=ih (x+1) (fun k hk=>⟨by have:=hs.1 k hk;omega,(h k (by simp[hk])).2⟩) hs.2 (by omega);simp only[List.length_cons];omega
 have:=key l 0 h hs h0;omega
def blank:Trust:=⟨0,[],[]⟩
variable {a b i k s z : Nat}
theorem y45(h:∀k,has s k=true->has z k=true)(l:LI):cnt s l<=cnt z l:=List.countP_mono_left (fun k _ hk=>h k hk)
theorem y4h(h:∀k,has s k=true->has z k=true):∀t:Trust,sat s t=true->sat z t=true:=by
 apply Trust.ind;intro t ih hs;have hin:∀l:LT,(∀x∈l,sat s x=true->sat z x=true)->sats s l<=sats z l:=by intro l;induction l with|nil=>intro _;exact Nat.le_refl _|cons y r ihr=>intro h';have h1:=ihr (fun x hx=>h' x (by simp[hx]));have h2:=h' y (by simp);simp only[sats];cases hy:sat s y with|true=>simp only[h2 hy,if_true];omega|false=>simp only[fT,if_false];omega
 rw[qzb,dT]at hs⊢;have:=hin t.Inner ih;have:=y45 h t.Nodes;omega
def q25(s:Nat):Nat->Nat->List Nat|0,_=>[]|n+1,i=>if s.testBit i then i::q25 s n (i+1)else q25 s n (i+1)
def nodes(s:Nat):List Nat:=q25 s 10 0
theorem q8l{s k:Nat}:∀{n i:Nat},k∈q25 s n i↔s.testBit k=true/\i<=k/\k<i+n
 |0,i=>by simp only[q25,List.not_mem_nil,false_iff];omega|n+1,i=>by
  simp only[q25];split
  .rename_i h;rw[List.mem_cons,q8l];constructor
   .rintro(rfl|⟨h1,h2,h3⟩);·exact⟨h,by omega,by omega⟩
    .exact⟨h1,by omega,by omega⟩
   .rintro⟨h1,h2,h3⟩;by_cases e:k=i;·exact .inl e
    .exact .inr ⟨h1,by omega,by omega⟩
  .rename_i h;rw[q8l];constructor;·rintro⟨h1,h2,h3⟩;exact⟨h1,by omega,by omega⟩
   .rintro⟨h1,h2,h3⟩;refine⟨h1,?_,by omega⟩;have:k≠i:=by rintro rfl;exact h h1
    omega
theorem qjc:k∈nodes s↔s.testBit k=true/\k<10:=by unfold nodes;rw[q8l];simp
theorem qea(s:Nat):∀n i,(q25 s n i).length<=n|0,_=>by simp[q25]|n+1,i=>by simp only[q25];have:=qea s n (i+1);split<;>simp<;>omega
theorem qim(s:Nat):(nodes s).length<=10:=qea s 10 0
theorem qfr(h:k<10):has s (k:Int)=s.testBit k:=by simp only[has,tN];rw[decide_eq_true (show(0:Int)<=(k:Int)by omega),decide_eq_true (show(k:Int)<10 by omega)];simp
theorem qnk{s:Nat}(hs:s<1024):∀(n i:Nat)(acc:LI),i+n=10->acc.length<=i->z4m (s:Int) acc (i:Int)=some (acc++(q25 s n i).map Int.ofNat)|0,i,acc,h,ha=>by apply y6k;rw[q00 (by omega)];simp[q25]|n+1,i,acc,h,ha=>by apply y6k;rw[q03 (by omega)];simp only[cT,q21 hs,bS,qfr (show i<10 by omega),q01 (show i<4611686018427387904 by omega),q25];cases hb:s.testBit i with|true=>simp only[cT,if_true];rw[q07 (by simp[q0a];omega),qnk hs n (i+1) _ (by omega) (by simp;omega)];simp|false=>simp only[cF,fT,if_false];rw[qnk hs n (i+1) _ (by omega) (by omega)]
theorem qv5(hs:s<1024):z6y (s:Int)=some ((nodes s).map Int.ofNat):=by apply ye7;rw[show(0:Int)=((0:Nat):Int)from rfl,qnk hs 10 0 [] rfl (by simp)];rfl
def q3c:Nat->LB->Nat|_,[]=>0|k,m::r=>(if decide (k<10)&&m.Declared then 2^k else 0)|||q3c (k+1) r
def decl(c:Config):Nat:=q3c 0 c.Members
theorem q9r:∀(l:LB)(k i:Nat),(q3c k l).testBit i=true↔k<=i/\i<10/\∃m,l[i-k]?=some m/\m.Declared=true
 |[],k,i=>by simp[q3c]|m::r,k,i=>by
  simp only[q3c,Nat.testBit_or,Bool.or_eq_true];rw[q9r r (k+1) i];constructor
  .rintro(h|⟨h1,h2,m',h3,h4⟩)
   .split at h;·rename_i hc;simp only[aT,dT]at hc;rw[Nat.testBit_two_pow,dT]at h;subst h;exact⟨Nat.le_refl _,hc.1,m,by simp,hc.2⟩
    .simp at h
   .refine⟨by omega,h2,m',?_,h4⟩;rw[show i-k=(i-(k+1))+1 by omega];simpa using h3
  .rintro⟨h1,h2,m',h3,h4⟩;by_cases e:i=k;·subst e;simp at h3;subst h3;left;simp[h4,h2]
   .right;refine⟨by omega,h2,m',?_,h4⟩;rw[show i-k=(i-(k+1))+1 by omega]at h3;simpa using h3
theorem qoz{c:Config}:(decl c).testBit i=true↔i<10/\∃m,c.Members[i]?=some m/\m.Declared=true:=by unfold decl;rw[q9r];simp
theorem ql6:∀(l:LB)(k:Nat),q3c k l<1024
 |[],_=>by simp[q3c]|m::r,k=>by
  simp only[q3c];refine Nat.or_lt_two_pow (n:=10) ?_ (ql6 r (k+1));split;·rename_i h;simp only[aT,dT]at h;exact Nat.pow_lt_pow_right (by decide) h.1
  .decide
theorem qcm(c:Config):decl c<1024:=ql6 _ _
theorem q95(l a8:LB)(hl:l.length<1152921504606846976):∀(suf:LB)(i s:Nat),l.drop i=suf->s<1024->z2v (s:Int) l ((l.length:Nat):Int) (i:Int) a8=some ((s|||q3c i suf:Nat):Int)
 |[],i,s,h,hs=>by apply y82;simp only[q0c h,cF,q3c,Nat.or_zero]|m::suf,i,s,h,hs=>by
  have hlt:=q09 h;apply y82;simp only[q05 h,cT,q04 h,q01 (show i<4611686018427387904 by omega),q3c];by_cases hi:i<10;·have hp:2^i<1024:=Nat.pow_lt_pow_right (a:=2) (by decide) hi;rw[q03 (by omega)];cases hd:m.Declared with|true=>simp only[cT];rw[q12 (by omega),shl1 (by omega) (by omega),tN,q7n (by omega) (by omega),q95 l a8 hl suf (i+1) _ (q02 h) (Nat.or_lt_two_pow (n:=10) hs hp)];simp only[decide_eq_true hi,Bool.and_self,if_true,Nat.or_assoc]|false=>simp only[cT,cF];rw[q95 l a8 hl suf (i+1) _ (q02 h) hs];simp
  .rw[q00 (by omega)];simp only[cF];rw[q95 l a8 hl suf (i+1) _ (q02 h) hs];simp[hi]
theorem qcs(c:Config)(h:c.Members.length<1152921504606846976):z5l c=some ((decl c:Nat):Int):=by apply yc1;rw[show(0:Int)=((0:Nat):Int)from rfl,q95 c.Members c.Members h c.Members 0 0 rfl (by decide),Nat.zero_or];rfl
def tr(c:Config)(k:Nat):Trust:=((c.Members[k]?).map (·.Trust)).getD blank
def Sub(a b:Nat):Prop:=∀i,a.testBit i=true->b.testBit i=true
theorem Sub.refl(a:Nat):Sub a a:=fun _ h=>h
theorem Sub.trans{c:Nat}(h:Sub a b)(h':Sub b c):Sub a c:=fun i hi=>h' i (h i hi)
theorem y99:Sub a b↔a&&&b=a:=by
 constructor;·intro h;apply Nat.eq_of_testBit_eq;intro i;rw[Nat.testBit_and];have:=h i;cases h3:a.testBit i<;>simp_all
 .intro h i hi;rw[<-h,Nat.testBit_and]at hi;simp only[aT]at hi;exact hi.2
theorem Sub.and_left(a b:Nat):Sub (a&&&b) a:=fun i h=>by rw[Nat.testBit_and,aT]at h;exact h.1
theorem Sub.and_right(a b:Nat):Sub (a&&&b) b:=fun i h=>by rw[Nat.testBit_and,aT]at h;exact h.2
theorem Sub.lt(h:Sub a b)(hb:b<1024):a<1024:=by rw[y99]at h;rw[<-h];exact Nat.lt_of_le_of_lt Nat.and_le_right hb
theorem ya2(h:Sub a b):∀k:Int,has a k=true->has b k=true:=by intro k hk;simp only[has,aT]at hk⊢;exact⟨hk.1,hk.2.1,h _ hk.2.2⟩
theorem ql2(hs:s<1024)(h:s.testBit i=true):i<10:=by apply Classical.byContradiction;intro hn;have:s.testBit i=false:=Nat.testBit_lt_two_pow (Nat.lt_of_lt_of_le hs (Nat.pow_le_pow_right (n:=2) (by decide) (show 10<=i by omega)));rw[this]at h;cases h
theorem qv1{α:Type}{a b:List α}{i:Nat}(h1:i<a.length)(h2:i<b.length):a.drop i=b.drop i↔a[i]=b[i]/\a.drop (i+1)=b.drop (i+1):=by rw[List.drop_eq_getElem_cons h1,List.drop_eq_getElem_cons h2,List.cons.injEq]
theorem qhi{a b:LI}(hl:a.length<1152921504606846976)(hab:a.length=b.length):∀(n i:Nat),i+n=a.length->∃r,z5b a b ((a.length:Nat):Int) (i:Int)=some r/\(r=true↔a.drop i=b.drop i)
 |0,i,h=>by refine⟨true,?_,by simp[List.drop_eq_nil_of_le (show a.length<=i by omega),List.drop_eq_nil_of_le (show b.length<=i by omega)]⟩;apply y1r;rw[q00 (by omega)];rfl|n+1,i,h=>by
  have h1:i<a.length:=by omega
  have h2:i<b.length:=by omega
  obtain⟨r,e1,e2⟩:=qhi hl hab n (i+1) (by omega);rw[qv1 h1 h2];by_cases hx:a[i]=b[i];·refine⟨r,?_,by rw[e2];simp[hx]⟩;apply y1r;rw[q03 (by omega),q0s (by omega) (show a[((i:Nat):Int).toNat]?=some a[i]by simp),q0s (by omega) (show b[((i:Nat):Int).toNat]?=some b[i]by simp),hx,q0u,q01 (by omega)];simp only[cT,cF];exact e1
  .refine⟨false,?_,by simp[hx]⟩;apply y1r;rw[q03 (by omega),q0s (by omega) (show a[((i:Nat):Int).toNat]?=some a[i]by simp),q0s (by omega) (show b[((i:Nat):Int).toNat]?=some b[i]by simp),q2o hx];rfl
theorem y2a{a b:LI}(hl:a.length<1152921504606846976):∃r,z7w a b=some r/\(r=true↔a=b):=by
 by_cases hab:a.length=b.length;·obtain⟨r,e1,e2⟩:=qhi hl hab a.length 0 (by omega);refine⟨r,?_,by simpa using e2⟩;apply y5t;rw[<-hab,q0u];exact e1
 .refine⟨false,?_,by simp;rintro rfl;exact hab rfl⟩;apply y5t;rw[q2o (by omega)];rfl
theorem y8x:∀a:Trust,Small a->∀b:Trust,∃r,z40 a b=some r/\(r=true↔a=b):=by
 apply Trust.ind;intro a ih ha b;have hn:=ha.nodes;have hi:=ha.inner;obtain⟨ta,na,ia⟩:=a;obtain⟨tb,nb,ib⟩:=b;simp only at hn hi ih;by_cases ht:ta=tb;·obtain⟨r1,e1,e2⟩:=y2a (b:=nb) (show na.length<1152921504606846976 by omega);cases r1 with
  |false=>
   have:na≠nb:=fun e=>by have:=e2.2 e;cases this
   refine⟨false,?_,by simp[this]⟩;apply qul;simp only[ht,q0u,cF,e1,bS,Bool.not_false,cT]|true=>
   have hnn:na=nb:=e2.1 rfl;by_cases hl:ia.length=ib.length
   .have l1:∀(n i:Nat),i+n=ia.length->∃r,z4e ((ia.length:Nat):Int) (i:Int) ta na ia tb nb ib=some r/\(r=true↔ia.drop i=ib.drop i):=by intro n;induction n with|zero=>intro i h;refine⟨true,?_,by simp[List.drop_eq_nil_of_le (show ia.length<=i by omega),List.drop_eq_nil_of_le (show ib.length<=i by omega)]⟩;apply y5r;rw[q00 (by omega)];rfl|succ n ihn=>
      intro i h;have h1:i<ia.length:=by omega
      have h2:i<ib.length:=by omega
      obtain⟨r,g1,g2⟩:=ihn (i+1) (by omega);obtain⟨q,g3,g4⟩:=ih ia[i] (List.getElem_mem h1) (ha.mem (List.getElem_mem h1)) ib[i];rw[qv1 h1 h2];have step:∀res,(bif(!q)then some false else z4e ((ia.length:Nat):Int) ((i+1:Nat):Int) ta na ia tb nb ib)=some res->z4e ((ia.length:Nat):Int) (i:Int) ta na ia tb nb ib=some res:=by intro res hres;apply y5r;rw[q03 (by omega),q0s (by omega) (show ia[((i:Nat):Int).toNat]?=some ia[i]by simp),q0s (by omega) (show ib[((i:Nat):Int).toNat]?=some ib[i]by simp),g3,q01 (by omega)];exact hres
      cases q with|true=>have he:=g4.1 rfl;exact⟨r,step r g1,by rw[g2];simp[he]⟩|false=>
       have he:ia[i]≠ib[i]:=fun e=>by have:=g4.2 e;cases this
       exact⟨false,step false rfl,by simp[he]⟩
    obtain⟨r,g1,g2⟩:=l1 ia.length 0 (by omega);refine⟨r,?_,by rw[g2];simp[ht,hnn]⟩;apply qul;subst ht;simp only[q0u,cF,e1,bS,nT,<-hl];exact g1
   .refine⟨false,?_,by simp;intro _ _ e;exact hl (by rw[e])⟩;apply qul;simp only[ht,q0u,cF,e1,bS,nT];rw[q2o (by omega)];rfl
 .refine⟨false,?_,by simp[ht]⟩;apply qul;simp only[q2o ht,cT]
variable {s : Nat}
theorem q9j{s:Nat}(hs:s<1024)(xs:LI)(hl:xs.length<1152921504606846976)(a11:Int)(a13:LI)(a15:LT):∀(suf:LI)(i c:Nat),xs.drop i=suf->c<=i->Le (z23 s ((c+cnt s suf:Nat):Int) a15 ((a15.length:Nat):Int) 0 a11 a13 a15) (z2a s (c:Int) xs ((xs.length:Nat):Int) (i:Int) a11 a13 a15)|[],i,c,h,hc=>fun r hr=>by apply y65;simp only[q0c h,cF];exact hr|y::suf,i,c,h,hc=>fun r hr=>by apply y65;have hlt:=q09 h;simp only[q05 h,cT,q04 h,q2k hs,bS,q01 (show i<4611686018427387904 by omega),q01 (show c<4611686018427387904 by omega)];cases hy:has s y with|true=>simp only[cT];refine q9j hs xs hl a11 a13 a15 suf (i+1) (c+1) (q02 h) (by omega) r ?_;rw[<-hr];congr 2;simp only[cnt,List.countP_cons,hy,if_true];omega|false=>simp only[cF];refine q9j hs xs hl a11 a13 a15 suf (i+1) c (q02 h) (by omega) r ?_;rw[<-hr];congr 2;simp only[cnt,List.countP_cons,hy];rfl
theorem qek(hs:s<1024):∀t:Trust,Small t->z3d t s=some (sat s t):=by
 apply Trust.ind;intro t ih ht;have hn:=ht.nodes;have hi:=ht.inner;have l2:∀(suf:LT)(i c:Nat),t.Inner.drop i=suf->c<=t.Nodes.length+i->z23 s (c:Int) t.Inner ((t.Inner.length:Nat):Int) (i:Int) t.Threshold t.Nodes t.Inner=some (decide (t.Threshold<=((c+sats s suf:Nat):Int))):=by intro suf;induction suf with|nil=>intro i c h hc;apply y5q;simp only[q0c h,cF,sats,Nat.add_zero];rfl|cons y suf ihs=>
   intro i c h hc;apply y5q;have hlt:=q09 h;have hy:y∈t.Inner:=by
    have:y∈t.Inner.drop i:=by rw[h];exact List.mem_cons_self
    exact List.mem_of_mem_drop this
   simp only[q05 h,cT,q04 h,ih y hy (ht.mem hy),bS,q01 (show i<4611686018427387904 by omega),q01 (show c<4611686018427387904 by omega)];cases hsy:sat s y with|true=>simp only[cT];rw[ihs (i+1) (c+1) (q02 h) (by omega)];simp only[sats,hsy,if_true];congr 3;omega|false=>simp only[cF];rw[ihs (i+1) c (q02 h) (by omega)];simp only[sats,hsy,fT,if_false,Nat.zero_add]
 apply yfu;simp only[q36 hs,bS,nT,cF];apply q9j hs t.Nodes (by omega) t.Threshold t.Nodes t.Inner t.Nodes 0 0 rfl (Nat.le_refl _);rw[show(0:Int)=((0:Nat):Int)from rfl,l2 t.Inner 0 _ rfl (by have:cnt s t.Nodes<=t.Nodes.length:=List.countP_le_length;omega)];rw[qzb,Nat.zero_add]
theorem y42:∀t:Trust,Small t->z6c t=some ((size t:Nat):Int):=by
 apply Trust.ind;intro t ih ht;have hn:=ht.nodes;have hi:=ht.inner;have hs:size t<1152921504606846976:=ht;have l1:∀(suf:LT)(i c:Nat),t.Inner.drop i=suf->c+sizes suf=size t->z46 (c:Int) t.Inner ((t.Inner.length:Nat):Int) (i:Int) t.Threshold t.Nodes t.Inner=some ((size t:Nat):Int):=by intro suf;induction suf with|nil=>intro i c h hc;apply y8d;simp only[q0c h,cF];simp only[sizes,Nat.add_zero]at hc;rw[hc]|cons y suf ihs=>intro i c h hc;apply y8d;have hlt:=q09 h;have hy:y∈t.Inner:=List.mem_of_mem_drop (by rw[h];exact List.mem_cons_self);simp only[sizes]at hc;simp only[q05 h,cT,q04 h,ih y hy (ht.mem hy),bS,q01 (show i<4611686018427387904 by omega)];rw[q20 (by omega) (by omega)];exact ihs (i+1) (c+size y) (q02 h) (by omega)
 apply yak;rw[q20 (by omega) (by omega)];have h1:=q1q t;exact l1 t.Inner 0 (t.Nodes.length+t.Inner.length) rfl (by omega)
theorem qzl:∀t:Trust,Small t->z5w t=some ((depth t:Nat):Int):=by
 apply Trust.ind;intro t ih ht;have hi:=ht.inner;have hd:=q5w t;have hs:size t<1152921504606846976:=ht;have l1:∀(suf:LT)(i c:Nat),t.Inner.drop i=suf->max c (q3g suf)=q3g t.Inner->z3q (c:Int) t.Inner ((t.Inner.length:Nat):Int) (i:Int) t.Threshold t.Nodes t.Inner=some ((depth t:Nat):Int):=by intro suf;induction suf with|nil=>intro i c h hc;apply y61;simp only[q0c h,cF];simp only[q3g,Nat.max_zero]at hc;rw[qeg]at hd⊢;rw[hc,q01 (by omega)]|cons y suf ihs=>
   intro i c h hc;apply y61;have hlt:=q09 h;have hy:y∈t.Inner:=List.mem_of_mem_drop (by rw[h];exact List.mem_cons_self);simp only[q3g]at hc;simp only[q05 h,cT,q04 h,ih y hy (ht.mem hy),bS,q01 (show i<4611686018427387904 by omega)];have:(if((depth y:Nat):Int)>(c:Int)then((depth y:Nat):Int)else(c:Int))=((max c (depth y):Nat):Int):=by split<;>omega
   rw[this];exact ihs (i+1) (max c (depth y)) (q02 h) (by omega)
 apply ydy;exact l1 t.Inner 0 0 rfl (by omega)
theorem qkl{s:Nat}(hs:s<1024):∀(n i:Nat)(acc:LI),i+n=10->acc.length<=i->z3u (s:Int) acc (i:Int)=some (acc++(q25 s n i).map Int.ofNat)|0,i,acc,h,ha=>by apply y7t;rw[q00 (by omega)];simp[q25]|n+1,i,acc,h,ha=>by apply y7t;rw[q03 (by omega)];simp only[cT,q2k hs,bS,qfr (show i<10 by omega),q01 (show i<4611686018427387904 by omega),q25];cases hb:s.testBit i with|true=>simp only[cT,if_true];rw[q07 (by simp[q0a];omega),qkl hs n (i+1) _ (by omega) (by simp;omega)];simp|false=>simp only[cF,fT,if_false];rw[qkl hs n (i+1) _ (by omega) (by omega)]
theorem qq1(hs:s<1024):z6m (s:Int)=some ((nodes s).map Int.ofNat):=by apply ybb;rw[show(0:Int)=((0:Nat):Int)from rfl,qkl hs 10 0 [] rfl (by simp)];rfl
theorem q78(l a8:LB)(hl:l.length<1152921504606846976):∀(suf:LB)(i s:Nat),l.drop i=suf->s<1024->z1s (s:Int) l ((l.length:Nat):Int) (i:Int) a8=some ((s|||q3c i suf:Nat):Int)
 |[],i,s,h,hs=>by apply y6s;simp only[q0c h,cF,q3c,Nat.or_zero]|m::suf,i,s,h,hs=>by
  have hlt:=q09 h;apply y6s;simp only[q05 h,cT,q04 h,q01 (show i<4611686018427387904 by omega),q3c];by_cases hi:i<10;·have hp:2^i<1024:=Nat.pow_lt_pow_right (a:=2) (by decide) hi;rw[q03 (by omega)];cases hd:m.Declared with|true=>simp only[cT];rw[q12 (by omega),shl1 (by omega) (by omega),tN,q7n (by omega) (by omega),q78 l a8 hl suf (i+1) _ (q02 h) (Nat.or_lt_two_pow (n:=10) hs hp)];simp only[decide_eq_true hi,Bool.and_self,if_true,Nat.or_assoc]|false=>simp only[cT,cF];rw[q78 l a8 hl suf (i+1) _ (q02 h) hs];simp
  .rw[q00 (by omega)];simp only[cF];rw[q78 l a8 hl suf (i+1) _ (q02 h) hs];simp[hi]
theorem qgo(c:Config)(h:c.Members.length<1152921504606846976):z38 c=some ((decl c:Nat):Int):=by apply yau;rw[show(0:Int)=((0:Nat):Int)from rfl,q78 c.Members c.Members h c.Members 0 0 rfl (by decide),Nat.zero_or];rfl
theorem y4q(k:Int):z74 k=some (inR k):=by
 apply yf6;unfold inR;by_cases h0:0<=k
 .by_cases h1:k<10;·simp[q0j h0,q03 h1,h0,h1]
  .simp[q0j h0,q00 (Int.not_lt.1 h1),h0,h1]
 .simp[q0e (Int.not_le.1 h0),h0]
variable {c : Config} {k s : Nat}
def q7g(c:Config):Prop:=c.Members.length<1152921504606846976/\∀m∈c.Members,Small m.Trust
theorem q1c{t:Trust}(h:valid t=true):Small t:=by simp only[valid,aT,dT]at h;unfold Small;omega
theorem qf4(h:(decl c).testBit k=true):∃m,c.Members[k]?=some m/\tr c k=m.Trust/\m.Declared=true:=by obtain⟨_,m,h1,h2⟩:=qoz.1 h;exact⟨m,h1,by simp[tr,h1],h2⟩
theorem q6g(h:s.testBit k=true)(i:Nat):(s-2^k).testBit i=(s.testBit i&&decide (i≠k)):=by
 have hp:=Nat.two_pow_pos k;have hodd:s/2^k%2=1:=by have:=h;rw[Nat.testBit_eq_decide_div_mod_eq,dT]at this;exact this
 have hr:s%2^k<2^k:=Nat.mod_lt _ hp;have e0:s=2^k*(2*(s/2^k/2)+1)+s%2^k:=by
  have e1:2*(s/2^k/2)+1=s/2^k:=by omega
  rw[e1];exact(Nat.div_add_mod s (2^k)).symm
 generalize s/2^k/2=q at e0;generalize s%2^k=r at e0 hr;have e2:s-2^k=2^k*(2*q)+r:=by rw[Nat.mul_add]at e0;omega
 rw[e2,e0,Nat.testBit_two_pow_mul_add _ hr,Nat.testBit_two_pow_mul_add _ hr];by_cases h1:i<k
 .have:i≠k:=by omega
  simp[h1,this]
 .rw[if_neg h1,if_neg h1];by_cases h2:i=k;·subst h2;simp[Nat.testBit_zero]
  .obtain⟨d,hd⟩:∃d,i-k=d+1:=⟨i-k-1,by omega⟩;rw[hd,Nat.testBit_succ,Nat.testBit_succ,show 2*q/2=q by omega,show(2*q+1)/2=q by omega];simp[h2]
def q6d(c:Config)(s:Nat):Option Nat:=(nodes s).find? fun k=>!sat s (tr c k)
def elim(c:Config):Nat->Nat->List Nat×Nat|0,s=>([],s)|n+1,s=>match q6d c s with|none=>([],s)|some k=>(k::(elim c n (s-2^k)).1,(elim c n (s-2^k)).2)
def q7a(c:Config)(s:Nat):Nat:=(elim c 1024 (s&&&decl c)).2
theorem q57(h:q6d c s=some k):s.testBit k=true/\k<10/\sat s (tr c k)=false:=by unfold q6d at h;have h1:=List.find?_some h;have h2:=qjc.1 (List.mem_of_find?_eq_some h);exact⟨h2.1,h2.2,by simpa using h1⟩
theorem qj8(h:s.testBit k=true):s-2^k<s/\Sub (s-2^k) s:=by have h1:2^k<=s:=Nat.ge_two_pow_of_testBit h;have:=Nat.two_pow_pos k;refine⟨by omega,fun i hi=>?_⟩;rw[q6g h]at hi;simp only[aT]at hi;exact hi.1
theorem qlo(c:Config):∀(n s:Nat),s<n->s<1024->Sub (elim c n s).2 s/\q6d c (elim c n s).2=none/\(∀q,Sub q s->(∀k,q.testBit k=true->sat q (tr c k)=true)->Sub q (elim c n s).2)|0,s,h,_=>by omega|n+1,s,h,hs=>by simp only[elim];cases hu:q6d c s with|none=>exact⟨Sub.refl s,hu,fun q hq _=>hq⟩|some k=>
   obtain⟨h1,h2,h3⟩:=q57 hu;obtain⟨h4,h5⟩:=qj8 h1;obtain⟨i1,i2,i3⟩:=qlo c n (s-2^k) (by omega) (by omega);refine⟨i1.trans h5,i2,fun q hq hsat=>i3 q (fun i hi=>?_) hsat⟩;rw[q6g h1,hq i hi];have:i≠k:=by rintro rfl;have:=y4h (ya2 hq) _ (hsat i hi);rw[h3]at this;cases this
   simp[this]
theorem qor(c:Config)(hs:s<1024):Sub (q7a c s) (s&&&decl c):=by have hlt:s&&&decl c<1024:=Nat.lt_of_le_of_lt Nat.and_le_left hs;exact(qlo c 1024 _ hlt hlt).1
theorem q9b(c:Config)(hs:s<1024):q7a c s<1024:=((qor c hs).trans (Sub.and_left _ _)).lt hs
theorem qvw{a b:Nat}(h:b<=a)(ha:a<4611686018427387904):subI .i64 (a:Int) ((b:Nat):Int)=((a-b:Nat):Int):=by rw[q22 (by omega) (by omega)];omega
theorem qoq{c:Config}{s:Nat}(hs:s<1024)(hd:Sub s (decl c))(hc:q7g c)(acc:LI)(l:List Nat)(hl:l.length<=10):∀(suf:List Nat)(i:Nat),l.drop i=suf->(∀k∈suf,s.testBit k=true)->acc.length<1024->∀res,(match suf.find? (fun k=>!sat s (tr c k))with|none=>z53 (s:Int) acc false (l.map Int.ofNat) ((l.length:Nat):Int) ((l.length:Nat):Int) false c.Members|some k=>z35 ((s-2^k:Nat):Int) (acc++[(k:Int)]) true c.Members)=some res->i<=l.length->z2r (s:Int) acc false (l.map Int.ofNat) ((l.length:Nat):Int) (i:Int) c.Members=some res
 |[],i,h,hm,ha,res,hres,hil=>by
  have:i=l.length:=by have:=List.drop_eq_nil_iff.1 h;omega
  subst this;apply y7w;rw[q0c h];exact hres|k::suf,i,h,hm,ha,res,hres,hil=>by
  have hlt:=q09 h;have hk:=hm k (by simp);have hk10:=ql2 hs hk;obtain⟨m,h1,h2,_⟩:=qf4 (hd k hk);have h':(l.map Int.ofNat).drop i=(k:Int)::suf.map Int.ofNat:=by rw[<-List.map_drop,h];rfl
  apply y7w;rw[q03 (by omega),q04 h',q0s (by omega) (show c.Members[((k:Nat):Int).toNat]?=some m by simpa using h1),qgp hs m.Trust (hc.2 m (List.mem_of_getElem? h1)),q01 (by omega)];simp only[cT,bS];rw[List.find?_cons]at hres;cases hq:sat s (tr c k)with|true=>rw[<-h2,hq];simp only[hq,nT]at hres;simp only[nT,cF];exact qoq hs hd hc acc l hl suf (i+1) (q02 h) (fun x hx=>hm x (by simp[hx])) ha res hres (by omega)|false=>rw[<-h2,hq];simp only[hq,Bool.not_false]at hres;simp only[Bool.not_false,cT];have hp:2^k<=s:=Nat.ge_two_pow_of_testBit hk;rw[q12 (by omega),q07 (by simp[q0a];omega),shl1 (by omega) (by omega),tN,qvw hp (by omega)];exact hres
theorem qvq(c:Config):∀n s,s<=n->(elim c n s).1.length<=s|0,s,_=>by simp[elim]|n+1,s,h=>by simp only[elim];cases hu:q6d c s with|none=>simp|some k=>have:=qj8 (q57 hu).1;have:=qvq c n (s-2^k) (by omega);simp only[List.length_cons];omega
theorem qv2{c:Config}(hc:q7g c):∀(n s:Nat)(acc:LI),s<n->s<1024->Sub s (decl c)->acc.length+s<1024->z35 (s:Int) acc true c.Members=some (acc++(elim c n s).1.map Int.ofNat)|0,s,acc,h,_,_,_=>by omega|n+1,s,acc,h,hs,hd,ha=>by apply yed;simp only[cT,qv5 hs,bS,List.length_map];refine qoq hs hd hc acc (nodes s) (qim s) (nodes s) 0 rfl (fun k hk=>(qjc.1 hk).1) (by omega) _ ?_ (Nat.zero_le _);simp only[elim];rw[show(nodes s).find? (fun k=>!sat s (tr c k))=q6d c s from rfl];cases hu:q6d c s with|none=>simp only;apply yal;simp|some k=>obtain⟨h1,h2,h3⟩:=q57 hu;obtain⟨h4,h5⟩:=qj8 h1;simp only;rw[qv2 hc n (s-2^k) _ (by omega) (by omega) (h5.trans hd) (by simp;omega)];simp
theorem qjd(c:Config)(ms:LB)(l:List Nat)(hl:l.length<2000):∀(n s i:Nat),s<n->s<1024->l.drop i=(elim c n s).1->z58 (s:Int) (l.map Int.ofNat) ((l.length:Nat):Int) (i:Int) ms=some (((elim c n s).2:Nat):Int)|0,s,i,h,_,_=>by omega|n+1,s,i,h,hs,hdrop=>by simp only[elim]at hdrop⊢;apply yf3;cases hu:q6d c s with|none=>rw[hu]at hdrop;simp only at hdrop⊢;rw[q0c hdrop];rfl|some k=>
   rw[hu]at hdrop;simp only at hdrop⊢;obtain⟨h1,h2,h3⟩:=q57 hu;obtain⟨h4,h5⟩:=qj8 h1;have hlt:=q09 hdrop;have h':(l.map Int.ofNat).drop i=(k:Int)::((elim c n (s-2^k)).1).map Int.ofNat:=by rw[<-List.map_drop,hdrop];rfl
   have hp:2^k<=s:=Nat.ge_two_pow_of_testBit h1;rw[q03 (by omega),q04 h',q12 (by omega),shl1 (by omega) (by omega),tN,qvw hp (by omega),q01 (by omega)];exact qjd c ms l hl n (s-2^k) (i+1) (by omega) (by omega) (q02 hdrop)
theorem qja(hs:s<1024)(hc:q7g c):z6e c (s:Int)=some ((q7a c s:Nat):Int):=by
 have hlt:s&&&decl c<1024:=Nat.lt_of_le_of_lt Nat.and_le_left hs;have he:z69 c (s:Int)=some ((elim c 1024 (s&&&decl c)).1.map Int.ofNat):=by apply yf1;rw[q2n hs];simp only[bS,nT,cF,qcs c hc.1];rw[qej (by omega) (by have:=qcm c;omega),qv2 hc 1024 _ [] hlt hlt (Sub.and_right _ _) (by simpa using hlt)];rfl
 apply yf2;rw[q2n hs];simp only[bS,nT,cF,qcs c hc.1,he,List.length_map];rw[qej (by omega) (by have:=qcm c;omega)];have hlen:=qvq c 1024 (s&&&decl c) (by omega);exact qjd c c.Members _ (by omega) 1024 _ 0 hlt hlt rfl
def ofE(s:Nat):LI->Int|[]=>0|k::r=>if inR k=true then(if has s k=true then 6 else ofE (s|||bit k) r)else 5
theorem qpi:∀(l:LI)(s:Nat),ofE s l=0↔fresh s l=true|[],s=>by simp[ofE,fresh]|k::r,s=>by have:=qpi r (s|||bit k);by_cases h1:inR k=true<;>by_cases h2:has s k=true<;>simp[ofE,fresh,h1,h2,this]
theorem qtp{y:Int}(h:¬inR y=true):¬(0<=y/\y<10):=by simpa[inR]using h
theorem qz2(xs:LI)(hl:xs.length<1152921504606846976):∀(suf:LI)(i s:Nat),xs.drop i=suf->s<1024->∃v,z30 (s:Int) xs ((xs.length:Nat):Int) (i:Int)=some (v,ofE s suf)
 |[],i,s,h,hs=>⟨s,by apply qhc;simp only[q0c h,cF,ofE]⟩|y::suf,i,s,h,hs=>by
  have hlt:=q09 h;by_cases hy:inR y=true;·have hy':=hy;simp only[inR,aT,dT]at hy';cases hh:has s y with|true=>refine⟨0,?_⟩;apply qhc;simp only[q05 h,cT,q04 h,q00 hy'.1,q0e hy'.2,cF,q21 hs,hh,bS,ofE,hy,if_true]|false=>have hb:=q9l hy;obtain⟨v,h1⟩:=qz2 xs hl suf (i+1) (s|||bit y) (q02 h) (Nat.or_lt_two_pow (n:=10) hs hb);refine⟨v,?_⟩;apply qhc;simp only[q05 h,cT,q04 h,q00 hy'.1,q0e hy'.2,cF,q21 hs,hh,bS,q12 hy'.1,qnf hy,q7n (show s<2^62 by omega) (show bit y<2^62 by omega),q01 (show i<4611686018427387904 by omega),ofE,hy,if_true];exact h1
  .have hn:=qtp hy;refine⟨0,?_⟩;apply qhc;simp only[q05 h,cT,q04 h,ofE,hy];by_cases h0:y<0;·simp only[q03 h0,cT];rfl
   .simp only[q00 (Int.not_lt.1 h0),cF,q0j (show 10<=y by omega),cT];rfl
theorem y97(xs:LI)(hl:xs.length<1152921504606846976):∃v,z82 xs=some (v,ofE 0 xs):=by obtain⟨v,h1⟩:=qz2 xs hl xs 0 0 rfl (by decide);exact⟨v,y63 _ _ h1⟩
theorem y2d(xs:LI)(hl:xs.length<1152921504606846976):∀(suf:LI)(i s:Nat),xs.drop i=suf->s<1024->∃v,z4d (s:Int) xs ((xs.length:Nat):Int) (i:Int)=some (v,ofE s suf)
 |[],i,s,h,hs=>⟨s,by apply qwd;simp only[q0c h,cF,ofE]⟩|y::suf,i,s,h,hs=>by
  have hlt:=q09 h;by_cases hy:inR y=true;·have hy':=hy;simp only[inR,aT,dT]at hy';cases hh:has s y with|true=>refine⟨0,?_⟩;apply qwd;simp only[q05 h,cT,q04 h,q00 hy'.1,q0e hy'.2,cF,q2k hs,hh,bS,ofE,hy,if_true]|false=>have hb:=q9l hy;obtain⟨v,h1⟩:=y2d xs hl suf (i+1) (s|||bit y) (q02 h) (Nat.or_lt_two_pow (n:=10) hs hb);refine⟨v,?_⟩;apply qwd;simp only[q05 h,cT,q04 h,q00 hy'.1,q0e hy'.2,cF,q2k hs,hh,bS,q12 hy'.1,qnf hy,q7n (show s<2^62 by omega) (show bit y<2^62 by omega),q01 (show i<4611686018427387904 by omega),ofE,hy,if_true];exact h1
  .have hn:=qtp hy;refine⟨0,?_⟩;apply qwd;simp only[q05 h,cT,q04 h,ofE,hy];by_cases h0:y<0;·simp only[q03 h0,cT];rfl
   .simp only[q00 (Int.not_lt.1 h0),cF,q0j (show 10<=y by omega),cT];rfl
theorem y94(xs:LI)(hl:xs.length<1152921504606846976):∃v,z84 xs=some (v,ofE 0 xs):=by obtain⟨v,h1⟩:=y2d xs hl xs 0 0 rfl (by decide);exact⟨v,yay _ _ h1⟩
mutual
def lev : Trust -> Int
 | ⟨thr, nodes, inner⟩ => if 1 <= thr /\ thr <= ((nodes.length + inner.length : Nat) : Int) then (if nodes.all inR = true then (if ofE 0 nodes = 0 then levs inner else ofE 0 nodes) else 5) else 4
def levs : LT -> Int
 | [] => 0
 | x :: r => if lev x = 0 then levs r else lev x
end
theorem y39(t:Trust):lev t=if 1<=t.Threshold/\t.Threshold<=((t.Nodes.length+t.Inner.length:Nat):Int)then(if t.Nodes.all inR=true then(if ofE 0 t.Nodes=0 then levs t.Inner else ofE 0 t.Nodes)else 5)else 4:=by cases t;simp only[lev]
theorem y52:∀t:Trust,lev t=0↔good t=true:=by
 apply Trust.ind;intro t ih;have hi:∀l:LT,(∀x∈l,(lev x=0↔good x=true))->(levs l=0↔goods l=true):=by intro l;induction l with|nil=>intro _;simp[levs,goods]|cons y r ihr=>
   intro h;have h1:=h y (by simp);have h2:=ihr fun x hx=>h x (by simp[hx]);by_cases hy:lev y=0;·simp[levs,goods,hy,h1.1 hy,h2]
   .have:good y=false:=by cases hg:good y with|true=>exact absurd (h1.2 hg) hy|false=>rfl
    simp[levs,goods,hy,this]
 have hin:=hi t.Inner ih;have hf:=qpi t.Nodes 0;rw[y39,qkc];by_cases h1:1<=t.Threshold<;>by_cases h2:t.Threshold<=((t.Nodes.length+t.Inner.length:Nat):Int)
 .rw[if_pos ⟨h1,h2⟩,decide_eq_true h1,decide_eq_true h2];by_cases h3:t.Nodes.all inR=true
  .rw[if_pos h3,h3];by_cases h4:ofE 0 t.Nodes=0;·rw[if_pos h4,hf.1 h4,hin];simp
   .rw[if_neg h4];have:fresh 0 t.Nodes=false:=by cases hg:fresh 0 t.Nodes with|true=>exact absurd (hf.2 hg) h4|false=>rfl
    simp[this,h4]
  .rw[if_neg h3];have h3':t.Nodes.all inR=false:=by simpa using h3
   simp[h3']
 .rw[if_neg (fun h=>h2 h.2),decide_eq_false h2];simp
 .rw[if_neg (fun h=>h1 h.1),decide_eq_false h1];simp
 .rw[if_neg (fun h=>h1 h.1),decide_eq_false h1];simp
theorem y2n(xs:LI)(hl:xs.length<1152921504606846976)(thr:Int)(inner:LT)(e:Int)(he:z2d inner ((inner.length:Nat):Int) 0 thr xs inner=some e):∀(suf:LI)(i:Nat),xs.drop i=suf->z2c xs ((xs.length:Nat):Int) (i:Int) thr xs inner=some (if suf.all inR=true then(if ofE 0 xs=0 then e else ofE 0 xs)else 5)
 |[],i,h=>by
  obtain⟨v,h1⟩:=y97 xs hl;apply qkw;simp only[q0c h,cF,h1,bS,List.all_nil,if_true];by_cases h0:ofE 0 xs=0;·rw[if_pos h0,h0,q0u];exact he
  .rw[if_neg h0,q2o h0];rfl|y::suf,i,h=>by
  have hlt:=q09 h;by_cases hy:inR y=true;·have hy':=hy;simp only[inR,aT,dT]at hy';have h1:=y2n xs hl thr inner e he suf (i+1) (q02 h);apply qkw;simp only[q05 h,cT,q04 h,q00 hy'.1,q0e hy'.2,cF,q01 (show i<4611686018427387904 by omega),h1,List.all_cons,hy,tA']
  .have hn:=qtp hy;apply qkw;have hy2:inR y=false:=by simpa using hy
   simp only[q05 h,cT,q04 h,List.all_cons,hy2,Bool.false_and];by_cases h0:y<0;·simp only[q03 h0,cT];rfl
   .simp only[q00 (Int.not_lt.1 h0),cF,q0j (show 10<=y by omega),cT];rfl
theorem y8m:∀t:Trust,Small t->z4q t=some (lev t):=by
 apply Trust.ind;intro t ih ht;have hn:=ht.nodes;have hi:=ht.inner;have hs:size t<1152921504606846976:=ht;rw[q1q]at hs;have l2:∀(suf:LT)(i:Nat),t.Inner.drop i=suf->z2d t.Inner ((t.Inner.length:Nat):Int) (i:Int) t.Threshold t.Nodes t.Inner=some (levs suf):=by intro suf;induction suf with|nil=>intro i h;apply qp7;simp only[q0c h,cF,levs]|cons y suf ihs=>
   intro i h;have hlt:=q09 h;have hy:y∈t.Inner:=List.mem_of_mem_drop (by rw[h];exact List.mem_cons_self);have h1:=ih y hy (ht.mem hy);apply qp7;simp only[q05 h,cT,q04 h,h1,bS,levs];by_cases he:lev y=0;·rw[if_pos he,he,q0u,q01 (show i<4611686018427387904 by omega),ihs (i+1) (q02 h)];rfl
   .rw[if_neg he,q2o he];rfl
 rw[y39];apply qwb;by_cases h1:1<=t.Threshold
 .by_cases h2:t.Threshold<=((t.Nodes.length+t.Inner.length:Nat):Int);·rw[if_pos ⟨h1,h2⟩,q00 h1,q20 (by omega) (by omega),q00 (by omega)];simp only[cF];exact y2n t.Nodes (by omega) t.Threshold t.Inner _ (l2 t.Inner 0 rfl) t.Nodes 0 rfl
  .rw[if_neg (fun h=>h2 h.2),q00 h1,q20 (by omega) (by omega),q03 (by omega)];simp only[cF,cT]
 .rw[if_neg (fun h=>h1 h.1),q03 (by omega)];simp only[cT]
theorem qvy(xs:LI)(hl:xs.length<1152921504606846976):∀(suf:LI)(i:Nat),xs.drop i=suf->∃k:Int,z0q xs ((xs.length:Nat):Int) (i:Int)=some k/\leB 0 k=!(suf.all inR)
 |[],i,h=>by refine⟨-1,?_,rfl⟩;apply y1q;rw[q0c h];rfl|y::suf,i,h=>by
  have hlt:=q09 h;have h1:z68 y=some (!inR y):=by apply yey;rw[y4q];rfl
  cases hy:inR y with|true=>obtain⟨k,g1,g2⟩:=qvy xs hl suf (i+1) (q02 h);refine⟨k,?_,by simpa[hy]using g2⟩;apply y1q;simp only[q05 h,cT,q04 h,h1,bS,hy,nT,cF,q01 (show i<4611686018427387904 by omega)];exact g1|false=>refine⟨i,?_,by rw[q0j (by omega)];simp[hy]⟩;apply y1q;simp only[q05 h,cT,q04 h,h1,bS,hy,Bool.not_false]
theorem qnt(xs:LI)(hl:xs.length<1152921504606846976):z1i xs=some (!(xs.all inR)):=by obtain⟨k,g1,g2⟩:=qvy xs hl xs 0 rfl;apply ybt;rw[yen _ _ g1];simp only[bS,g2]
theorem y8y:∀t:Trust,Small t->z5x t=some (lev t):=by
 apply Trust.ind;intro t ih ht;have hn:=ht.nodes;have hi:=ht.inner;have hs:size t<1152921504606846976:=ht;rw[q1q]at hs;have l2:∀(suf:LT)(i:Nat),t.Inner.drop i=suf->z3r t.Inner ((t.Inner.length:Nat):Int) (i:Int) t.Threshold t.Nodes t.Inner=some (levs suf):=by intro suf;induction suf with|nil=>intro i h;apply y66;simp only[q0c h,cF,levs]|cons y suf ihs=>
   intro i h;have hlt:=q09 h;have hy:y∈t.Inner:=List.mem_of_mem_drop (by rw[h];exact List.mem_cons_self);have h1:=ih y hy (ht.mem hy);apply y66;simp only[q05 h,cT,q04 h,h1,bS,levs];by_cases he:lev y=0;·rw[if_pos he,he,q0u,q01 (show i<4611686018427387904 by omega),ihs (i+1) (q02 h)];rfl
   .rw[if_neg he,q2o he];rfl
 rw[y39];apply ybi;by_cases h1:1<=t.Threshold
 .by_cases h2:t.Threshold<=((t.Nodes.length+t.Inner.length:Nat):Int);·rw[if_pos ⟨h1,h2⟩,q00 h1,q20 (by omega) (by omega),q00 (by omega),qnt t.Nodes hn];simp only[cF,bS];cases ha:t.Nodes.all inR with|false=>rfl|true=>
    obtain⟨v,h3⟩:=y94 t.Nodes hn;rw[h3];simp only[nT,cF,bS,if_true];by_cases h0:ofE 0 t.Nodes=0;·rw[if_pos h0,h0,q0u];exact l2 t.Inner 0 rfl
    .rw[if_neg h0,q2o h0];rfl
  .rw[if_neg (fun h=>h2 h.2),q00 h1,q20 (by omega) (by omega),q03 (by omega)];simp only[cF,cT]
 .rw[if_neg (fun h=>h1 h.1),q03 (by omega)];simp only[cT]
def verr(t:Trust):Int:=if depth t<=4/\size t<=200 then lev t else 3
theorem q2d(t:Trust):verr t=0↔valid t=true:=by unfold verr valid;have:=y52 t;by_cases h1:depth t<=4<;>by_cases h2:size t<=200<;>simp[h1,h2,this]
theorem q8x(t:Trust)(ht:Small t):z2l t=some (verr t):=by
 have hs:size t<1152921504606846976:=ht;have hd:=q5w t;apply qv0;unfold verr;rw[qih t ht];simp only[bS];by_cases h1:depth t<=4
 .rw[q00 (by omega),qtw t ht];simp only[cF,bS];by_cases h2:size t<=200;·rw[q00 (by omega),y8m t ht,if_pos ⟨h1,h2⟩];rfl
  .rw[q03 (by omega),if_neg (fun h=>h2 h.2)];rfl
 .rw[q03 (by omega),if_neg (fun h=>h1 h.1)];rfl
theorem q9g(t:Trust)(ht:Small t):z2n t=some (verr t):=by
 have hs:size t<1152921504606846976:=ht;have hd:=q5w t;apply yft;unfold verr;rw[qzl t ht];simp only[bS];by_cases h1:depth t<=4
 .rw[q00 (by omega),y42 t ht];simp only[cF,bS];by_cases h2:size t<=200;·rw[q00 (by omega),y8y t ht,if_pos ⟨h1,h2⟩];rfl
  .rw[q03 (by omega),if_neg (fun h=>h2 h.2)];rfl
 .rw[q03 (by omega),if_neg (fun h=>h1 h.1)];rfl
variable {a b i k s : Nat} {c : Config}
theorem or_lt(ha:a<1024)(hb:b<1024):a|||b<1024:=Nat.or_lt_two_pow (n:=10) ha hb
theorem qev(ha:a<1024):ndiff a b<1024:=qws (n:=10) ha
theorem y9c(ha:a<1024):a&&&b<1024:=Nat.lt_of_le_of_lt Nat.and_le_left ha
theorem qkj(h:k<10):2^k<1024:=Nat.pow_lt_pow_right (a:=2) (by decide) h
theorem qta:(1023:Nat).testBit i=decide (i<10):=by rw[show(1023:Nat)=2^10-1 from rfl,Nat.testBit_two_pow_sub_one]
theorem y9k(hs:s<1024):1023-s=ndiff 1023 s:=by apply Nat.eq_of_testBit_eq;intro i;rw[show 1023-s=2^10-(s+1)from by omega,Nat.testBit_two_pow_sub_succ (by omega),q5y,qta]
theorem qjv:(2^k).testBit i=decide (k=i):=Nat.testBit_two_pow ..
theorem qzg{k:Int}(h:has s k=true):∃n:Nat,k=(n:Int)/\n<10/\s.testBit n=true:=by simp only[has,aT,dT]at h;exact⟨k.toNat,by omega,by omega,h.2.2⟩
def blk(c:Config)(v s:Nat):Bool:=(decl c).testBit v&&!sat (ndiff 1023 s|||2^v) (tr c v)
theorem qz4(hc:q7g c)(hs:s<1024)(v:Int):z60 c v s=some (decide (0<=v)&&blk c v.toNat s):=by
 apply yd4;rw[q36 hs];simp only[bS,nT,cF];rw[qgo c hc.1];simp only[bS];rw[q2k (qcm c)];simp only[bS];by_cases hh:has (decl c) v=true;·obtain⟨n,rfl,hn,hb⟩:=qzg hh;obtain⟨m,h1,h2,_⟩:=qf4 hb;have h3:ndiff 1023 s|||2^n<1024:=or_lt (qev (by decide)) (qkj hn);have hp:=qkj hn;rw[hh,q12 (by omega),q0s (by omega) (by simpa using h1),shl1 (by omega) (by omega)];simp only[nT,cF,tN];have e1:qk5 .i64 1023 (s:Int)=((ndiff 1023 s:Nat):Int):=ql5 (a:=1023) (by decide) (by omega);rw[e1,q7n (by have:=qev (a:=1023) (b:=s) (by decide);omega) (by omega),qek h3 m.Trust (hc.2 m (List.mem_of_getElem? h1))];simp[blk,hb,h2]
 .have hf:has (decl c) v=false:=by simpa using hh
  rw[hf];simp only[Bool.not_false,cT];symm;congr 1;by_cases h0:0<=v
  .have:(decl c).testBit v.toNat=false:=by
    by_cases h1:v<10;·simpa[has,h0,h1]using hf
    .cases hb:(decl c).testBit v.toNat with|false=>rfl|true=>have:=ql2 (qcm c) hb;omega
   simp[blk,this]
  .simp[h0]
theorem qx0(hc:q7g c)(hs:s<1024)(v:Int):z76 c v s=some (decide (0<=v)&&blk c v.toNat s):=by
 apply ybx;rw[q2n hs];simp only[bS,nT,cF];rw[qcs c hc.1];simp only[bS];rw[q21 (qcm c)];simp only[bS];by_cases hh:has (decl c) v=true
 .obtain⟨n,rfl,hn,hb⟩:=qzg hh;obtain⟨m,h1,h2,_⟩:=qf4 hb;have h3:ndiff 1023 s|||2^n<1024:=or_lt (qev (by decide)) (qkj hn);have hp:=qkj hn;rw[hh,q12 (by omega),q0s (by omega) (by simpa using h1),shl1 (by omega) (by omega)];simp only[nT,cF,tN];have e1:subI .i64 1023 (s:Int)=((ndiff 1023 s:Nat):Int):=by rw[q22 (by omega) (by omega),<-y9k hs];omega
  rw[e1,q7n (by have:=qev (a:=1023) (b:=s) (by decide);omega) (by omega),qgp h3 m.Trust (hc.2 m (List.mem_of_getElem? h1))];simp[blk,hb,h2]
 .have hf:has (decl c) v=false:=by simpa using hh
  rw[hf];simp only[Bool.not_false,cT];symm;congr 1;by_cases h0:0<=v
  .have:(decl c).testBit v.toNat=false:=by
    by_cases h1:v<10;·simpa[has,h0,h1]using hf
    .cases hb:(decl c).testBit v.toNat with|false=>rfl|true=>have:=ql2 (qcm c) hb;omega
   simp[blk,this]
  .simp[h0]
theorem qxh(hc:q7g c)(hs:s<1024)(v:Nat):z60 c (v:Int) s=some (blk c v s):=by rw[qz4 hc hs];simp
theorem qsn(hc:q7g c)(hs:s<1024)(v:Nat):z76 c (v:Int) s=some (blk c v s):=by rw[qx0 hc hs];simp
end Go.Proofs.YtglokalgdbegeaaGreat
namespace Go.Proofs.YtglokalgdbegeaaGreat
open Go Go.Ab Go.Sort
variable {i j : Nat}
section
variable {α β : Type} [Inhabited α]
theorem nthA{d:Array α}(h:i<d.size)(k:α->Option β):nth d.toList (i:Int) k=k d[i]!:=by rw[q0s (by omega) (show d.toList[((i:Nat):Int).toNat]?=some d[i]! by simp[h])]
theorem nthNA{d:Array α}(h:i<d.size)(k:α->Option β):nthN d.toList i k=k d[i]!:=q44 (by simp[h]) k
theorem q1i(d:Array α)(i j:Nat):List.set (List.set d.toList i d[j]!) j d[i]! =(swp d i j).toList:=by simp[swp]
theorem q0t(d:Array α)(i j:Nat):(swp d i j).size=d.size:=by simp[swp]
end
theorem nthS{α β:Type}{d:Array α}(x:α)(h:j<d.size)(k:Option β):(nth (List.set d.toList i x) (j:Int) fun _=>k)=k:=by
 have hl:j<(List.set d.toList i x).length:=by simpa using h
 rw[q0s (by omega) (show(List.set d.toList i x)[((j:Nat):Int).toNat]?=some (List.set d.toList i x)[j]by simp[h])]
theorem nthNS{α β:Type}{d:Array α}(x:α)(h:j<d.size)(k:Option β):(nthN (List.set d.toList i x) j fun _=>k)=k:=by
 have hl:j<(List.set d.toList i x).length:=by simpa using h
 rw[q44 (List.getElem?_eq_getElem hl)]
theorem qhk(h:j<4611686018427387904):subI .i64 ((j+1:Nat):Int) 1=(j:Int):=by rw[q22 (by omega) (by omega)];omega
theorem q8u{lt:LU->LU->Bool}(a:Nat):∀(j:Nat)(d:Array (LU)),(insInner lt a j d).size=d.size
 |0,d=>rfl|j+1,d=>by
  rw[insInner];split;·rw[q8u a j,q0t]
  .rfl
section
variable {cmp : LU -> LU -> Int} (hc : ∀ x y, z06 x y = some (cmp x y))
include hc
theorem y7c(a b i:Nat)(hi:i<4611686018427387904):∀(j:Nat)(d:Array (LU)),j<d.size->d.size<4611686018427387904->Le (z0f (a:Int) (b:Int) ((i+1:Nat):Int) (insInner (fun x y=>ltB (cmp x y) 0) a j d).toList) (z0j (a:Int) (b:Int) (i:Int) (j:Int) d.toList)
 |0,d,hj,hd=>fun r hr=>by apply y8b;rw[q00 (by omega),q01 hi];simpa[insInner]using hr|j+1,d,hj,hd=>fun r hr=>by
  apply y8b;by_cases ha:a<j+1;·have h1:ltB (a:Int) ((j+1:Nat):Int)=true:=q03 (by omega);simp only[h1,cT,qhk (show j<4611686018427387904 by omega),tN,nthA hj,nthA (show j<d.size by omega),nthNA hj,nthNA (show j<d.size by omega),hc,bS];rw[insInner]at hr;cases hlt:ltB (cmp d[j+1]! d[j]!) 0 with|true=>simp only[cT,nthS _ (show j<d.size by omega),nthNS _ (show j<d.size by omega),q1i];refine y7c a b i hi j (swp d (j+1) j) (by rw[q0t];omega) (by rw[q0t];exact hd) r ?_;simpa[ha,hlt]using hr|false=>simp only[cF,q01 hi];simpa[ha,hlt]using hr
  .rw[q00 (by omega),q01 hi];simpa[insInner,ha]using hr
theorem y7p(a b:Nat)(hb:b<4611686018427387904):∀(n i:Nat)(d:Array (LU)),b<=i+n->b<=d.size->d.size<4611686018427387904->z0f (a:Int) (b:Int) (i:Int) d.toList=some (insOuter (fun x y=>ltB (cmp x y) 0) a b i d).toList
 |n,i,d,hn,hbd,hd=>by
  apply yc6;rw[insOuter];by_cases h:i<b;·obtain⟨n,rfl⟩:∃m,n=m+1:=⟨n-1,by omega⟩;rw[q03 (by omega),if_pos h];simp only[cT];refine y7c hc a b i (by omega) i d (by omega) hd _ ?_;exact y7p a b hb n (i+1) _ (by omega) (by rw[q8u];exact hbd) (by rw[q8u];exact hd)
  .rw[q00 (by omega),if_neg h];rfl
theorem yff(a b:Nat)(d:Array (LU))(hab:a<=b)(hbd:b<=d.size)(hd:d.size<4611686018427387904):z1a (a:Int) (b:Int) d.toList=some (insertionSort (fun x y=>ltB (cmp x y) 0) d a b).toList:=by apply ybr;rw[q01 (by omega)];exact y7p hc a b (by omega) b (a+1) d (by omega) hbd hd
end
variable {x y : Nat}
theorem addN(h:x+y<4611686018427387904):addI .i64 (x:Int) (y:Int)=((x+y:Nat):Int):=by rw[q20 (by omega) (by omega)];omega
theorem mul2N(h:x<1152921504606846976):mulI .i64 2 (x:Int)=((2*x:Nat):Int):=by show IntKind.wrap .i64 (2*(x:Int))=_;rw[wrap64 (by omega) (by omega)];omega
theorem subN(h:y<=x)(hx:x<4611686018427387904):subI .i64 (x:Int) (y:Int)=((x-y:Nat):Int):=by rw[q22 (by omega) (by omega)];omega
theorem q8d{lt:LU->LU->Bool}:∀(n hi first root:Nat)(d:Array (LU)),hi-root<=n->(siftDown lt hi first root d).size=d.size
 |n,hi,first,root,d,hn=>by
  rw[siftDown];split;·rfl
  .obtain⟨n,rfl⟩:∃m,n=m+1:=⟨n-1,by omega⟩;split
   .split;·rfl
    .split;·rw[q8d n _ _ _ _ (by omega),q0t]
     .rfl
   .split;·rfl
    .rw[q8d n _ _ _ _ (by omega),q0t]
section
variable {cmp : LU -> LU -> Int} (hc : ∀ x y, z06 x y = some (cmp x y))
include hc
theorem qto(hi first:Nat):∀(n root:Nat)(d:Array (LU)),hi-root<=n->root<=hi->first+hi<=d.size->d.size<1152921504606846976->z0e (hi:Int) (first:Int) (root:Int) d.toList=some (siftDown (fun x y=>ltB (cmp x y) 0) hi first root d).toList
 |n,root,d,hn,hr,hs,hd=>by
  have e1:=mul2N (x:=root) (by omega);have e2:addI .i64 ((2*root:Nat):Int) 1=((2*root+1:Nat):Int):=q01 (by omega);have e3:addI .i64 ((2*root+1:Nat):Int) 1=((2*root+2:Nat):Int):=q01 (by omega);have e4:=addN (x:=first) (y:=root) (by omega);apply yd8;rw[siftDown];by_cases h1:2*root+1≥hi;·simp only[e1,e2,q0j (show(hi:Int)<=((2*root+1:Nat):Int)by omega),cT,dif_pos h1]
  .obtain⟨n,rfl⟩:∃m,n=m+1:=⟨n-1,by omega⟩;have e5:=addN (x:=first) (y:=2*root+1) (by omega);have b1:first+root<d.size:=by omega
   have b2:first+(2*root+1)<d.size:=by omega
   have low:∀res,(bif(!(ltB (cmp d[first+root]! d[first+(2*root+1)]!) 0))then some d.toList else z0e (hi:Int) (first:Int) ((2*root+1:Nat):Int) (swp d (first+root) (first+(2*root+1))).toList)=res->(if !(fun x y=>ltB (cmp x y) 0) d[first+root]! d[first+(2*root+1)]! then d else siftDown (fun x y=>ltB (cmp x y) 0) hi first (2*root+1) (swp d (first+root) (first+(2*root+1)))).toList=(res.getD [])/\res≠none:=by intro res hres;cases hlt:ltB (cmp d[first+root]! d[first+(2*root+1)]!) 0 with|true=>have ih:=qto hi first n (2*root+1) (swp d (first+root) (first+(2*root+1))) (by omega) (by omega) (by rw[q0t];exact hs) (by rw[q0t];exact hd);rw[hlt]at hres;simp only[nT,cF,ih]at hres;subst hres;simp[hlt]|false=>rw[hlt]at hres;simp only[Bool.not_false,cT]at hres;subst hres;simp[hlt]
   have fin:∀{x:Option (List (LU))}{l:List (LU)},l=x.getD []/\x≠none->x=some l:=by rintro x l⟨rfl,h⟩;cases x with|none=>exact absurd rfl h|some y=>rfl
   simp only[e1,e2,q0e (show((2*root+1:Nat):Int)<(hi:Int)by omega),cF,dif_neg h1,e3,e4,e5,tN];by_cases h2:2*root+2<hi
   .have e6:addI .i64 ((first+(2*root+1):Nat):Int) 1=((first+(2*root+1)+1:Nat):Int):=q01 (by omega);have e7:=addN (x:=first) (y:=2*root+2) (by omega);have b3:first+(2*root+1)+1<d.size:=by omega
    have b4:first+(2*root+2)<d.size:=by omega
    simp only[q03 (show((2*root+2:Nat):Int)<(hi:Int)by omega),cT,e6,e7,tN,nthA b1,nthA b2,nthA b3,nthA b4,nthNA b1,nthNA b2,nthNA b3,nthNA b4,hc,bS,nthS _ b2,nthNS _ b2,nthS _ b4,nthNS _ b4,q1i];cases h3:ltB (cmp d[first+(2*root+1)]! d[first+(2*root+1)+1]!) 0 with
    |true=>
     have hcond:(decide (2*root+1+1<hi)&&true)=true:=by simp;omega
     simp only[cT];rw[if_pos hcond];cases h4:ltB (cmp d[first+root]! d[first+(2*root+2)]!) 0 with|true=>simp only[nT,cF,fT,if_false,dif_pos h2];exact qto hi first n (2*root+2) (swp d (first+root) (first+(2*root+2))) (by omega) (by omega) (by rw[q0t];exact hs) (by rw[q0t];exact hd)|false=>simp only[Bool.not_false,cT,if_true]
    |false=>
     have hcond:¬(decide (2*root+1+1<hi)&&false)=true:=by simp
     simp only[cF];rw[if_neg hcond];exact fin (low _ rfl)
   .have hcond:¬(decide (2*root+1+1<hi)&&ltB (cmp d[first+(2*root+1)]! d[first+(2*root+1)+1]!) 0)=true:=by simp;omega
    simp only[q00 (show(hi:Int)<=((2*root+2:Nat):Int)by omega),cF,nthA b1,nthA b2,nthNA b1,nthNA b2,hc,bS,nthS _ b2,nthNS _ b2,q1i];rw[if_neg hcond];exact fin (low _ rfl)
theorem qzw(lo hi first:Nat)(d:Array (LU))(hl:lo<=hi)(hs:first+hi<=d.size)(hd:d.size<1152921504606846976):z18 (lo:Int) (hi:Int) (first:Int) d.toList=some (siftDown (fun x y=>ltB (cmp x y) 0) hi first lo d).toList:=by apply ycg;exact qto hc hi first hi lo d (by omega) hl hs hd
end
end Go.Proofs.YtglokalgdbegeaaGreat
