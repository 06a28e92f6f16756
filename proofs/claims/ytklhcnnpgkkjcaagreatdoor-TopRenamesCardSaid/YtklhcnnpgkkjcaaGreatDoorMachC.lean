/- A function that hands values one by one to a function that it is handed, up to the first one of which that says true: what is asked of it, and its soundness. What some functions of libraries come to: given meanings. What serves to show that a function's given meaning holds: the state behind a call that laid new blocks, or wrote a handed list's block. Of runs of equal elements the first ones: plain facts. Operations whose run is known as an equation: store, clear, copy over rows of cells. A call, from the inside and from the outside. A call, seen from where it is made. Operations that do not look at the world; those that only let it grow. What a step leaves alone in the world; loads that may come at any time. A region whose order is drawn: one order stands for all. An operation does not see temporaries that it does not name, nor variables that nothing leads to. In a region that draws its order, what makes something new may come first. The last two variables, exchanged: two allocations in any order. A region whose order is drawn, walked in the one order. From the abstract machine to a call in any world. More fuel, the same answer. -/
import Derived.Test.YtklhcnnpgkkjcaaGreatDoorMachB
import Derived.RangeFuncFrom
import Derived.Test.YtklhcnnpgkkjcaaGreatDoorMachA
import Derived.Lib.ItoaNum
import Derived.Lib.Join
import Derived.Lib.Atoi
import Derived.Laws.Externs
import Derived.ProofKit
namespace Go.Ab
variable {l : Loc} {v : Value} {c : AV} {hp : Heap} {W W' : World} {n : Nat} {nx : FuncId} {vs : List AV}
variable {E : Env0} {X : Cx} {s : St} {a : Act} {w : World}
def q8s(E:Env0)(n:Nat):Prop:=∀(h:FuncId)(vs:List AV)(hp:Heap)(v:AV)(hp':Heap),call E n h vs hp=some (v,hp')->∀(X:Cx)(w:World)(args:Array Value),HRel E X hp w->ArgRel w X vs args->Calls E.P h args w fun e w1=>∃val,e=.returned val/\∃X1,(∃more,X1.mu=X.mu++more)/\Ext X w X1 w1/\HRel E X1 hp' w1/\ResRel w1 X1 v val
def Chain(P:Program)(nx:FuncId):List Int->Prop|[]=>True|[x]=>∀W,Calls P nx #[.int .i64 x,.int .i64 10] W fun e W'=>(∃c,e=.returned (.tuple #[c,.bool false]))/\W.grownBy W' none|x::y::r=>(∀W,Calls P nx #[.int .i64 x,.int .i64 10] W fun e W'=>e=.returned (.tuple #[.int .i64 y,.bool true])/\W.grownBy W' none)/\Chain P nx (y::r)
def Aside(w W W':World):Prop:=∃row,W.grownBy W' row/\∀b,row=some b->w.heap.size<=b/\(b<w.heap.size+3\/∃o:Obj,W.heap[b]?=some o/\o.isCells=false)
def Enters(P:Program)(g:FuncId):Prop:=∀args w,(callFunc g args).run P w=.ok (.enter g args) w
def qy3(P:Program)(f nx:FuncId)(xs:List Int):Prop:=Chain P nx xs->∀(g:FuncId)(caps:Array Value)(w:World)(J Jx:List Int->World->Prop),(∀W,w.grownBy W none->w.heap.size+3<=W.heap.size->J xs W)->(∀r W W',J r W->Aside w W W'->J r W')->(∀r W W',Jx r W->Aside w W W'->Jx r W')->(∀x r W,J (x::r) W->Enters P g/\Calls P g (#[.int .i64 x]++caps) W fun e W'=>(KeepsOthers W W'/\∀b,w.heap.size<=b->b<w.heap.size+3->W'.heap[b]?=W.heap[b]?)/\((e=.returned (.bool false)/\J r W')\/(e=.returned (.bool true)/\Jx (x::r) W')))->Calls P f #[.func (.func g) #[] caps] w fun e W'=>(e=.returned (.tuple #[.int .i64 0,.bool false])/\J [] W')\/∃x r,e=.returned (.tuple #[.int .i64 x,.bool true])/\Jx (x::r) W'
def LibOk(E:Env0)(f:FuncId)(m:List AV->Heap->Option (AV×Heap)):Prop:=∀(vs:List AV)(hp:Heap)(v:AV)(hp':Heap),m vs hp=some (v,hp')->∀(X:Cx)(w:World)(args:Array Value),HRel E X hp w->ArgRel w X vs args->Calls E.P f args w fun e w1=>∃val,e=.returned val/\∃X1,(∃more,X1.mu=X.mu++more)/\Ext X w X1 w1/\HRel E X1 hp' w1/\ResRel w1 X1 v val
def PreOk(E:Env0)(f g:FuncId)(k:AV->List AV->Heap->Option (AV×Heap)):Prop:=∀(vs:List AV)(hp:Heap)(v1 v:AV)(hp':Heap),k v1 vs hp=some (v,hp')->∀(X:Cx)(w:World)(args:Array Value),HRel E X hp w->ArgRel w X vs args->(∀w',HRel E X hp w'->ArgRel w' X vs args->Calls E.P g args w' fun e w1=>∃val,e=.returned val/\∃X1,(∃more,X1.mu=X.mu++more)/\Ext X w' X1 w1/\HRel E X1 [] w1/\ResRel w1 X1 v1 val)->Calls E.P f args w fun e w1=>∃val,e=.returned val/\∃X1,(∃more,X1.mu=X.mu++more)/\Ext X w X1 w1/\HRel E X1 hp' w1/\ResRel w1 X1 v val
def qrt(E:Env0):Prop:=(∀f nx xs,E.seek f=some (nx,xs)->(∀g,E.glob g=none)/\qy3 E.P f nx xs)/\(∀f m,E.lib f=some m->LibOk E f m)/\∀f g k,E.pre f=some (g,k)->PreOk E f g k
section
variable {X X' : Cx} {w w' : World} (hmu : X'.mu = X.mu) (hI : ∀ b o u, w.cell? ⟨b, o, none⟩ = some u -> X.imm b o -> w'.cell? ⟨b, o, none⟩ = some u /\ X'.imm b o)
 (hC : ∀ b l k cur e, X.G b = some (l, k) -> w.heap[b]? = some (.cells cur e (0, 0)) -> X'.G b = some (l, k) /\ w'.heap[b]? = some (.cells cur e (0, 0)))
include hI hC in
theorem OwnOk.turn{xs:List D}{lt:Bool}(h:OwnOk w X l xs lt v):OwnOk w' X' l xs lt v:=by
 rcases h with h|⟨h1,h2,h3⟩|⟨b,cap,cur,e,sz,h1,h2,h3,h4,h5,h6,h7,h8,h9,h10⟩;·exact .inl h
 .exact .inr (.inl ⟨h1,h2.mono hI,h3⟩)
 .obtain⟨g1,g2⟩:=hC b _ _ cur e h2 h3;refine .inr (.inr ⟨b,cap,cur,e,sz,h1,g1,g2,h4,h5,h6,h7,h8,h9,fun i x hx j c hj=>?_⟩);obtain⟨u,hu,hr⟩:=h10 i x hx j c hj;exact⟨u,hu,hr.mono hI⟩
include hmu hI hC in
theorem RVl.turn(h:RVl w X l c v):RVl w' X' l c v:=by cases c with|d x=>exact Rep.mono hI h|own xs lt=>exact OwnOk.turn hI hC h|ptr o off=>obtain⟨b,h1,h2⟩:=h;exact⟨b,by rw[hmu];exact h1,h2⟩|ref o=>exact⟨by rw[hmu];exact h.1,h.2⟩|view cs=>obtain⟨b,off,h1,h2⟩:=h;refine⟨b,off,h1,fun j c hj=>?_⟩;obtain⟨u,g1,g2,g3⟩:=h2 j c hj;exact⟨u,(hI _ _ _ g1 g2).1,(hI _ _ _ g1 g2).2,g3.mono hI⟩|fn f caps=>obtain⟨vs,h1,h2,h3⟩:=h;exact⟨vs,h1,h2,fun j o a hj=>by rw[hmu];exact h3 j o a hj⟩|undef=>trivial|skipped=>exact h|_=>exact h.elim
include hmu hI hC in
theorem HRel.turn(h:HRel E X hp w)(hgd:∀b l k,X'.G b=some (l,k)->b<w'.heap.size)(hamb:∀b o,w'.heap.size<=b->X'.amb b o)(hoamb:∀b l k,X'.G b=some (l,k)->∀o,X'.amb b o):HRel E X' hp w':=by
 refine⟨fun t=>trivial,h.bound,by rw[hmu];exact h.mu,fun o cs hcs=>?_,hgd,hamb,hoamb,fun g cs hg j c hj=>?_,h.defers⟩
 .rcases h.heap o cs hcs with⟨b,cur,e,h1,h2,h3,h4,h5⟩|⟨v,c,h1,h2,h3⟩;·obtain⟨g1,g2⟩:=hC b _ _ cur e h2 h3;exact .inl ⟨b,cur,e,by rw[hmu];exact h1,g1,g2,h4,fun j c hj=>⟨(h5 j c hj).1.turn hmu hI hC,trivial⟩⟩
  .exact .inr ⟨v,c,by rw[hmu];exact h1,h2,h3.turn hmu hI hC⟩
 .obtain⟨u,h1,h2,h3⟩:=h.glob g cs hg j c hj;exact⟨u,(hI _ _ _ h1 h2).1,(hI _ _ _ h1 h2).2,h3.mono hI⟩
end
def qma(X:Cx)(w:World):Prop:=∀(b:Nat)o,w.heap[b]?=some o->o.isCells=false->X.G b=none
theorem HRel.strip{X:Cx}{w:World}(h:HRel E X hp w):∃X',X'.mu=X.mu/\Ext X w X' w/\HRel E X' hp w/\qma X' w/\∀b,X.G b=none->X'.G b=none:=by
 let X':Cx:={X with G:=fun b=>match w.heap[b]? with|some (.cells _ _ _)=>X.G b|_=>none};have hg:∀b l k,X'.G b=some (l,k)->X.G b=some (l,k):=by grind
 have hn:∀b,X.G b=none->X'.G b=none:=by grind
 refine⟨X',rfl,⟨rfl,Nat.le_refl _,rfl,rfl,rfl,fun b _ hb=>⟨hn b hb,rfl⟩,fun b l k hb=>⟨fun l' k' e=>?_,fun _ _=>rfl⟩⟩,HRel.turn (X:=X) (X':=X') (w':=w) rfl (fun b o u hc hi=>⟨hc,hi.1,fun l k e=>hi.2 l k (hg b l k e)⟩) (fun b l k cur e hb hw=>⟨?_,hw⟩) h (fun b l k e=>h.gdom b l k (hg b l k e)) h.amb (fun b l k e=>h.oamb b l k (hg b l k e)),fun b o ho hc=>?_,hn⟩;·grind
 .grind
 .simp only[X',ho];cases o<;>first|rfl|cases hc
def Boxes(X:Cx)(w:World):Prop:=∀b,w.heap.size<=b->b<w.heap.size+3->X.G b=none/\∀o,¬X.amb b o
theorem Ext.turned{X X':Cx}{w:World}(hE:Ext X w X' W)(hA:Aside w W W')(hd:∀b l k,X.G b=some (l,k)->b<w.heap.size)(hH:HRel E X' hp W)(hC:qma X' W)(hB:Boxes X' w):Ext X w X' W'/\HRel E X' hp W'/\qma X' W':=by
 obtain⟨row,hg,hr⟩:=hA;have hne:∀b,b<w.heap.size->some b≠row:=fun b hb e=>by grind
 have hold:∀b,b<w.heap.size->W'.heap[b]?=W.heap[b]?:=fun b hb=>hg.block b (Nat.lt_of_lt_of_le hb hE.size) (hne b hb);have hkeep:∀(b:Nat)o,W.heap[b]?=some o->o.isCells=true->(w.heap.size<=b->b<w.heap.size+3->False)->W'.heap[b]?=some o:=by intro b o ho hc hbx;rw[hg.block b (Array.getElem?_eq_some_iff.1 ho).1 (fun e=>?_)];exact ho;grind
 refine⟨⟨hE.amb,Nat.le_trans hE.size hg.size,by rw[hg.os,hE.os],by rw[hg.tape,hE.tape],by rw[hg.output,hE.output],fun b hb hx=>⟨(hE.free b hb hx).1,by rw[hold b hb];exact(hE.free b hb hx).2⟩,fun b l k hx=>⟨(hE.own b l k hx).1,fun o ho=>by rw[cell?_of_heap (hold b (hd b l k hx))];exact(hE.own b l k hx).2 o ho⟩⟩,HRel.turn rfl (fun b o u hu hi=>⟨?_,hi⟩) (fun b l k cur e hb hw=>⟨hb,hkeep b _ hw rfl fun h1 h2=>by rw[(hB b h1 h2).1]at hb;grind⟩) hH (fun b l k e=>Nat.lt_of_lt_of_le (hH.gdom b l k e) hg.size) (fun b o hb=>hH.amb b o (Nat.le_trans hg.size hb)) hH.oamb,fun b o ho hc=>?_⟩;·obtain⟨ob,h1,h2⟩:=cells_of_cell hu;rw[cell?_of_heap (show W'.heap[b]?=W.heap[b]? by rw[hkeep b ob h1 h2 fun h3 h4=>(hB b h3 h4).2 o hi.1,h1])];omega
 .by_cases hlt:b<W.heap.size
  .by_cases hrow:some b=row
   .obtain⟨h0,h1|⟨o',h1,h2⟩⟩:=hr b hrow.symm;·exact(hB b h0 h1).1
    .exact hC b o' h1 h2
   .rw[hg.block b hlt hrow]at ho;exact hC b o ho hc
  .cases hx:X'.G b with|none=>rfl|some q=>exact absurd (hH.gdom b q.1 q.2 hx) hlt
theorem Ext.others{X X':Cx}(hE:Ext X W X' W')(hC:qma X W):KeepsOthers W W':=⟨hE.size,fun b o ho hc=>by rw[(hE.free b (Array.getElem?_eq_some_iff.1 ho).1 (hC b o ho hc)).2];omega⟩
theorem y1j(hc:q8s E n)(hgl:∀g,E.glob g=none){x:Int}{b:Bool}(h:call E n nx [.d (.v (.int .i64 x)),.d (.v (.int .i64 10))] []=some (.tup [c,.d (.v (.bool b))],[]))(W:World):Calls E.P nx #[.int .i64 x,.int .i64 10] W fun e W'=>(∃v,e=.returned (.tuple #[v,.bool b])/\∀z,c=.d (.v z)->v=z)/\W.grownBy W' none:=by
 let X:Cx:={mu:=[],G:=fun _=>none,amb:=fun _ _=>True};have hH:HRel E X [] W:=⟨fun t=>trivial,fun t ht=>by obtain⟨v,hv,hne⟩:=ht;exact absurd hv.symm hne,rfl,fun o cs hcs=>by grind,fun b l k e=>(by cases e),fun _ _ _=>trivial,fun b l k e=>(by cases e),fun g cs hg=>(by grind),rfl⟩;refine(hc nx _ [] _ [] h X W #[.int .i64 x,.int .i64 10] hH ⟨rfl,fun i v hi=>?_⟩).mono ?_;·match i,hi with|0,hi=>cases hi;exact⟨rfl,(Rep.v _ rfl:Rep W X.imm (.v (.int .i64 x)) _)⟩|1,hi=>cases hi;exact⟨rfl,(Rep.v _ rfl:Rep W X.imm (.v (.int .i64 10)) _)⟩|i+2,hi=>grind
 .rintro e W1⟨val,rfl,X1,_,hE,_,hr⟩;obtain⟨_,_,_,vs,rfl,hsz,hvs⟩:=hr.plain (by unfold qgg;split<;>simp_all);have h2:vs.size=2:=hsz;have hv1:vs.getD 1 undef=.bool b:=q0t (show Rep W1 X1.imm (.v (.bool b)) _ from(hvs 1 _ rfl).2);have hvv:vs=#[vs.getD 0 undef,.bool b]:=by
   apply Array.ext;·omega
   .intro i h3 h4;rw[h2]at h3;match i,h3 with|0,_=>simp_all|1,_=>simp_all
  refine⟨⟨vs.getD 0 undef,by grind,fun z hz=>?_⟩,hE.os,hE.tape,hE.output,hE.size,fun k hk _=>(hE.free k hk rfl).2⟩;subst hz;exact q0t (show Rep W1 X1.imm (.v z) _ from(hvs 0 _ rfl).2)
theorem qyj{n:Nat}(hc:q8s E n)(hgl:∀g,E.glob g=none){nx:FuncId}:∀(xs:List Int),q9j (fun x=>call E n nx [.d (.v (.int .i64 x)),.d (.v (.int .i64 10))] []) xs=true->Chain E.P nx xs
 |[],_=>trivial|[x],h=>fun W=>by
  simp only[q9j]at h;split at h;·rename_i h1;refine(y1j hc hgl h1 W).mono ?_;simp_all
  grind|x::y::r,h=>by
  simp only[q9j,aT]at h;refine⟨fun W=>?_,qyj hc hgl (y::r) h.2⟩;have h0:=h.1;split at h0;·rename_i z h1;have hz:=of_decide_eq_true h0;subst hz;refine(y1j hc hgl h1 W).mono ?_;rintro e W'⟨⟨v,hv,he⟩,hg⟩;exact⟨by rw[hv,he _ rfl],hg⟩
  grind
theorem qtx{m:List AV->Heap->Option (AV×Heap)}{q:AV×Heap}(h:libA m vs hp=some q):m vs hp=some q:=by unfold libA at h;grind
theorem y1m{h:FuncId}{q:AV×Heap}(hc:call E n h vs hp=some q):E.ok h=true:=by cases n with|zero=>simp[call]at hc|succ n=>simp only[call]at hc;grind
theorem y0i(hb:q9g E)(hc:q8s E n){f:FuncId}{xs:List Int}(hgl:∀g,E.glob g=none)(hs:qy3 E.P f nx xs)(hch:q9j (fun x=>call E n nx [.d (.v (.int .i64 x)),.d (.v (.int .i64 10))] []) xs=true){g:FuncId}{caps:List (Nat×Nat)}{hp':Heap}{v:AV}(h:seekA (fun x hp=>call E n g (.d (.v (.int .i64 x))::caps.map fun(o,a)=>.ptr o a) hp) xs hp=some (v,hp')){X:Cx}{w:World}{args:Array Value}(hH:HRel E X hp w)(ha:ArgRel w X [.fn g caps] args):Calls E.P f args w fun e w1=>∃val,e=.returned val/\∃X1,(∃more,X1.mu=X.mu++more)/\Ext X w X1 w1/\HRel E X1 hp' w1/\ResRel w1 X1 v val:=by
 obtain⟨cvs,hcv,hcs,hcp⟩:=(ha.2 0 _ rfl).2;have hargs:args=#[.func (.func g) #[] cvs]:=by
  apply Array.ext;·simpa using ha.1
  .intro i h1 h2;have hi:i=0:=by simp_all
   subst hi;simp_all
 rw[hargs];obtain⟨X0,hm0,hE0,hR0,hC0,hn0⟩:=hH.strip;let Xr:Cx:={X0 with amb:=fun b o=>X0.amb b o/\¬(w.heap.size<=b/\b<w.heap.size+3)};let J:List Int->World->Prop:=fun r W=>w.heap.size+3<=W.heap.size/\∃X' hp1,(∃more,X'.mu=X.mu++more)/\Ext Xr w X' W/\HRel E X' hp1 W/\qma X' W/\Boxes X' w/\seekA (fun x hp=>call E n g (.d (.v (.int .i64 x))::caps.map fun(o,a)=>.ptr o a) hp) r hp1=some (v,hp');let Jx:List Int->World->Prop:=fun r W=>w.heap.size+3<=W.heap.size/\∃X',(∃more,X'.mu=X.mu++more)/\Ext Xr w X' W/\HRel E X' hp' W/\qma X' W/\Boxes X' w/\∃x r',r=x::r'/\v=.tup [.d (.v (.int .i64 x)),.d (.v (.bool true))];have hgdr:∀b l k,Xr.G b=some (l,k)->b<w.heap.size:=hR0.gdom;have back:∀{X':Cx}{W:World}{hp1:Heap},(∃more,X'.mu=X.mu++more)->Ext Xr w X' W->HRel E X' hp1 W->∃X1,(∃more,X1.mu=X.mu++more)/\Ext X w X1 W/\HRel E X1 hp1 W/\∀d u,Rep W X'.imm d u->Rep W X1.imm d u:=by
  intro X' W hp1 hm hE hR;have hi:∀b o,X'.imm b o->X'.amb b o->X.amb b o:=fun b o _ ha=>by
   have:Xr.amb b o:=by rw[<-hE.amb];exact ha
   have h2:X0.amb b o:=this.1;rw[hE0.amb]at h2;omega
  refine⟨{X' with amb:=X.amb},hm,Ext.trans hH.gdom hE0 ⟨hE0.amb.symm,hE.size,hE.os,hE.tape,hE.output,hE.free,hE.own⟩,HRel.turn (X:=X') (X':={X' with amb:=X.amb}) rfl (fun b o u hcu him=>⟨hcu,hi b o him him.1,him.2⟩) (fun b l k cur e hb hw=>⟨hb,hw⟩) hR hR.gdom (fun b o hb=>hH.amb b o (Nat.le_trans hE.size hb)) (fun b l k e o=>?_),fun d u hr=>hr.mono fun b o u hcu him=>⟨hcu,hi b o him him.1,him.2⟩⟩;have h1:=hR.oamb b l k e o;have:Xr.amb b o:=by rw[<-hE.amb];omega
  have h2:X0.amb b o:=this.1;rw[hE0.amb]at h2;omega
 refine(hs (qyj hc hgl xs hch) g cvs w J Jx ?_ ?_ ?_ ?_).mono ?_
 .intro W hg hsz;have hkeep:∀b,b<w.heap.size->W.heap[b]?=w.heap[b]?:=fun b hb=>hg.block b hb (by simp);have hlt:∀{b o u},w.cell? ⟨b,o,none⟩=some u->b<w.heap.size:=fun{b o u}hu=>by obtain⟨ob,h1,_⟩:=cells_of_cell hu;grind
  have hnb:∀b,w.heap.size<=b->X0.G b=none:=fun b hb=>by cases hx:X0.G b with|none=>rfl|some q=>grind
  refine⟨hsz,Xr,hp,⟨[],by grind⟩,⟨rfl,by omega,hg.os,hg.tape,hg.output,fun b hb hx=>⟨hx,hkeep b hb⟩,fun b l k hx=>⟨fun l' k' e=>?_,fun o _=>cell?_of_heap (hkeep b (hgdr b l k hx)) o⟩⟩,HRel.turn (X:=X0) (X':=Xr) rfl (fun b o u hu him=>⟨by rw[cell?_of_heap (hkeep b (hlt hu))];omega,⟨him.1,fun hb=>by grind⟩,him.2⟩) (fun b l k cur e hb hw=>⟨hb,by grind⟩) hR0 (fun b l k e=>Nat.lt_of_lt_of_le (hgdr b l k e) (by omega)) (fun b o hb=>⟨hR0.amb b o (by omega),fun hx=>by omega⟩) (fun b l k e o=>⟨hR0.oamb b l k e o,fun hx=>by grind⟩),fun b o ho hcl=>?_,fun b h1 h2=>⟨hnb b h1,fun o ha=>ha.2 ⟨h1,h2⟩⟩,h⟩;·grind
  .by_cases hlb:b<w.heap.size;·rw[hkeep b hlb]at ho;exact hC0 b o ho hcl
   grind
 .rintro r W W'⟨hsz,X',hp1,hm,hE,hR,hC,hB,hsk⟩hA;obtain⟨q1,q2,q3⟩:=hE.turned hA hgdr hR hC hB;exact⟨Nat.le_trans hsz hA.choose_spec.1.size,X',hp1,hm,q1,q2,q3,hB,hsk⟩
 .rintro r W W'⟨hsz,X',hm,hE,hR,hC,hB,hrest⟩hA;obtain⟨q1,q2,q3⟩:=hE.turned hA hgdr hR hC hB;exact⟨Nat.le_trans hsz hA.choose_spec.1.size,X',hm,q1,q2,q3,hB,hrest⟩
 .rintro x r W⟨hsz,X',hp1,⟨more,hm⟩,hE,hR,hC,hB,hsk⟩;have harg:ArgRel W X' (.d (.v (.int .i64 x))::caps.map fun(o,a)=>.ptr o a) (#[.int .i64 x]++cvs):=by
   refine⟨by simp[hcs];omega,fun i u hi=>?_⟩;cases i with|zero=>
    simp only[List.getElem?_cons_zero,sI]at hi;subst hi;refine⟨rfl,?_⟩;have e0:(#[Value.int .i64 x]++cvs).getD 0 undef=.int .i64 x:=by rw[Array.getD_eq_getD_getElem?,Array.getElem?_append_left (by simp)];rfl
    rw[e0];exact(Rep.v _ rfl:Rep W X'.imm (.v (.int .i64 x)) (.int .i64 x))|succ i=>rw[List.getElem?_cons_succ,List.getElem?_map]at hi;cases hci:caps[i]? with|none=>rw[hci]at hi;cases hi|some q=>obtain⟨o,a⟩:=q;rw[hci]at hi;simp only[mS,sI]at hi;subst hi;obtain⟨b,h1,h2⟩:=hcp i o a hci;refine⟨rfl,b,by rw[hm,List.getElem?_append_left (List.getElem?_eq_some_iff.1 h1).1];exact h1,?_⟩;rw[Array.getD_eq_getD_getElem?,Array.getElem?_append_right (by simp)];simp[h2]
  have after:∀{hp2:Heap}{X1:Cx}{W1:World}{m1:List Home},X1.mu=X'.mu++m1->Ext X' W X1 W1->HRel E X1 hp2 W1->(KeepsOthers W W1/\∀b,w.heap.size<=b->b<w.heap.size+3->W1.heap[b]?=W.heap[b]?)/\w.heap.size+3<=W1.heap.size/\∃X2,(∃more,X2.mu=X.mu++more)/\Ext Xr w X2 W1/\HRel E X2 hp2 W1/\qma X2 W1/\Boxes X2 w:=by intro hp2 X1 W1 m1 hm1 hE1 hR1;obtain⟨X2,hm2,hE2,hR2,hC2,hn2⟩:=hR1.strip;refine⟨⟨hE1.others hC,fun b h1 h2=>(hE1.free b (by omega) (hB b h1 h2).1).2⟩,Nat.le_trans hsz hE1.size,X2,⟨more++m1,by rw[hm2,hm1,hm,List.append_assoc]⟩,Ext.trans hgdr hE (Ext.trans hR.gdom hE1 hE2),hR2,hC2,fun b h1 h2=>⟨hn2 b (hE1.free b (by omega) (hB b h1 h2).1).1,fun o ha=>(hB b h1 h2).2 o (by rw[<-hE1.amb,<-hE2.amb];exact ha)⟩⟩
  have enters:E.ok g=true->Enters E.P g:=fun hok args w=>qja hb hok args w;simp only[seekA]at hsk;split at hsk;·rename_i hp2 hcall;simp only[sI,pI]at hsk;obtain⟨ev,eh⟩:=hsk;refine⟨enters (y1m hcall),(hc g _ hp1 _ hp2 hcall X' W _ hR harg).mono ?_⟩;rintro e W1⟨val,rfl,X1,⟨m1,hm1⟩,hE1,hR1,hr⟩;obtain⟨_,_,_,hv⟩:=hr.plain rfl;have hval:val=.bool true:=q0t (show Rep W1 X1.imm (.v (.bool true)) val from hv);subst hval;obtain⟨k1,k2,X2,hm2,hE2,hR2,hC2,hB2⟩:=after hm1 hE1 hR1;exact⟨k1,.inr ⟨rfl,k2,X2,hm2,hE2,by rw[<-eh];exact hR2,hC2,hB2,x,r,rfl,ev.symm⟩⟩
  .rename_i hp2 hcall;refine⟨enters (y1m hcall),(hc g _ hp1 _ hp2 hcall X' W _ hR harg).mono ?_⟩;rintro e W1⟨val,rfl,X1,⟨m1,hm1⟩,hE1,hR1,hr⟩;obtain⟨_,_,_,hv⟩:=hr.plain rfl;have hval:val=.bool false:=q0t (show Rep W1 X1.imm (.v (.bool false)) val from hv);subst hval;obtain⟨k1,k2,X2,hm2,hE2,hR2,hC2,hB2⟩:=after hm1 hE1 hR1;exact⟨k1,.inl ⟨rfl,k2,X2,hp2,hm2,hE2,hR2,hC2,hB2,hsk⟩⟩
  grind
 .rintro e W1(⟨rfl,_,X',hp1,hm,hE,hR,_,_,hsk⟩|⟨x,r,rfl,_,X',hm,hE,hR,_,_,x',r',hxr,rfl⟩);·simp only[seekA,sI,pI]at hsk;obtain⟨rfl,rfl⟩:=hsk;obtain⟨X1,hm1,hE1,hR1,_⟩:=back hm hE hR;refine⟨_,rfl,X1,hm1,hE1,hR1,ResRel0.res ⟨rfl,rfl,by simp,_,rfl,rfl,fun j c hj=>?_⟩ rfl⟩;match j,hj with|0,hj=>cases hj;exact⟨rfl,.v _ rfl⟩|1,hj=>cases hj;exact⟨rfl,.v _ rfl⟩|j+2,hj=>grind
  .cases hxr;obtain⟨X1,hm1,hE1,hR1,_⟩:=back hm hE hR;refine⟨_,rfl,X1,hm1,hE1,hR1,ResRel0.res ⟨rfl,rfl,by simp,_,rfl,rfl,fun j c hj=>?_⟩ rfl⟩;match j,hj with|0,hj=>cases hj;exact⟨rfl,.v _ rfl⟩|1,hj=>cases hj;exact⟨rfl,.v _ rfl⟩|j+2,hj=>grind
end Go.Ab

namespace Go.Ab
open Classical
def qf7:List D->Option (List (List D))|[]=>some []|.list xs::r=>(qf7 r).map (xs::·)|_::_=>none
def q5q(sz:Nat)(x:D):Bool:=decide (x.cells.length=sz)&&x.cells.all fun c=>!c.isAgg
def q8n(sz:Nat):List AV->Heap->Option (AV×Heap)
 |[.d (.list xss)],[]=>match qf7 xss with|some ls=>if ls.flatten.length<=q0a/\xss.length<=q0a/\ls.flatten.all (q5q sz)=true then some (.ref 0,[[.own ls.flatten false]])else none|none=>none
 |_,_=>none
def flatD:D->Bool
 |.agg cs=>cs.all fun|.v (.int .i64 _)=>true|_=>false
 |.v (.int .i64 _)=>true|.v (.string _)=>true|_=>false
noncomputable def q0c{α:Type}:List α->List α|[]=>[]|[x]=>[x]|x::y::r=>if x=y then q0c (y::r)else x::q0c (y::r)
noncomputable def q6w(sz:Nat):List AV->Heap->Option (AV×Heap)|[.ref 0],[[.own xs false]]=>if xs.all flatD=true/\xs.all (q5q sz)=true/\xs.length<=q0a then some (.d (.list (q0c xs)),[[.undef]])else none|_,_=>none
def q93(sz:Nat):List AV->Heap->Option (AV×Heap)|[.ref 0,.d (.v (.int .i64 i)),.d (.list [x])],[[.own xs false]]=>if 0<=i/\i<=(xs.length:Int)/\xs.length<q0a/\q5q sz x=true/\xs.all (q5q sz)=true then some (.d (.list (xs.take i.toNat++x::xs.drop i.toNat)),[[.undef]])else none|_,_=>none
def q8a:List D->Option (List (Int×Int))|[]=>some []|.agg [.v (.int .i64 a),.v (.int .i64 b)]::r=>if 0<=a/\a<4611686018427387904/\0<=b/\b<4611686018427387904 then(q8a r).map ((a,b)::·)else none|_::_=>none
def q3m:List (Int×Int)->Bool|[]=>true|x::r=>r.all (fun y=>!(decide (x.1=y.1)&&!decide (x.2=y.2)))&&q3m r
def q47:List AV->Heap->Option (AV×Heap)
 |[.d (.list xs)],[]=>match q8a xs with|some l=>if l.length<=q0a then some (.d (.v (.bool (q3m l))),[])else none|none=>none
 |_,_=>none
def qcn(x y:Int×Int):Bool:=decide (x.1<y.1)||(decide (x.1=y.1)&&decide (x.2<y.2))
def twoD(p:Int×Int):D:=.agg [.v (.int .i64 p.1),.v (.int .i64 p.2)]
def qdi(g:Nat):List AV->Heap->Option (AV×Heap)
 |[.ref 0,.fn g' []],[[.own xs false]]=>match q8a xs with|some l=>if g'=g/\l.length<=q0a then some (.tup [],[[.own ((l.mergeSort fun x y=>!qcn y x).map twoD) false]])else none|none=>none
 |_,_=>none
def ya0:List AV->Heap->Option (AV×Heap):=fun _ _=>none
def qij:List AV->Heap->Option (AV×Heap)|[.d (.v (.int .i64 n)),.d (.v (.int .i64 10))],[]=>if 0<=n/\n<100 then some (.d (.v (.string ⟨⟨Lib.decDigits n.toNat⟩⟩)),[])else none|_,_=>none
def q9m:List D->Option (List Int)|[]=>some []|.v (.int .i64 a)::r=>(q9m r).map (a::·)|_::_=>none
def pcB(n:Nat):Nat:=((List.range 10).filter fun i=>n.testBit i).length
def ltSet(a b:Nat):Bool:=decide (pcB a<pcB b)||(decide (pcB a=pcB b)&&decide (a<b))
def q6f(g:Nat):List AV->Heap->Option (AV×Heap)
 |[.ref 0,.fn g' []],[[.own xs false]]=>match q9m xs with|some l=>if g'=g/\l.length<=q0a/\l.all (fun a=>decide (0<=a)&&decide (a<1024))=true then some (.tup [],[[.own ((l.mergeSort fun x y=>!ltSet y.toNat x.toNat).map fun n=>D.v (.int .i64 n)) false]])else none|none=>none
 |_,_=>none
def q6u(g:Nat):List AV->Heap->Option (AV×Heap)
 |[.fn g' [(0,0)]],[[.d (.list xs)]]=>match q9m xs with|some l=>if g'=g/\l.length<=1000/\l≠[]then some (.d (.list ((l.mergeSort fun x y=>decide (x<=y)).map fun n=>D.v (.int .i64 n))),[[.d (.list xs)]])else none|none=>none
 |_,_=>none
def qhv:List AV->Heap->Option (AV×Heap)
 |[.d (.v (.string ⟨⟨l⟩⟩))],[]=>match Lib.atoi l with|some n=>if l.length<=4 then some (.tup [.d (.v (.int .i64 n)),.undef],[])else none|none=>none
 |_,_=>none
def posB(c:UInt8):List UInt8->Int|[]=>-1|b::r=>if b=c then 0 else match posB c r with|-1=>-1|n=>n+1
def q91:List AV->Heap->Option (AV×Heap)|[.d (.v (.string ⟨⟨l⟩⟩)),.d (.v (.int .u8 c))],[]=>if l.length<=1000 then some (.d (.v (.int .i64 (posB c.toNat.toUInt8 l))),[])else none|_,_=>none
def q9a:List AV->Heap->Option (AV×Heap)|[.d (.v (.string ⟨⟨l⟩⟩)),.d (.v (.string ⟨⟨[c]⟩⟩))],[]=>if l.length<=1000 then some (.d (.v (.int .i64 (posB c l))),[])else none|_,_=>none
def q9b:List AV->Heap->Option (AV×Heap)|[.d (.v (.string ⟨⟨l⟩⟩)),.d (.v (.string ⟨⟨[c]⟩⟩))],[]=>if l.length<=1000 then some (.d (.v (.int .i64 (l.count c:Nat))),[])else none|_,_=>none
end Go.Ab

namespace Go.Ab
variable {b o sz : Nat} {ds : List D} {row : List Value} {u v val : Value} {hp : Heap} {d : D}
variable {E : Env0} {X : Cx} {w w' : World}
def RowRep(w:World)(I:Nat->Nat->Prop)(sz:Nat)(ds:List D)(row:List Value):Prop:=row.length=ds.length*sz/\(∀x∈ds,x.cells.length=sz)/\∀(i:Nat)x,ds[i]?=some x->∀(j:Nat)c,x.cells[j]?=some c->∃u,row[i*sz+j]?=some u/\Rep w I c u
theorem RowRep.nil{I:Nat->Nat->Prop}:RowRep w I sz [] []:=⟨by simp,(fun x hx=>by grind),fun i x hx=>by grind⟩
theorem RowRep.append{I:Nat->Nat->Prop}{a b:List D}{r q:List Value}(h:RowRep w I sz a r)(h':RowRep w I sz b q):RowRep w I sz (a++b) (r++q):=by
 obtain⟨h1,h2,h3⟩:=h;obtain⟨g1,g2,g3⟩:=h';refine⟨by grind,fun x hx=>?_,fun i x hx j c hj=>?_⟩;·grind
 .by_cases hi:i<a.length;·grind
  .rw[List.getElem?_append_right (by omega)]at hx;obtain⟨u,hu,hr⟩:=g3 _ x hx j c hj;refine⟨u,?_,hr⟩;have e:i*sz+j=r.length+((i-a.length)*sz+j):=by rw[h1,<-Nat.add_assoc,<-Nat.add_mul];congr 2;omega
   grind
theorem RowRep.mono{I I':Nat->Nat->Prop}(h:∀b o u,w.cell? ⟨b,o,none⟩=some u->I b o->w'.cell? ⟨b,o,none⟩=some u/\I' b o)(hr:RowRep w I sz ds row):RowRep w' I' sz ds row:=⟨hr.1,hr.2.1,fun i x hx j c hj=>let⟨u,h1,h2⟩:=hr.2.2 i x hx j c hj;⟨u,h1,h2.mono h⟩⟩
theorem qih{I:Nat->Nat->Prop}(h:Rep w I (.list ds) v)(hs:∀x∈ds,x.cells.length=sz/\∀c∈x.cells,c.isAgg=false)(hz:0<sz):∃ad cap row,v=.slice ad ds.length cap/\RowRep w I sz ds row/\(∀u∈row,u.oneCell'=true)/\(ds≠[]->∃b o,ad=some ⟨b,o,none⟩/\∀(k:Nat)u,row[k]?=some u->w.cell? ⟨b,o+k,none⟩=some u):=by cases h with|empty a c=>exact⟨a,c,[],rfl,RowRep.nil,(fun u hu=>by grind),fun hne=>absurd rfl hne⟩|list _ b off cap sz0 V hs0 hc hh hr=>
  by_cases hne:ds=[];·subst hne;exact⟨_,cap,[],rfl,RowRep.nil,(fun u hu=>by grind),fun h=>absurd rfl h⟩
  .have e:sz0=sz:=by obtain⟨x,hx⟩:=List.exists_mem_of_ne_nil _ hne;grind
   subst e;obtain⟨news,h1,h2,h3,h4⟩:=qr6 (w:=w) (I:=I) hs0 hz (fun i x hx j c hj=>(hh i x hx j c hj).1) hr;refine⟨_,cap,news,rfl,⟨h1,hs0,h3⟩,fun u hu=>?_,fun _=>⟨b,off,rfl,h2⟩⟩;obtain⟨k,hk,rfl⟩:=List.mem_iff_getElem.1 hu;obtain⟨x,c,hxm,hcm,hrc⟩:=h4 k news[k] (by simp);have hca:=(hs x hxm).2 c hcm;revert hrc;generalize news[k]=vv;intro hrc;cases hrc with|v _ h1=>omega|empty a c=>rfl|list _ b off cap sz V hs hc hh hr=>rfl|agg cs vs hn hr=>cases hca
theorem RowRep.rep{I:Nat->Nat->Prop}{cap:Nat}(h:RowRep w I sz ds row)(hc:∀(k:Nat)u,row[k]?=some u->w.cell? ⟨b,o+k,none⟩=some u/\I b (o+k))(hcap:ds.length<=cap):Rep w I (.list ds) (.slice (some ⟨b,o,none⟩) ds.length cap):=by
 refine .list ds b o cap sz (fun i j=>row.getD (i*sz+j) undef) h.2.1 hcap (fun i x hx j c hj=>?_) (fun i x hx j c hj=>?_);·obtain⟨u,hu,_⟩:=h.2.2 i x hx j c hj;grind
 .obtain⟨u,hu,hr⟩:=h.2.2 i x hx j c hj;simp_all
theorem HRel.grown(h:HRel E X hp w)(hg:w.grownBy w' none):Ext X w X w'/\HRel E X hp w':=by have hb:∀b,b<w.heap.size->w'.heap[b]?=w.heap[b]?:=fun b hb=>hg.block b hb (by simp);refine⟨⟨rfl,hg.size,hg.os,hg.tape,hg.output,fun b hlt hn=>⟨hn,hb b hlt⟩,fun b l k hk=>⟨fun l' k' e=>?_,fun o _=>cell?_of_heap (hb b (h.gdom b l k hk)) o⟩⟩,HRel.turn rfl (fun b o u hu hi=>⟨(cell?_of_heap (hb b (World.block_lt_of_cell? w ⟨b,o,none⟩ hu)) o).trans hu,hi⟩) (fun b l k cur e hk hw=>⟨hk,(hb b (h.gdom b l k hk)).trans hw⟩) h (fun b l k e=>Nat.lt_of_lt_of_le (h.gdom b l k e) hg.size) (fun b o hb'=>h.amb b o (Nat.le_trans hg.size hb')) h.oamb⟩;simp_all
theorem qgp(h:HRel E X hp w)(hg:w.grownBy w' none)(hr:Rep w' X.imm d val):∃X1,(∃more,X1.mu=X.mu++more)/\Ext X w X1 w'/\HRel E X1 hp w'/\ResRel w' X1 (.d d) val:=⟨X,⟨[],by simp⟩,(h.grown hg).1,(h.grown hg).2,.inl ⟨⟨rfl,rfl,(fun _ e=>by cases e),hr⟩,rfl⟩⟩
theorem y54(h:HRel E X [] w)(hg:w.grownBy w' none){e:TypeId}(hr:RowRep w X.imm sz ds row)(hz:0<sz)(ho:w'.ownsRow w.heap.size e sz v ds.length row)(hnil:ds=[]->∃a,v=.slice a 0 0):∃X1,(∃more,X1.mu=X.mu++more)/\Ext X w X1 w'/\HRel E X1 [[.own ds false]] w'/\ResRel w' X1 (.ref 0) v:=by
 obtain⟨hE,hH⟩:=h.grown hg;have hmu0:X.mu=[]:=List.length_eq_zero_iff.1 h.mu;rcases ho with⟨hl,⟨hv,hn⟩|⟨g,cap,cur,hv,hbase,hgg,hcap,hml,hcs,htk⟩⟩
 .have hds:ds=[]:=List.length_eq_zero_iff.1 hn;subst hds;let X1:Cx:={X with mu:=[.head v]};refine⟨X1,⟨[.head v],by rw[hmu0];rfl⟩,⟨hE.amb,hE.size,hE.os,hE.tape,hE.output,hE.free,hE.own⟩,⟨fun t=>trivial,fun t ht=>by obtain⟨v,hv,hne⟩:=ht;exact absurd hv.symm hne,rfl,fun o cs hcs=>?_,hH.gdom,hH.amb,hH.oamb,fun g cs hg j c hj=>hH.glob g cs hg j c hj,rfl⟩,.inl ⟨⟨rfl,rfl,(fun _ e=>by cases e),rfl,?_⟩,rfl⟩⟩;·cases o with|zero=>simp at hcs;subst hcs;exact .inr ⟨v,_,rfl,rfl,.inl ⟨rfl,hnil rfl⟩⟩|succ o=>simp at hcs
  simp_all
 .by_cases hds:ds=[]
  .subst hds;let X1:Cx:={X with mu:=[.head v]};refine⟨X1,⟨[.head v],by rw[hmu0];rfl⟩,⟨hE.amb,hE.size,hE.os,hE.tape,hE.output,hE.free,hE.own⟩,⟨fun t=>trivial,fun t ht=>by obtain⟨v,hv,hne⟩:=ht;exact absurd hv.symm hne,rfl,fun o cs hcs=>?_,hH.gdom,hH.amb,hH.oamb,fun g cs hg j c hj=>hH.glob g cs hg j c hj,rfl⟩,.inl ⟨⟨rfl,rfl,(fun _ e=>by cases e),rfl,?_⟩,rfl⟩⟩;·cases o with|zero=>simp at hcs;subst hcs;exact .inr ⟨v,_,rfl,rfl,.inl ⟨rfl,hnil rfl⟩⟩|succ o=>simp at hcs
   simp_all
  have hglt:g<w'.heap.size:=(Array.getElem?_eq_some_iff.1 hgg).1;let X1:Cx:={X with mu:=[.head v],G:=fun b=>if b=g then some (.cell 0 0,0)else X.G b};have hG:∀b,b≠g->X1.G b=X.G b:=fun b hb=>by grind
  have hGg:X1.G g=some (.cell 0 0,0):=by grind
  have hE1:Ext X w X1 w':=⟨hE.amb,hE.size,hE.os,hE.tape,hE.output,fun b hb hn=>⟨by grind,(hE.free b hb hn).2⟩,fun b l k hk=>⟨fun l' k' e=>by have:=h.gdom b l k hk;grind,(hE.own b l k hk).2⟩⟩;refine⟨X1,⟨[.head v],by grind⟩,hE1,⟨fun t=>trivial,fun t ht=>by obtain⟨v,hv,hne⟩:=ht;exact absurd hv.symm hne,rfl,fun o cs hcs1=>?_,fun b l k e=>?_,hH.amb,fun b l k e o=>?_,fun g' cs hg' j c hj=>?_,rfl⟩,.inl ⟨⟨rfl,rfl,(fun _ e=>by cases e),rfl,⟨_,_,_,hv⟩⟩,rfl⟩⟩;·cases o with|zero=>simp at hcs1;subst hcs1;refine .inr ⟨v,_,rfl,rfl,.inr (.inr ⟨g,cap,cur,e,sz,hv,hGg,hgg,hr.2.1,hz,hds,hcs,hcap,hml,fun i x hx j c hj=>?_⟩)⟩;obtain⟨u,hu,hru⟩:=hr.2.2 i x hx j c hj;refine⟨u,?_,hE1.rep hru⟩;grind|succ o=>simp_all
  .by_cases hb:b=g;·omega
   .rw[hG b hb]at e;exact hH.gdom b l k e
  .by_cases hb:b=g;·subst hb;exact h.amb b o hbase
   .rw[hG b hb]at e;exact hH.oamb b l k e o
  .obtain⟨u,h1,h2,h3⟩:=h.glob g' cs hg' j c hj;exact⟨u,(hE1.point h1 h2).1,(hE1.point h1 h2).2,hE1.rep h3⟩
def Cx.strike(X:Cx)(row:Option Nat):Cx:={X with G:=fun b=>if some b=row then none else X.G b}
theorem qt3{row:Option Nat}(hg:w.grownBy w' row)(hrow:∀g,row=some g->∃l,X.G g=some (l,0))(hu:w.cell? ⟨b,o,none⟩=some u)(hi:X.imm b o):w'.cell? ⟨b,o,none⟩=some u/\(X.strike row).imm b o:=by
 have hne:some b≠row:=fun e=>by obtain⟨l,hl⟩:=hrow b e.symm;have:=hi.2 l 0 hl;omega
 refine⟨(cell?_of_heap (hg.block b (World.block_lt_of_cell? w ⟨b,o,none⟩ hu) hne) o).trans hu,hi.1,fun l k e=>?_⟩;simp only[Cx.strike,hne,if_false]at e;exact hi.2 l k e
theorem qm1{xs:List D}(h:HRel E X [[.own xs false]] w)(hu:X.mu[0]?=some (.head u)){row:Option Nat}(hg:w.grownBy w' row)(hrow:∀g,row=some g->∃l,X.G g=some (l,0))(hr:Rep w' (X.strike row).imm d val):∃X1,(∃more,X1.mu=X.mu++more)/\Ext X w X1 w'/\HRel E X1 [[.undef]] w'/\ResRel w' X1 (.d d) val:=by
 have hlt:∀b l k,(X.strike row).G b=some (l,k)->X.G b=some (l,k)/\some b≠row:=fun b l k e=>by simp only[Cx.strike]at e;simp_all
 have hE:Ext X w (X.strike row) w':=by
  refine⟨rfl,hg.size,hg.os,hg.tape,hg.output,fun b hb hn=>⟨?_,hg.block b hb fun e=>?_⟩,fun b l k hk=>⟨fun l' k' e=>?_,fun o ho=>?_⟩⟩;·simp only[Cx.strike];simp_all
  .grind
  .grind
  .by_cases hne:some b=row;·grind
   .exact cell?_of_heap (hg.block b (h.gdom b l k hk) hne) o
 refine⟨X.strike row,⟨[],by simp[Cx.strike]⟩,hE,⟨fun t=>trivial,fun t ht=>by obtain⟨v,hv,hne⟩:=ht;exact absurd hv.symm hne,h.mu,fun o cs hcs=>?_,fun b l k e=>Nat.lt_of_lt_of_le (h.gdom b l k (hlt b l k e).1) hg.size,fun b o hb=>h.amb b o (Nat.le_trans hg.size hb),fun b l k e o=>h.oamb b l k (hlt b l k e).1 o,fun g cs hgl j c hj=>?_,rfl⟩,.inl ⟨⟨rfl,rfl,(fun _ e=>by cases e),hr⟩,rfl⟩⟩;·cases o with|zero=>simp at hcs;subst hcs;exact .inr ⟨u,_,hu,rfl,trivial⟩|succ o=>simp_all
 .obtain⟨u,h1,h2,h3⟩:=h.glob g cs hgl j c hj;exact⟨u,(hE.point h1 h2).1,(hE.point h1 h2).2,hE.rep h3⟩
end Go.Ab

namespace Go.Ab
open Classical
section
variable {α β : Type}
theorem q2v(x y:α)(r:List α):q0c (x::y::r)=if x=y then q0c (y::r)else x::q0c (y::r):=rfl
theorem qa2:∀(l:List α)(y x:α),q0c (l++[y]++[x])=if y=x then q0c (l++[y])else q0c (l++[y])++[x]
 |[],y,x=>by
  show q0c [y,x]=_;rw[q2v];by_cases h:y=x;·simp_all
  .simp[q0c,h]|[a],y,x=>by show q0c (a::y::[x])=_;rw[q2v,show [y,x]=[]++[y]++[x]from rfl,qa2 [] y x];show _=if y=x then q0c [a,y]else q0c [a,y]++[x];rw[q2v];by_cases h:y=x<;>by_cases h2:a=y<;>simp[h,h2]|a::b::l,y,x=>by have ih:=qa2 (b::l) y x;show q0c (a::b::(l++[y]++[x]))=if y=x then q0c (a::b::(l++[y]))else q0c (a::b::(l++[y]))++[x];rw[q2v,q2v];grind
theorem qc3{f:α->β}(hf:∀a b,f a=f b->a=b):∀l:List α,q0c (l.map f)=(q0c l).map f|[]=>rfl|[x]=>rfl|x::y::r=>by show q0c (f x::f y::r.map f)=_;rw[q2v,q2v];have ih:q0c (f y::r.map f)=(q0c (y::r)).map f:=qc3 hf (y::r);grind
theorem qei:∀(l:List α),(∀(j:Nat)x y,l[j]?=some x->l[j+1]?=some y->x≠y)->q0c l=l|[],_=>rfl|[x],_=>rfl|x::y::r,h=>by rw[q2v,if_neg (h 0 x y rfl rfl),qei (y::r) (fun j a b ha hb=>h (j+1) a b (by simp_all) (by simp_all))]
end
end Go.Ab

namespace Go.Ab
variable {P : Program}
theorem qax{ops:Array Oper}{rest:List Oper}{o:Oper}{a:Act}{w w':World}{Q:Exit->Act->World->Prop}(hgd:o.guard=none)(ty:TypeId)(x y:Operand)(ho:o.op=.store ty x y){b off:Nat}{v:Value}(hx:a.eval x=.pointer (some ⟨b,off,none⟩))(hy:a.eval y=v)(hr:(storeVar ty ⟨b,off,none⟩ v).run P w=.ok () w')(h:wpList P ops Q rest (a.put o.dst undef) w'):wpList P ops Q (o::rest) a w:=wpList_plain hgd fun _ hK=>by unfold Oper.wp execOp;simp only[ho,hx,hy,Instr.storeAt,Instr.sureAddr,Sem.run_bind,Sem.run_pure,Result.andThen_ok,hr];exact hK _ _ h
theorem qkt{ops:Array Oper}{rest:List Oper}{o:Oper}{a:Act}{w w':World}{Q:Exit->Act->World->Prop}(hgd:o.guard=none)(x:Operand)(t:TypeId)(ho:o.op=.call {callee:=.builtin .clear,args:=#[x],argTypes:=#[t]}){v:Value}(hx:a.eval x=v){r:Value}(hr:(Builtin.clear_ #[t] o.type #[v]).run P w=.ok r w')(h:wpList P ops Q rest (a.put o.dst r) w'):wpList P ops Q (o::rest) a w:=wpList_plain hgd fun _ hK=>by unfold Oper.wp execOp;simp only[ho,resolve,invoke,builtin,Sem.run_bind,Sem.run_pure,Result.andThen_ok,List.map_toArray,List.map_cons,List.map_nil,hx,hr];exact hK _ _ h
def q1e(cur:Array Value)(o:Nat)(us:List Value):Array Value:=(cur.toList.take o++us++cur.toList.drop (o+us.length)).toArray
theorem q3w(cur:Array Value)(o:Nat)(us:List Value)(h:o+us.length<=cur.size)(j:Nat):(q1e cur o us)[j]?=if o<=j/\j<o+us.length then us[j-o]? else cur[j]?:=by rw[q1e,List.getElem?_toArray,q6v _ _ _ _ (by omega)];simp
theorem q5f(cur:Array Value)(o:Nat)(us:List Value)(h:o+us.length<=cur.size):(q1e cur o us).size=cur.size:=by simp[q1e];omega
theorem World.grown_row{w w':World}{b:Nat}(cs:Array Value)(h:w.grownBy w' (some b)):w.grownBy (w'.setRow b cs) (some b):=⟨h.os,h.tape,h.output,by simpa using h.size,fun k hk hne=>by rw[setRow_other _ _ _ _ (fun e=>hne (by rw[e]))];exact h.block k hk hne⟩
theorem y4g{w:World}{t ty e e1:TypeId}{i:TypeInfo}(ht:P.underlying t=some (.slice e))(hi:P.info? e=some i){z:Value}(hz:i.zero=some z){g o n c:Nat}{cur:Array Value}(hg:w.heap[g]?=some (.cells cur e1 (0,0)))(hn:0<n)(h1:∀u∈(Builtin.zeroCells z.cells n).toList,u.oneCell'=true)(hfit:o+(Builtin.zeroCells z.cells n).toList.length<=cur.size):(Builtin.clear_ #[t] ty #[.slice (some ⟨g,o,none⟩) n c]).run P w=.ok (.tuple #[]) (w.setRow g (q1e cur o (Builtin.zeroCells z.cells n).toList)):=by have hst:=run_storeCells_at P g o e1 (Builtin.zeroCells z.cells n).toList 0 cur w hg (by omega) h1;simp only[Nat.add_zero]at hst;obtain⟨m,rfl⟩:∃m,n=m+1:=⟨n-1,by omega⟩;simp[Builtin.clear_,run_underlying ht,zeroValue,typeInfo,hi,hz,hst,q1e]
end Go.Ab
namespace Go.Ab
variable {P : Program}
theorem qoa(w:World)(tS tR e:TypeId)(ht:P.underlying tS=some (.slice e)){i:TypeInfo}(hi:P.info? e=some i)(a b:Addr)(la ca lb cb:Nat)(hne:a.block≠b.block){cA cB:Array Value}{tA tB:TypeId}{f:Nat×Nat}(hA:w.heap[a.block]?=some (.cells cA tA f))(hB:w.heap[b.block]?=some (.cells cB tB (0,0)))(h0:cB.size≠0)(h00:cA.size≠0):(Extern.SlicesOverlaps.overlaps #[tS,tS] #[tR] #[.slice (some a) la ca,.slice (some b) lb cb]).run P w=.ok (.bool false) w:=by
 have hnb:(a.block !=b.block)=true:=by simp_all
 have hnb':(a.block==b.block)=false:=by simp_all
 have sA:w.shape? a.block=some (tA,cA.size):=by simp[World.shape?,hA]
 have sB:w.shape? b.block=some (tB,cB.size):=by simp[World.shape?,hB]
 have fB:∀o,w.frozen? {block:=b.block,off:=o}=false:=fun o=>by simp[World.frozen?,hB]
 change Sem.run P (α:=Value) (do
  let some t:=(#[tS,tS]:Array TypeId)[0]?|stuck "slices.overlaps: no parameter types"
  let .slice elem<-underlying t|stuck "slices.overlaps: slice type expected"
  let size<-sizeOf elem match(some a:Option Addr),(some b:Option Addr)with|some a,some b=>if la=0\/lb=0\/size=0 then pure (Value.bool false)else if a.block !=b.block&&(<-frozen a)&&(<-frozen b)then unsupported .addressObserved else do
    if a.block !=b.block then do noView a;noView b if<-mayBeOne a b then return Value.bool ((<-choose (.extern "sameAddr.stringBytes" 2))==1)
    pure (Value.bool (a.block==b.block&&a.off<b.off+lb*size&&b.off<a.off+la*size))|_,_=>pure (Value.bool false)) w=_;by_cases hz:la=0\/lb=0\/i.size=0;·simp[run_underlying ht,sizeOf,typeInfo,hi,hz]
 .obtain⟨k,hk⟩:∃k,cB.size=k+1:=⟨cB.size-1,by omega⟩;obtain⟨k',hk'⟩:∃k,cA.size=k+1:=⟨cA.size-1,by omega⟩;rw[hk]at sB;rw[hk']at sA;have fb:w.frozen? b=false:=by simp[World.frozen?,hB]
  simp[run_underlying ht,sizeOf,typeInfo,hi,hz,hnb,hnb',frozen,noView,viewAt,mayBeOne,stringish,shape,Sem.run,sA,sB,fB,fb]
theorem qa7{w:World}{t u ty e e1:TypeId}{i:TypeInfo}(ht:P.underlying t=some (.slice e))(hi:P.info? e=some i){g o n1 c1 n2 c2 m:Nat}{cur:Array Value}(hg:w.heap[g]?=some (.cells cur e1 (0,0)))(ad:Addr)(news:List Value)(hm:min n2 n1=m)(hl:news.length=m*i.size)(hnews:∀(j:Nat)u,news[j]?=some u->w.cell? (ad.add j)=some u)(h1:∀u∈news,u.oneCell'=true)(hfit:o+news.length<=cur.size):(Builtin.copy_ #[t,u] ty #[.slice (some ⟨g,o,none⟩) n1 c1,.slice (some ad) n2 c2]).run P w=.ok (goInt (m:Int)) (w.setRow g (q1e cur o news)):=by subst hm;exact qjv ht hi hg ad news hl hnews h1 hfit
theorem qdy{ops:Array Oper}{rest:List Oper}{o:Oper}{a:Act}{w:World}{Q:Exit->Act->World->Prop}(hgd:o.guard=none)(d s:Operand)(t t':TypeId)(ho:o.op=.call {callee:=.builtin .copy,args:=#[d,s],argTypes:=#[t,t']})(v u:Value)(hd:a.eval d=v)(hs:a.eval s=u){v':Value}{w':World}(hr:(Builtin.copy_ #[t,t'] o.type #[v,u]).run P w=.ok v' w')(h:wpList P ops Q rest (a.put o.dst v') w'):wpList P ops Q (o::rest) a w:=wpList_plain hgd fun _ hK=>by unfold Oper.wp execOp;simp only[ho,resolve,invoke,builtin,Sem.run_bind,Sem.run_pure,Result.andThen_ok,List.map_toArray,List.map_cons,List.map_nil,hd,hs,hr];exact hK _ _ h
theorem qjj{ops:Array Oper}{o:Oper}{a:Act}{w:World}{K:Act->World->Prop}{Q:Exit->Act->World->Prop}{E:Prop}(hg:o.guard=none)(d x:Operand)(dT sT:TypeId)(hop:o.op=Op.call {callee:=Callee.builtin Builtin.copy,args:=#[d,x],argTypes:=#[dT,sT]})(v u:Value)(hd:a.eval d=v)(hx:a.eval x=u){v':Value}{w':World}(hr:(Builtin.copy_ #[dT,sT] o.type #[v,u]).run P w=.ok v' w')(hK:K (a.put o.dst v') w'):if Region.wanted o (yielded ops a.tmps)=true then Oper.wp P o a w K Q else E:=by
 have hw:Region.wanted o (yielded ops a.tmps)=true:=by simp[Region.wanted,hg]
 rw[if_pos hw];unfold Oper.wp;simp[execOp,hop,resolve,invoke,builtin,hd,hx,hr,Result.andThen];exact hK
end Go.Ab

namespace Go.Ab
variable {E : Env0} {X : Cx} {s : St} {a : Act} {w : World}
def qrq(E:Env0)(check:Nat->Nat->Array Oper->Bool):Prop:=∀h,E.ok h=true->∃fn c,E.P.funcs[h]?=some fn/\fn.body=some c/\fn.name≠ "runtime.NumGoroutine"/\(E.seek h=none->E.lib h=none->q5w check h fn.ntmps c=true)
theorem qcg:∀(vs:List AV)(k t:Nat),get (q2o k vs) t=if k<=t then(vs[t-k]?).getD .undef else .undef
 |[],k,t=>by simp[q2o,get]|v::r,k,t=>by
  simp only[q2o,get];split;·simp_all
  .rename_i h;rw[qcg r (k+1) t];grind
theorem y15{check:Nat->Nat->Array Oper->Bool}(hb:qrq E check)(hd:qy5 E check)(hsk:qrt E){n:Nat}(hcall:∀m,m<n->q4h E m)(hcn:q8s E n):q8s E (n+1):=by
 intro h vs hp v hp' hc X w args hR hargs;simp only[call]at hc;split at hc
 .rename_i hok;split at hc
  .rename_i m hm;split at hc
   .rename_i g k hk;split at hc;·rename_i v1 hg;exact hsk.2.2 h g k hk vs hp v1 v hp' (qtx hc) X w args hR hargs fun w' h1 h2=>hcn g vs hp v1 [] hg X w' args h1 h2
    .cases hc
   .exact hsk.2.1 h m hm vs hp v hp' (qtx hc) X w args hR hargs
  rename_i hnolib;split at hc
  .rename_i nx xs hxs;split at hc
   .split at hc;·rename_i ht;rw[aT]at ht;exact y0i (fun h hk=>let⟨fn,c,g1,g2,g3,_⟩:=hb h hk;⟨fn,c,g1,g2,g3⟩) hcn (hsk.1 h nx xs hxs).1 (hsk.1 h nx xs hxs).2 ht.2 hc hR hargs
    .cases hc
   .cases hc
  rename_i hnosk;obtain⟨fn,c,hf,hbody,hname,hcode0⟩:=hb h hok;have hcode:=hcode0 hnosk hnolib;simp only[hf,hbody]at hc;split at hc
  .rename_i hle;refine calls_of_wp hf hbody ?_;have hsz:(args++Array.replicate (fn.ntmps-args.size) undef).size=fn.ntmps:=by have:=hargs.1;simp;omega
   have hR0:Rel E X {env:=q2o 0 vs,heap:=hp} {tmps:=args++Array.replicate (fn.ntmps-args.size) undef,defers:=[]} w:=by
    refine⟨fun t=>?_,fun t ht=>?_,hR.mu,hR.heap,hR.gdom,hR.amb,hR.oamb,hR.glob,rfl⟩;·show RVe _ _ _ _ _ (get (q2o 0 vs) t) _;rw[qcg];simp only[Nat.zero_le,if_true,Nat.sub_zero];cases hv:vs[t]? with|none=>trivial|some u=>
      obtain⟨g1,g2⟩:=hargs.2 t u hv;have hlt:t<args.size:=by rw[hargs.1];exact(List.getElem?_eq_some_iff.1 hv).1
      have e:(args++Array.replicate (fn.ntmps-args.size) undef).getD t undef=args.getD t undef:=by simp[Array.getD_eq_getD_getElem?,Array.getElem?_append_left hlt]
      simp only[Option.getD_some];rw[e];exact q1d (qfx (RVl.copy g1 g2))
    .obtain⟨u,hu,hne⟩:=ht;rw[hsz];have hu':get (q2o 0 vs) t=u:=hu;rw[qcg]at hu';simp only[Nat.zero_le,if_true,Nat.sub_zero]at hu';cases hv:vs[t]? with|none=>rw[hv]at hu';exact absurd hu'.symm hne|some u'=>exact Nat.lt_of_lt_of_le (List.getElem?_eq_some_iff.1 hv).1 hle
   have hb':q9g E:=fun h hk=>let⟨fn,c,g1,g2,g3,_⟩:=hb h hk;⟨fn,c,g1,g2,g3⟩;cases hnil:q8c E.P fn c with
   |none=>
    have hro:qe0 E.P fn c=c:=by simp[qe0,hnil]
    have hgn:∀r,q48 E.P fn c vs hp r=r:=fun r=>by simp[q48,hnil]
    simp only[hro,hgn]at hc;cases hex:exec E h hp.length n c {env:=q2o 0 vs,heap:=hp}with|none=>simp[hex]at hc|some q=>
     obtain⟨r,s1⟩:=q;have hw:=(qi7 hb' hd n hcall).1 h hp.length c _ s1 r hex X _ w (by rw[show X.mu.length=hp.length from hR.mu];exact Nat.le_refl _) (by rw[hsz];exact hcode) hR0;refine wp_mono hw ?_;rintro e a1 w1⟨rfl,hsz1,X1,hm,hml,hE,hR1⟩;have fin:qbh (E.an.own h) E.P fn hp.length s1=some (v,hp')->a1.defers=[]/\∃val,(results fn a1.tmps).run E.P w1=.ok val w1/\∃val',Ending.returned val=.returned val'/\∃X2,(∃more,X2.mu=X.mu++more)/\Ext X w X2 w1/\HRel E X2 hp' w1/\ResRel w1 X2 v val':=by
      intro hl;have hk:hp.length<=s1.heap.length:=by rw[<-hR1.mu,<-show X.mu.length=hp.length from hR.mu];exact hml
      obtain⟨val,g1,X2,⟨m2,g2⟩,g4,g5,g6⟩:=qji hR1 hk hl;refine⟨hR1.defers,val,g1,val,rfl,X2,⟨m2,?_⟩,Ext.trans hR.gdom hE g4,g5,g6⟩;rw[g2,hm,<-show X.mu.length=hp.length from hR.mu,List.take_length]
     rw[hex]at hc;cases r with|normal=>exact fin hc|ret=>exact fin hc|exit id=>cases hc
   |some rest=>
    have hro:qe0 E.P fn c=rest:=by simp[qe0,hnil]
    rw[hro]at hc;obtain⟨r,s1,hex,hl⟩:∃r s1,exec E h hp.length n rest {env:=q2o 0 vs,heap:=hp}=some (r,s1)/\(r=.normal\/r=.ret)/\q48 E.P fn c vs hp (qbh (E.an.own h) E.P fn hp.length s1)=some (v,hp'):=by cases hex:exec E h hp.length n rest {env:=q2o 0 vs,heap:=hp}with|none=>simp[hex]at hc|some q=>obtain⟨r,s1⟩:=q;rw[hex]at hc;cases r with|normal=>exact⟨_,_,rfl,.inl rfl,hc⟩|ret=>exact⟨_,_,rfl,.inr rfl,hc⟩|exit id=>cases hc
    obtain⟨hr,hg⟩:=hl;obtain⟨xs,rfl,rfl,hemp⟩:=qre hnil hg;have hlv:=qaj hg;have hlen:args.size=1:=by rw[hargs.1];rfl
    have hrep:Rep w X.imm (.list xs) (args.getD 0 undef):=(hargs.2 0 _ rfl).2;have e0:(args++Array.replicate (fn.ntmps-args.size) undef).getD 0 undef=args.getD 0 undef:=by simp[Array.getD_eq_getD_getElem?,Array.getElem?_append_left (show 0<args.size by omega)]
    obtain⟨ad,cap,hval⟩:∃ad cap,args.getD 0 undef=.slice ad xs.length cap:=by generalize args.getD 0 undef=u at hrep;cases hrep with|empty a0 c0=>exact⟨a0,c0,rfl⟩|list _ b off cap sz V hs hc hh hrr=>exact⟨_,cap,rfl⟩
    refine y08 hnil (by rw[hsz];exact hcode) (by rw[e0,hval]) (by rw[hsz];exact hle) (fun hn a' r0 hr0 hd0 hv0=>?_) (fun a' h0 hz hd0 hcr=>?_)
    .subst hn;have hx:xs=[]:=by rw[hval]at hrep;cases hrep with|empty a0 c0=>rfl
     obtain⟨rfl,rfl⟩:=Prod.mk.inj (hemp hx);obtain⟨val,g1,X1,g2,g3,g4,g5⟩:=y9h (E:=E) hR hr0 hv0;exact⟨hd0,val,g1,val,rfl,X1,g2,g3,g4,g5⟩
    .have hR1:Rel E X {env:=q2o 0 [.d (.list xs)],heap:=[]} a' w:=rel0 hR hrep (by rw[h0,hval]) (by rw[hz,hsz];exact hle) hd0;have hw:=(qi7 hb' hd n hcall).1 h 0 rest _ s1 r hex X a' w (Nat.zero_le _) (by rw[hz];exact hcr) hR1;refine wp_mono hw ?_;rintro e a1 w1⟨rfl,hsz1,X1,hm,hml,hE,hR2⟩;obtain⟨val,g1,X2,⟨m2,g2⟩,g4,g5,g6⟩:=qji hR2 (Nat.zero_le _) hlv;have fin:a1.defers=[]/\∃val,(results fn a1.tmps).run E.P w1=.ok val w1/\∃val',Ending.returned val=.returned val'/\∃X2,(∃more,X2.mu=X.mu++more)/\Ext X w X2 w1/\HRel E X2 hp' w1/\ResRel w1 X2 v val':=by refine⟨hR2.defers,val,g1,val,rfl,X2,⟨m2,?_⟩,Ext.trans hR.gdom hE g4,g5,g6⟩;have hmu0:X.mu=[]:=List.length_eq_zero_iff.1 hR.mu;rw[g2,hmu0];rfl
     rcases hr with rfl|rfl;·exact fin
     .exact fin
  .cases hc
 simp_all
def labIn(objs:List Nat):Loc->Option Loc|.blk o=>if o∈objs then some (.blk (objs.idxOf o))else none|.cell o j=>if o∈objs then some (.cell (objs.idxOf o) j)else none|_=>none
def qk4(back:Nat->Nat):Loc->Option Loc|.blk i=>some (.blk (back i))|.cell i j=>some (.cell (back i) j)|.res j=>some (.res j)|_=>none
def Cx.into(X:Cx)(w:World)(objs:List Nat):Cx:={mu:=objs.map fun o=>X.mu.getD o (.blk 0),G:=(X.remap (labIn objs)).G,amb:=fun b o=>X.imm b o\/w.heap.size<=b\/((X.remap (labIn objs)).G b).isSome=true}
def Cx.outOf(X:Cx)(w:World)(objs:List Nat)(back:Nat->Nat)(X1:Cx):Cx:={mu:=X.mu++X1.mu.drop objs.length,G:=fun b=>if decide (b<w.heap.size)&&((X.into w objs).G b).isNone then X.G b else(X1.remap (qk4 back)).G b,amb:=X.amb}
theorem q9n{X:Cx}{φ:Loc->Option Loc}{b:Nat}{l:Loc}{k:Nat}(h:(X.remap φ).G b=some (l,k)):∃l0,X.G b=some (l0,k)/\φ l0=some l:=by
 simp only[Cx.remap]at h;split at h;·rename_i l0 k0 h0;cases hl:φ l0 with|none=>simp[hl]at h|some l1=>simp[hl]at h;obtain⟨rfl,rfl⟩:=h;exact⟨l0,h0,hl⟩
 grind
theorem ql6{objs:List Nat}{b o:Nat}(h:X.imm b o):(X.into w objs).imm b o:=⟨.inl h,fun _l k e=>let⟨l0,h0,_⟩:=q9n e;h.2 l0 k h0⟩
theorem qqo{objs:List Nat}{d:D}{v:Value}(h:Rep w X.imm d v):Rep w (X.into w objs).imm d v:=h.mono fun _ _ _ h1 h2=>⟨h1,ql6 h2⟩
section outside
variable {objs : List Nat}
theorem qr8(_hn:objs.Nodup){p:Nat}{b:Home}(hp:p∈objs)(hb:X.mu[p]?=some b):(X.into w objs).mu[objs.idxOf p]?=some b:=by show(objs.map fun o=>X.mu.getD o (.blk 0))[objs.idxOf p]?=some b;grind
theorem ybs(h:Rel E X s a w)(hn:objs.Nodup)(hcl:∀o∈objs,∀cs,s.heap[o]?=some cs->∀c∈cs,∀p∈q05 c,p∈objs){hs:Heap}(hhs:q4e s.heap objs=some hs):HRel E (X.into w objs) (hs.map fun cs=>cs.map (renAV (objs.idxOf ·))) w:=by
 obtain⟨hlen,hget⟩:=q82 hhs;refine⟨fun t=>trivial,fun t ht=>?_,?_,fun i cs' hcs'=>?_,fun b l k e=>?_,fun b o hb=>.inr (.inl hb),fun b l k e o=>.inr (.inr (by show((X.into w objs).G b).isSome=true;simp_all)),fun g cs hg j c hj=>?_,rfl⟩;·obtain⟨v,hv,hne⟩:=ht;exact absurd hv.symm hne
 .show(objs.map _).length=(hs.map _).length;simp_all
 .have hi:i<objs.length:=by grind
  obtain⟨cs,h1,h2⟩:=hget i objs[i] (by simp);have hio:objs.idxOf objs[i]=i:=yct hn (by simp);have hmem:objs[i]∈objs:=List.getElem_mem hi;have e:cs'=cs.map (renAV (objs.idxOf ·)):=by simp_all
  subst e;have leaf:∀(j:Nat)c0 v,cs[j]?=some c0->RVl w X (.cell objs[i] j) c0 v->RVl w (X.into w objs) (.cell i j) (renAV (objs.idxOf ·) c0) v:=by intro j c0 v hc hr;refine RVl.ren (fun d u hr=>qqo hr) (fun b o u h1 h2=>⟨h1,ql6 h2⟩) (fun p hp b hb=>qr8 hn (hcl _ hmem cs h1 c0 (List.mem_of_getElem? hc) p hp) hb) (fun _ b k e=>⟨?_,rfl⟩) hr;show(X.remap (labIn objs)).G b=_;rw[Cx.remap_some e];simp only[labIn,hmem,if_true,mS,hio]
  rcases h.heap objs[i] cs h1 with⟨b,cur,e,g1,g2,g3,g4,g5⟩|⟨v,c,g1,rfl,g2⟩
  .refine .inl ⟨b,cur,e,?_,?_,g3,by simpa using g4,fun j c hj=>⟨?_,trivial⟩⟩;·have:=qr8 (w:=w) hn hmem g1;rwa [hio]at this
   .show(X.remap (labIn objs)).G b=_;rw[Cx.remap_some g2];simp only[labIn,hmem,if_true,mS,hio]
   grind
  .refine .inr ⟨v,_,?_,rfl,leaf 0 c v rfl g2⟩;have:=qr8 (w:=w) hn hmem g1;simp_all
 .obtain⟨l0,h0,_⟩:=q9n (X:=X) (φ:=labIn objs) e;exact h.gdom b l0 k h0
 .obtain⟨u,h1,h2,h3⟩:=h.glob g cs hg j c hj;exact⟨u,h1,ql6 h2,qqo h3⟩
theorem y3c(hn:objs.Nodup){vs:List AV}{args:Array Value}(h:ArgRel w X vs args)(hp:∀v∈vs,∀p∈q05 v,p∈objs):ArgRel w (X.into w objs) (vs.map (renAV (objs.idxOf ·))) args:=by refine⟨by simpa using h.1,fun i v hi=>?_⟩;rw[List.getElem?_map]at hi;cases hv:vs[i]? with|none=>simp_all|some u=>
  rw[hv]at hi;simp only[mS,sI]at hi;subst hi;obtain⟨g1,g2⟩:=h.2 i u hv;have g3:(renAV (fun x=>objs.idxOf x) u).isOwn=false:=by cases u<;>first|rfl|cases g1
  refine⟨g3,?_⟩;exact RVl.ren (fun d u hr=>qqo hr) (fun b o u h1 h2=>⟨h1,ql6 h2⟩) (fun p hpp b hb=>qr8 hn (hp u (List.mem_of_getElem? hv) p hpp) hb) (fun ho=>by simp_all) g2
end outside
end Go.Ab

namespace Go.Ab
variable {b k n o : Nat} {l : Loc} {v : AV} {val : Value}
variable {E : Env0} {X : Cx} {s : St} {a : Act} {w : World} {objs : List Nat}
theorem y75(h:Rel E X s a w)(hi:(X.into w objs).amb b o):X.amb b o:=by
 rcases hi with h1|h1|h1;·exact h1.1
 .exact h.amb b o h1
 .obtain⟨⟨l,k⟩,hl⟩:=Option.isSome_iff_exists.1 h1;obtain⟨l0,h0,_⟩:=q9n hl;exact h.oamb b l0 k h0 o
structure Out(E:Env0)(X:Cx)(s:St)(a:Act)(w:World)(objs:List Nat)(X1:Cx)(h':Heap)(w1:World):Prop where
 rel:Rel E X s a w
 nodup:objs.Nodup
 there:∀o∈objs,o<s.heap.length
 mu:∃more,X1.mu=(X.into w objs).mu++more
 ext:Ext (X.into w objs) w X1 w1
 h:HRel E X1 h' w1
variable {X1 : Cx} {h' : Heap} {w1 : World}
theorem Out.len(hO:Out E X s a w objs X1 h' w1):X1.mu.length=h'.length/\objs.length<=h'.length:=by have e:X1.mu.length=h'.length:=hO.h.mu;obtain⟨more,hm⟩:=hO.mu;refine⟨e,?_⟩;rw[<-e,hm,List.length_append];show objs.length<=(objs.map _).length+_;simp
theorem Out.keep{back:Nat->Nat}(hb:b<w.heap.size)(hg:(X.into w objs).G b=none):(X.outOf w objs back X1).G b=X.G b:=by simp[Cx.outOf,hb,hg]
theorem Out.take(hO:Out E X s a w objs X1 h' w1){back:Nat->Nat}(hg:X1.G b=some (l,k)):(X.outOf w objs back X1).G b=(qk4 back l).map fun l'=>(l',k):=by
 have hc:(decide (b<w.heap.size)&&((X.into w objs).G b).isNone)=false:=by cases hd:(decide (b<w.heap.size)&&((X.into w objs).G b).isNone)with|false=>rfl|true=>simp only[aT,dT',Option.isNone_iff_eq_none]at hd;have:=(hO.ext.free b hd.1 hd.2).1;simp_all
 show(if _ then _ else _)=_;rw[hc];simp only[fT,if_false];exact Cx.remap_some hg
theorem Out.cases{back:Nat->Nat}(hg:(X.outOf w objs back X1).G b=some (l,k)):(b<w.heap.size/\(X.into w objs).G b=none/\X.G b=some (l,k))\/∃l0,X1.G b=some (l0,k)/\qk4 back l0=some l:=by
 have hg':(if decide (b<w.heap.size)&&((X.into w objs).G b).isNone then X.G b else(X1.remap (qk4 back)).G b)=some (l,k):=hg;split at hg';·simp_all
 .exact .inr (q9n hg')
theorem Out.amb1(hO:Out E X s a w objs X1 h' w1)(h:X1.amb b o):X.amb b o:=y75 hO.rel (by rw[<-hO.ext.amb];exact h)
theorem Out.imm(hO:Out E X s a w objs X1 h' w1){back:Nat->Nat}(h:X1.imm b o):(X.outOf w objs back X1).imm b o:=by
 refine⟨hO.amb1 h.1,fun l k hg=>?_⟩;rcases Out.cases hg with⟨h1,h2,h3⟩|⟨l0,h1,_⟩
 .have ha:(X.into w objs).amb b o:=by rw[<-hO.ext.amb];exact h.1
  rcases ha with h4|h4|h4;·exact h4.2 l k h3
  .omega
  .have h2':(X.remap (labIn objs)).G b=none:=h2;simp_all
 .exact h.2 l0 k h1
theorem Out.rep(hO:Out E X s a w objs X1 h' w1){back:Nat->Nat}{d:D}{v:Value}(h:Rep w1 X1.imm d v):Rep w1 (X.outOf w objs back X1).imm d v:=h.mono fun _ _ _ h1 h2=>⟨h1,hO.imm h2⟩
theorem Out.extC(hO:Out E X s a w objs X1 h' w1)(back:Nat->Nat):Ext X w (X.outOf w objs back X1) w1:=by
 refine⟨rfl,hO.ext.size,hO.ext.os,hO.ext.tape,hO.ext.output,fun b hb hg=>?_,fun b l k hg=>?_⟩
 .have hn:(X.into w objs).G b=none:=by show(X.remap (labIn objs)).G b=none;simp[Cx.remap,hg]
  exact⟨by rw[Out.keep hb hn];omega,(hO.ext.free b hb hn).2⟩
 .have hb:=hO.rel.gdom b l k hg;cases hn:(X.into w objs).G b with|none=>refine⟨fun l' k' e=>?_,fun o _=>cell?_of_heap (hO.ext.free b hb hn).2 o⟩;rw[Out.keep hb hn,hg]at e;simp_all|some y=>
   obtain⟨l',k'⟩:=y;obtain⟨l0,h0,_⟩:=q9n (X:=X) (φ:=labIn objs) hn;rw[hg]at h0;cases h0;obtain⟨g1,g2⟩:=hO.ext.own b l' k hn;refine⟨fun l2 k2 e=>?_,g2⟩;rcases Out.cases e with⟨_,h2,_⟩|⟨l3,h3,_⟩;·rw[hn]at h2;cases h2
   simp_all
theorem Out.unseen(hO:Out E X s a w objs X1 h' w1){back:Nat->Nat}(hg:X.G b=some (l,k))(hl:labIn objs l=none):(X.outOf w objs back X1).G b=some (l,k)/\w1.heap[b]?=w.heap[b]?:=by
 have hb:=hO.rel.gdom b l k hg;have hn:(X.into w objs).G b=none:=by show(X.remap (labIn objs)).G b=none;rw[Cx.remap_some hg,hl];rfl
 exact⟨by rw[Out.keep hb hn];omega,(hO.ext.free b hb hn).2⟩
theorem Out.muKeep{back:Nat->Nat}{b:Home}(h:X.mu[o]?=some b):(X.outOf w objs back X1).mu[o]?=some b:=by show(X.mu++_)[o]?=some b;grind
theorem Out.muBack(hO:Out E X s a w objs X1 h' w1){p:Nat}{b:Home}(hb:X1.mu[p]?=some b):(X.outOf w objs (q0u objs s.heap.length) X1).mu[q0u objs s.heap.length p]?=some b:=by
 obtain⟨more,hm⟩:=hO.mu;have hlen:(X.into w objs).mu.length=objs.length:=by show(objs.map _).length=_;simp
 by_cases hp:p<objs.length
 .have ho:objs[p]?=some objs[p]:=by simp[hp]
  have e:q0u objs s.heap.length p=objs[p]:=by simp[q0u,ho]
  rw[e];refine Out.muKeep ?_;rw[hm,List.getElem?_append_left (by rw[hlen];exact hp)]at hb;have hb':(objs.map fun o=>X.mu.getD o (.blk 0))[p]?=some b:=hb;rw[List.getElem?_map,ho]at hb';simp only[mS,sI]at hb';have hlt:objs[p]<X.mu.length:=by rw[hO.rel.mu];exact hO.there _ (List.getElem_mem hp)
  simp_all
 .have ho:objs[p]?=none:=by simp;omega
  have e:q0u objs s.heap.length p=s.heap.length+(p-objs.length):=by simp[q0u,ho]
  rw[e];show(X.mu++X1.mu.drop objs.length)[_]?=some b;rw[List.getElem?_append_right (by rw[hO.rel.mu];omega),hO.rel.mu,List.getElem?_drop];simp_all
theorem Out.leaf(hO:Out E X s a w objs X1 h' w1){l':Loc}{c:AV}{v:Value}(hl:c.isOwn=true->qk4 (q0u objs s.heap.length) l=some l')(h:RVl w1 X1 l c v):RVl w1 (X.outOf w objs (q0u objs s.heap.length) X1) l' (renAV (q0u objs s.heap.length) c) v:=RVl.ren (fun _ _ hr=>hO.rep hr) (fun _ _ _ h1 h2=>⟨h1,hO.imm h2⟩) (fun _ _ _ hb=>hO.muBack hb) (fun ho b k e=>⟨by rw[hO.take e,hl ho];rfl,rfl⟩) h
theorem Out.home(hO:Out E X s a w objs X1 h' w1){i:Nat}{cs0:List AV}(hback:q0u objs s.heap.length i=o)(h:HomeOk w1 X1 i cs0):HomeOk w1 (X.outOf w objs (q0u objs s.heap.length) X1) o (cs0.map (renAV (q0u objs s.heap.length))):=by
 rcases h with⟨b,cur,e,g1,g2,g3,g4,g5⟩|⟨v,c,g1,rfl,g2⟩
 .have hmu:=hO.muBack g1;rw[hback]at hmu;refine .inl ⟨b,cur,e,hmu,?_,g3,by simp_all,fun j c hj=>⟨?_,trivial⟩⟩;·rw[hO.take g2];simp[qk4,hback]
  .rw[List.getElem?_map]at hj;cases hc:cs0[j]? with|none=>simp_all|some c0=>rw[hc]at hj;simp only[mS,sI]at hj;subst hj;exact hO.leaf (fun _=>by simp[qk4,hback]) (g5 j c0 hc).1
 .have hmu:=hO.muBack g1;rw[hback]at hmu;exact .inr ⟨v,_,hmu,rfl,hO.leaf (fun _=>by simp[qk4,hback]) g2⟩
theorem y0x(_hO:Out E X s a w objs X1 h' w1):(q4c s objs h').heap.length=s.heap.length+(h'.length-objs.length):=by simp[q4c,q45]
theorem qpm(_hO:Out E X s a w objs X1 h' w1)(ho:o<s.heap.length)(hn:o∉objs):(q4c s objs h').heap[o]?=s.heap[o]?:=by simp only[q4c];rw[List.getElem?_append_left (by rw[q45];omega),q70 _ _ _ _ hn]
theorem Out.relC(hO:Out E X s a w objs X1 h' w1):Rel E (X.outOf w objs (q0u objs s.heap.length) X1) (q4c s objs h') a w1:=by
 have h:=hO.rel;obtain⟨hl1,hl2⟩:=hO.len;have hE:=hO.extC (q0u objs s.heap.length);have hkeep:∀(o:Nat)b,X.mu[o]?=some b->(X.outOf w objs (q0u objs s.heap.length) X1).mu[o]?=some b:=fun o b hb=>Out.muKeep hb;have hnew:=y0x hO;have hown:∀u,(content (q4c s objs h') (.slot u)).isOwn=true->content (q4c s objs h') (.slot u)=content s (.slot u):=by
  intro u hu;show get (q11 objs s.env) u=get s.env u;have hu':(get (q11 objs s.env) u).isOwn=true:=hu;rw[q10]at hu'⊢;split;·rename_i hh;rw[if_pos hh]at hu';cases hu'
  rfl
 have hcell:∀o off,o<s.heap.length->o∉objs->content (q4c s objs h') (.cell o off)=content s (.cell o off):=by intro o off ho hn;show q0i (q4c s objs h').heap o off=q0i s.heap o off;simp only[q0i,qpm hO ho hn]
 have hcv:∀o off,o<s.heap.length->o∉objs->cval (X.outOf w objs (q0u objs s.heap.length) X1) a w1 (.cell o off)=cval X a w (.cell o off):=by intro o off ho hn;exact(h.heap o s.heap[o] (by simp)).cval_eq hkeep (fun b k g2=>hO.unseen (back:=q0u objs s.heap.length) g2 (by simp[labIn,hn]))
 refine⟨fun t=>?_,fun t ht=>?_,?_,fun o cs hcs=>?_,fun b l k e=>?_,fun b o hb=>?_,fun b l k e o=>?_,fun g cs hg j c hj=>?_,h.defers⟩
 .show RVe _ _ _ _ _ (get (q11 objs s.env) t) _;rw[q10];split;·trivial
  .rename_i hh;have ht:=h.env t;generalize get s.env t=c at ht hh;cases c with
   |loc p=>cases p with|slot u=>exact⟨fun o off e=>(by cases e),fun ho=>ht.2 (by grind)⟩|cell o off=>
     have ho:o<s.heap.length:=ht.1 o off rfl;have hn:o∉objs:=by simpa[hits,AV.placed,qa6]using hh
     exact⟨fun o' off' e=>(by grind),fun hc=>by rw[hcv o off ho hn];exact ht.2 (by simp_all)⟩
   |elt p i off'=>cases p with|slot u=>exact⟨fun o off e=>(by cases e),fun xs l hc=>ht.2 xs l (by rw[<-hown u (by rw[hc];rfl)];omega)⟩|cell o off=>
     have ho:o<s.heap.length:=ht.1 o off rfl;have hn:o∉objs:=by simpa[hits,AV.placed,qa6]using hh
     exact⟨fun o' off' e=>(by grind),fun xs l hc=>by rw[hcv o off ho hn];exact ht.2 xs l (by simp_all)⟩
   |seg p i off'=>cases p with|slot u=>exact⟨fun o off e=>(by cases e),fun xs l hc=>ht.2 xs l (by rw[<-hown u (by rw[hc];rfl)];omega)⟩|cell o off=>
     have ho:o<s.heap.length:=ht.1 o off rfl;have hn:o∉objs:=by simpa[hits,AV.placed,qa6]using hh
     exact⟨fun o' off' e=>(by grind),fun xs l hc=>by rw[hcv o off ho hn];exact ht.2 xs l (by simp_all)⟩
   |_=>exact q1d (RVs.ext hE hkeep (fun j b k e=>hO.unseen e rfl) (q38 rfl ht))
 .obtain⟨v,hv,hne⟩:=ht;have hv':get (q11 objs s.env) t=v:=hv;rw[q10]at hv';split at hv';·simp_all
  .exact h.bound t ⟨v,hv',hne⟩
 .show(X.mu++X1.mu.drop objs.length).length=_;rw[hnew];simp[h.mu,hl1]
 .by_cases ho:o<s.heap.length
  .by_cases hn:o∈objs
   .have hi:=y9i hn;have hil:objs.idxOf o<objs.length:=List.idxOf_lt_length_of_mem hn;have hback:q0u objs s.heap.length (objs.idxOf o)=o:=by simp[q0u,hi]
    have hcs':cs=(h'[objs.idxOf o]'(by omega)).map (renAV (q0u objs s.heap.length)):=by simp only[q4c]at hcs;rw[List.getElem?_append_left (by rw[q45];exact ho),qjm objs _ _ _ o hO.nodup hi ho (by simp;omega)]at hcs;grind
    rw[hcs'];exact hO.home hback (hO.h.heap (objs.idxOf o) (h'[objs.idxOf o]'(by omega)) (by simp))
   .rw[qpm hO ho hn]at hcs;exact(h.heap o cs hcs).ext hE hkeep (fun b k g2=>hO.unseen (back:=q0u objs s.heap.length) g2 (by simp[labIn,hn])) (fun j c _ _ b k e=>hO.unseen e (by simp[labIn,hn]))
  .have hlt:o<s.heap.length+(h'.length-objs.length):=by grind
   have hq:objs.length+(o-s.heap.length)<h'.length:=by omega
   have hback:q0u objs s.heap.length (objs.length+(o-s.heap.length))=o:=by simp[q0u];omega
   have hcs':cs=(h'[objs.length+(o-s.heap.length)]).map (renAV (q0u objs s.heap.length)):=by simp only[q4c]at hcs;rw[List.getElem?_append_right (by rw[q45];omega),q45,List.getElem?_map,List.getElem?_drop]at hcs;simp_all
   rw[hcs'];exact hO.home hback (hO.h.heap (objs.length+(o-s.heap.length)) h'[objs.length+(o-s.heap.length)] (by simp))
 .rcases Out.cases e with⟨h1,_,_⟩|⟨l0,h1,_⟩;·exact Nat.lt_of_lt_of_le h1 hO.ext.size
  .exact hO.h.gdom b l0 k h1
 .exact h.amb b o (Nat.le_trans hO.ext.size hb)
 .rcases Out.cases e with⟨_,_,h3⟩|⟨l0,h1,_⟩;·exact h.oamb b l k h3 o
  .exact hO.amb1 (hO.h.oamb b l0 k h1 o)
 .obtain⟨u,h1,h2,h3⟩:=h.glob g cs hg j c hj;exact⟨u,(hE.point h1 h2).1,(hE.point h1 h2).2,hE.rep h3⟩
def qql(w:World)(X:Cx)(v:AV)(val:Value):Prop:=ResRel0 w X v val\/(∃xs,v=.own xs false/\OwnOk w X (.res 0) xs false val)\/∃xs u,v=.agg [.own xs false]/\val=.agg #[u]/\OwnOk w X (.res 0) xs false u
theorem HRel.adopt{X1:Cx}{h':Heap}{w1:World}{xs:List D}(hH:HRel E X1 h' w1)(hdr:h'.drop k=[[.own xs false]])(htr:q2r k h'=true)(hmu:X1.mu[k]?=some (.head val)):(∃X2,X2.mu=X1.mu.take k/\Ext X1 w1 X2 w1/\HRel E X2 (h'.take k) w1/\OwnOk w1 X2 (.res 0) xs false val)/\(∃X2,X2.mu=X1.mu.take k/\Ext X1 w1 X2 w1/\HRel E X2 (h'.take k) w1/\Rep w1 X2.imm (.list xs) val):=by
 have hcs:h'[k]?=some [.own xs false]:=by
  have:(h'.drop k)[0]?=some [.own xs false]:=by rw[hdr];rfl
  grind
 have hk:k<=h'.length:=Nat.le_of_lt (List.getElem?_eq_some_iff.1 hcs).1;have hH':Rel E X1 {env:=[],heap:=h'} {tmps:=#[],defers:=[]} w1:=hH;have hct:content {env:=[],heap:=h'} (.cell k 0)=.own xs false:=by simp[content,q0i,hcs]
 constructor
 .obtain⟨X3,val',hval,hmu1,hE1,hR1,hO1⟩:=hH'.moveOut hct;have hvv:val'=val:=by simp only[cval,hmu]at hval;simpa using hval.symm
  subst hvv;have htake:(setPlace {env:=[],heap:=h'} (.cell k 0) .undef).heap.take k=h'.take k:=by simp only[setPlace,q0z,hcs];rw[List.take_set_of_le (Nat.le_refl k)]
  have hlen1:(setPlace {env:=[],heap:=h'} (.cell k 0) .undef).heap.length=h'.length:=by simp only[setPlace,q0z];split<;>simp
  have htr1:q2r k (setPlace {env:=[],heap:=h'} (.cell k 0) .undef).heap=true:=by unfold q2r at htr⊢;rw[htake];exact htr
  have hR2:=hR1.trimAt (m:=k) (by omega) htr1;have hO2:OwnOk w1 (X3.trim k) (.res 0) xs false val':=OwnOk.ext (q1o X3 w1 k) (fun b k' e=>⟨by show(X3.remap (φtrim k)).G b=_;rw[Cx.remap_some e];rfl,rfl⟩) hO1;refine⟨X3.trim k,by show X3.mu.take k=_;rw[hmu1],Ext.trans hH'.gdom hE1 (q1o X3 w1 k),?_,hO2⟩;have:=hR2.toH;simp_all
 .have hR2:=hH'.trimAt (m:=k) hk htr;refine⟨X1.trim k,rfl,q1o X1 w1 k,hR2.toH,?_⟩;obtain⟨u,hu,hO⟩:=(hH'.heap k _ hcs).get (a:={tmps:=#[],defers:=[]}) (j:=0) rfl;have hvv:u=val:=by simp only[cval,hmu]at hu;simp_all
  subst hvv;exact OwnOk.frozen (l:=.cell k 0) (φ:=φtrim k) (by simp[φtrim]) hH'.oamb hO
theorem y6o(hc:q8s E n){keep:Bool}{h:FuncId}{vs:List AV}{hp:Heap}{h':Heap}(hcall:(call E n h vs hp).map (q7v keep hp.length)=some (v,h')){X:Cx}{w:World}{args:Array Value}(hH:HRel E X hp w)(hargs:ArgRel w X vs args):Calls E.P h args w fun e w'=>∃val,e=.returned val/\∃X1,(∃more,X1.mu=X.mu++more)/\Ext X w X1 w'/\HRel E X1 h' w'/\qql w' X1 v val:=by
 simp only[Option.map_eq_some_iff]at hcall;obtain⟨⟨v0,h0⟩,h1,h2⟩:=hcall;refine(hc h vs hp v0 h0 h1 X w args hH hargs).mono ?_;rintro e w1⟨val,rfl,X1,⟨more,hm⟩,hE,hH1,hr⟩;have plain:(v0,h0)=(v,h')->qgg v0=false->∃val',Ending.returned val=.returned val'/\∃X1,(∃more,X1.mu=X.mu++more)/\Ext X w X1 w1/\HRel E X1 h' w1/\qql w1 X1 v val':=by intro e hk;cases e;exact⟨val,rfl,X1,⟨more,hm⟩,hE,hH1,.inl (hr.plain hk)⟩
 have none:(AV.undef,h0)=(v,h')->∃val',Ending.returned val=.returned val'/\∃X1,(∃more,X1.mu=X.mu++more)/\Ext X w X1 w1/\HRel E X1 h' w1/\qql w1 X1 v val':=by intro e;cases e;exact⟨val,rfl,X1,⟨more,hm⟩,hE,hH1,.inl ⟨rfl,rfl,by simp,trivial⟩⟩
 unfold q7v at h2;split at h2
 .rename_i o hv0;simp only at hv0;subst hv0;split at h2
  .rename_i hcond;simp only[aT,dT']at hcond;split at h2
   .rename_i xs hdr;obtain⟨rfl,htr⟩:=hcond;have hmu:X1.mu[hp.length]?=some (.head val):=(hr.plain rfl).2.2.2.1;have hml:X.mu.length=hp.length:=hH.mu;have htk:X1.mu.take hp.length=X.mu++[]:=by simp_all
    obtain⟨⟨X2,a1,a2,a3,a4⟩,⟨X3,b1,b2,b3,b4⟩⟩:=hH1.adopt hdr htr hmu;cases keep with|true=>simp only[if_true,pI]at h2;obtain⟨rfl,rfl⟩:=h2;exact⟨val,rfl,X2,⟨[],by simp_all⟩,Ext.trans hH.gdom hE a2,a3,.inr (.inl ⟨xs,rfl,a4⟩)⟩|false=>simp only[fT,if_false,pI]at h2;obtain⟨rfl,rfl⟩:=h2;exact⟨val,rfl,X3,⟨[],by simp_all⟩,Ext.trans hH.gdom hE b2,b3,.inl ⟨rfl,rfl,by simp,b4⟩⟩
   .exact plain h2 rfl
  .exact plain h2 rfl
 .rename_i o o' hv0;simp only at hv0;subst hv0;split at h2
  .rename_i hcond;simp only[aT,dT']at hcond;split at h2
   .rename_i xs hdr;obtain⟨rfl,htr⟩:=hcond;rcases hr with⟨_,hk⟩|⟨k,u,hk,rfl,hu⟩;·cases hk
    simp only[AV.tup.injEq,List.cons.injEq,AV.ref.injEq,and_true]at hk;obtain⟨rfl,rfl⟩:=hk;have hmu:X1.mu[hp.length]?=some (.head u):=hu.1;have hml:X.mu.length=hp.length:=hH.mu;have htk:X1.mu.take hp.length=X.mu++[]:=by rw[hm,<-hml,List.take_left,List.append_nil]
    obtain⟨⟨X2,a1,a2,a3,a4⟩,⟨X3,b1,b2,b3,b4⟩⟩:=hH1.adopt hdr htr hmu;cases keep with|true=>simp only[if_true,pI]at h2;obtain⟨rfl,rfl⟩:=h2;exact⟨_,rfl,X2,⟨[],by rw[a1,htk]⟩,Ext.trans hH.gdom hE a2,a3,.inr (.inr ⟨xs,u,rfl,rfl,a4⟩)⟩|false=>simp only[fT,if_false,pI]at h2;obtain⟨rfl,rfl⟩:=h2;exact⟨_,rfl,X3,⟨[],by rw[b1,htk]⟩,Ext.trans hH.gdom hE b2,b3,.inl ⟨rfl,rfl,by simp,.agg _ _ rfl (fun j c hj=>by cases j with|zero=>simp at hj;subst hj;exact b4|succ j=>simp at hj)⟩⟩
   .exact none h2
  simp_all
 .rename_i n1 n2;exact plain h2 (by unfold qgg;simp)
theorem Out.res'(hO:Out E X s a w objs X1 h' w1)(hr:ResRel0 w1 X1 v val):RVe (X.outOf w objs (q0u objs s.heap.length) X1) (q4c s objs h') a w1 .res (qav (q0u objs s.heap.length) v) val:=by
 obtain⟨h1,h2,h3,h4⟩:=hr;have leaf:∀c,c.isOwn=false->RVl w1 X1 (.res 0) c val->(∀us,c≠.tup us)->RVe (X.outOf w objs (q0u objs s.heap.length) X1) (q4c s objs h') a w1 .res (qav (q0u objs s.heap.length) c) val:=by
  intro c hc hl ht;have:=hO.leaf (l:=.res 0) (l':=.res 0) (fun ho=>by rfl) hl;have e:qav (q0u objs s.heap.length) c=renAV (q0u objs s.heap.length) c:=by cases c<;>first|rfl|simp_all
  rw[e];exact q1d (qfx this)
 cases v with
 |agg cs=>simp_all|own xs l=>cases h1|loc p=>cases h2|elt p i off=>cases h2|seg p i off=>cases h2|tup us=>obtain⟨vs,hv,hn,hh⟩:=h4;refine⟨vs,hv,by simp_all,fun j c hj=>?_⟩;rw[List.getElem?_map]at hj;cases hc:us[j]? with|none=>simp_all|some c0=>rw[hc]at hj;simp only[mS,sI]at hj;subst hj;obtain⟨g1,g2⟩:=hh j c0 hc;refine⟨?_,hO.leaf (fun ho=>by rfl) g2⟩;cases c0<;>first|rfl|cases g1
 |_=>exact leaf _ rfl h4 (by simp)
theorem Out.res(hO:Out E X s a w objs X1 h' w1)(hr:qql w1 X1 v val):RVe (X.outOf w objs (q0u objs s.heap.length) X1) (q4c s objs h') a w1 .res (qav (q0u objs s.heap.length) v) val:=by
 rcases hr with hr|⟨xs,rfl,hr⟩|⟨xs,u,rfl,rfl,hr⟩;·exact hO.res' hr
 rotate_left;·exact q1d ⟨#[u],rfl,rfl,fun j c hj=>by cases j with|zero=>simp at hj;subst hj;exact hO.leaf (l:=.res 0) (l':=.res 0) (fun _=>rfl) (show RVl w1 X1 (.res 0) (.own xs false) u from hr)|succ j=>grind⟩
 .exact q1d (qfx (hO.leaf (l:=.res 0) (l':=.res 0) (fun _=>rfl) (show RVl w1 X1 (.res 0) (.own xs false) val from hr)))
theorem qxb(hc:q8s E n):q4h E (n+1):=by
 intro r h vs dst s s1 hp X a w args hR hargs hd;obtain⟨objs,hs,v,h',h1,h2,h3,h4,h5,rfl⟩:=q5g hp;obtain⟨hn,hsub,hcl⟩:=qpe _ h1 (qbe _ _ (by simp));have hvs:∀v∈vs,∀p∈q05 v,p∈objs:=fun v hv p hpp=>hsub p (qin _ _ p (List.mem_flatMap.2 ⟨v,hv,hpp⟩));have hthere:∀o∈objs,o<s.heap.length:=by intro o ho;obtain⟨i,hi⟩:=List.getElem?_of_mem ho;obtain⟨cs,h6,_⟩:=(q82 h3).2 i o hi;grind
 have hlh:objs.length=(hs.map fun cs=>cs.map (renAV (objs.idxOf ·))).length:=by rw[List.length_map,(q82 h3).1]
 rw[hlh]at h4;refine(y6o hc h4 (ybs hR hn hcl h3) (y3c hn hargs hvs)).mono ?_;rintro e w1⟨val,rfl,X1,hm,hE,hH,hr⟩;have hO:Out E X s a w objs X1 h' w1:=⟨hR,hn,hthere,hm,hE,hH⟩;refine⟨val,rfl,?_,fun hdr o b hb hmo=>?_,fun b t j k hg=>(hO.unseen (back:=q0u objs s.heap.length) hg rfl).2⟩;·have hRC:=hO.relC;have hv:=hO.res hr;have hEC:=hO.extC (q0u objs s.heap.length);cases dst with|none=>exact⟨rfl,_,⟨_,rfl⟩,hEC,hRC⟩|some t=>obtain⟨X3,m3,hE3,hR3⟩:=hRC.put (hd t rfl) hv;exact⟨q4z a _ _,X3,⟨X1.mu.drop objs.length,by rw[m3];rfl⟩,Ext.trans hR.gdom hEC hE3,hR3⟩
 .have hlt:o<s.heap.length:=by rw[<-hR.mu];grind
  obtain⟨cur,e,g2,g3,_⟩:=(hR.heap o s.heap[o] (by simp)).real hb;have hno:o∉objs:=fun hm=>by simp_all
  exact(hO.unseen (back:=q0u objs s.heap.length) g2 (by simp[labIn,hno])).2
theorem y4f{check:Nat->Nat->Array Oper->Bool}(hb:qrq E check)(hd:qy5 E check)(hsk:qrt E):∀n,q4h E n/\q8s E n:=by
 have hA0:q4h E 0:=fun r h vs dst s s1 hp=>by simp[callA]at hp
 have hC0:q8s E 0:=fun h vs hp v hp' hc=>by simp[call]at hc
 have key:∀n,∀m,m<=n->q4h E m/\q8s E m:=by intro n;induction n with|zero=>simp_all|succ n ih=>
   intro m hm;by_cases hlt:m<=n;·simp_all
   .have h1:m=n+1:=by omega
    subst h1;exact⟨qxb (ih n (Nat.le_refl _)).2,y15 hb hd hsk (fun j hj=>(ih j (by omega)).1) (ih n (Nat.le_refl _)).2⟩
 exact fun n=>key n n (Nat.le_refl _)
end Go.Ab

namespace Go.Ab
variable {E : Env0} {X : Cx} {s s1 : St} {a : Act} {w : World} {P : Program}
def Never{α:Type}(P:Program)(m:Sem α):Prop:=∀w x w',m.run P w≠.ok x w'
def Blind{α:Type}(P:Program)(m:Sem α):Prop:=(∃x,∀w,m.run P w=.ok x w)\/Never P m
theorem Blind.pure{α:Type}(x:α):Blind P (Pure.pure x:Sem α):=.inl ⟨x,fun _=>rfl⟩
theorem Never.halt{α:Type}(h:Halt):Never P (.halt h:Sem α):=fun w x w' e=>by simp_all
theorem Never.bind{α β:Type}{m:Sem α}{f:α->Sem β}(h:∀x,Never P (f x)):Never P (m>>=f):=by intro w y w' e;rw[Sem.run_bind]at e;cases hm:m.run P w with|ok x w1=>rw[hm]at e;exact h x w1 y w' e|halt x w1=>simp_all
theorem Never.bindL{α β:Type}{m:Sem α}{f:α->Sem β}(h:Never P m):Never P (m>>=f):=by intro w y w' e;rw[Sem.run_bind]at e;cases hm:m.run P w with|ok x w1=>exact h w x w1 hm|halt x w1=>simp_all
theorem Blind.stuck{α:Type}(s:String):Blind P (stuck s:Sem α):=.inr (Never.halt _)
theorem Blind.unsupported{α:Type}(u:Unsupported):Blind P (unsupported u:Sem α):=.inr (Never.halt _)
theorem Never.runtimePanic{α:Type}(e:RuntimeError):Never P (runtimePanic e:Sem α):=by refine Never.bind (fun p=>?_);cases e with|typeAssertion i c a m=>exact Never.bind fun _=>Never.bind fun _=>Never.halt _|panicNil=>exact Never.bind fun _=>Never.bind fun _=>Never.halt _|_=>exact Never.halt _
theorem Blind.runtimePanic{α:Type}(e:RuntimeError):Blind P (runtimePanic e:Sem α):=.inr (Never.runtimePanic e)
theorem Blind.boundsPanic{α:Type}(k:IntKind)(x y:Int)(c:BoundsCode):Blind P (boundsPanic k x y c:Sem α):=by
 refine .inr ?_;unfold Go.boundsPanic;dsimp only;split;·exact Never.bind fun _=>Never.runtimePanic _
 .exact Never.bind fun _=>Never.runtimePanic _
theorem Blind.bind{α β:Type}{m:Sem α}{f:α->Sem β}(hm:Blind P m)(hf:∀x,Blind P (f x)):Blind P (m>>=f):=by
 rcases hm with⟨x,hx⟩|hm
 .rcases hf x with⟨y,hy⟩|hy;·exact .inl ⟨y,fun w=>by simp_all⟩
  .refine .inr (fun w y w' e=>?_);rw[Sem.run_bind,hx w]at e;exact hy w y w' e
 .exact .inr hm.bindL
theorem Blind.program:Blind P program:=.inl ⟨P,fun _=>rfl⟩
theorem Blind.typeInfo(t:TypeId):Blind P (typeInfo t):=by
 refine Blind.bind Blind.program (fun p=>?_);split;·exact Blind.pure _
 .exact Blind.stuck _
theorem Blind.underlying(t:TypeId):Blind P (underlying t):=by
 refine Blind.bind Blind.program (fun p=>?_);split;·exact Blind.pure _
 .exact Blind.stuck _
theorem Blind.sizeOf(t:TypeId):Blind P (sizeOf t):=Blind.bind (Blind.typeInfo t) fun _=>Blind.pure _
theorem Blind.isAgg(t:TypeId):Blind P (isAgg t):=by refine Blind.bind (Blind.underlying t) (fun d=>?_);split<;>exact Blind.pure _
theorem Blind.part(t:TypeId)(cs:Array Value)(off:Nat):Blind P (part t cs off):=by
 refine Blind.bind (Blind.isAgg t) (fun g=>?_);split;·exact Blind.bind (Blind.sizeOf t) fun _=>Blind.pure _
 .split;·exact Blind.pure _
  .exact Blind.stuck _
theorem Blind.asBool(v:Value):Blind P (asBool v):=by
 unfold Go.asBool;split;·exact Blind.pure _
 .exact Blind.stuck _
theorem Blind.asAgg(v:Value):Blind P (asAgg v):=by
 unfold Go.asAgg;split;·exact Blind.pure _
 .exact Blind.stuck _
theorem Blind.asAddr(v:Value):Blind P (asAddr v):=by
 unfold Go.asAddr;split;·exact Blind.pure _
 .exact Blind.runtimePanic _
 .exact Blind.stuck _
theorem Blind.asIntOf(v:Value):Blind P (asIntOf v):=by
 unfold Go.asIntOf;split;·exact Blind.pure _
 .exact Blind.unsupported _
 .exact Blind.stuck _
theorem Blind.sureAddr(v:Value):Blind P (Instr.sureAddr v):=by
 unfold Instr.sureAddr;split;·exact Blind.pure _
 .exact Blind.stuck _
theorem Blind.of_run{α:Type}{m:Sem α}(x:α)(h:∀w,m.run P w=.ok x w):Blind P m:=.inl ⟨x,h⟩
theorem Blind.extract(t:Value)(i:Nat):Blind P (Instr.extract t i):=by
 unfold Instr.extract;split
 .split;·exact Blind.pure _
  .exact Blind.stuck _
 .exact Blind.stuck _
theorem Blind.field(t:TypeId)(x:Value)(i:Nat):Blind P (Instr.field t x i):=by
 refine Blind.bind (Blind.underlying t) (fun d=>?_);split
 .split;·exact Blind.bind (Blind.asAgg x) fun _=>Blind.part _ _ _
  .exact Blind.stuck _
 .exact Blind.stuck _
theorem Blind.index(t:TypeId)(x i:Value):Blind P (Instr.index t x i):=by
 refine Blind.bind (Blind.asIntOf i) (fun ki=>Blind.bind (Blind.underlying t) (fun d=>?_));split
 .split;·exact Blind.bind (Blind.sizeOf _) fun _=>Blind.part _ _ _
  .exact Blind.boundsPanic _ _ _ _
 .split;·exact Blind.pure _
  .exact Blind.boundsPanic _ _ _ _
 .exact Blind.stuck _
theorem Blind.indexTail(t:TypeId)(k:IntKind)(i:Int)(base:Option Addr)(len:Nat)(elem:TypeId)(g:Bool->TypeDesc->Bool):Blind P (do
  let d<-Go.underlying t match base with|some a=>if 0<=i/\i<len then do
    let n<-Go.sizeOf elem
    Pure.pure (Value.pointer (some (a.add (i.toNat*n))))else if g (len<=1) d=true then Go.unsupported (.noEntry "op/indexAddr.an index out of range at an array of length 0 or 1 (ledger 616)")else Go.boundsPanic k i len .index|none=>Go.boundsPanic k i 0 .index):=by
 refine Blind.bind (Blind.underlying t) (fun d2=>?_);split
 .split;·exact Blind.bind (Blind.sizeOf _) fun _=>Blind.pure _
  .split;·exact Blind.unsupported _
   .exact Blind.boundsPanic _ _ _ _
 .exact Blind.boundsPanic _ _ _ _
theorem Blind.indexAt(t:TypeId)(x i:Value):Blind P (Instr.indexAt t x i):=by
 refine Blind.bind (Blind.asIntOf i) (fun ki=>Blind.bind (Blind.underlying t) (fun d=>?_));dsimp only;split;·exact Blind.bind (Blind.sureAddr _) fun _=>Blind.bind (Blind.pure _) fun⟨b,l,e⟩=>Blind.indexTail t ki.1 ki.2 b l e (fun c d=>c&&match d with|.array .. =>true|_=>false)
 .exact Blind.bind (Blind.pure _) fun⟨b,l,e⟩=>Blind.indexTail t ki.1 ki.2 b l e (fun c d=>c&&match d with|.array .. =>true|_=>false)
 .exact Blind.bind (Blind.stuck _) fun⟨b,l,e⟩=>Blind.indexTail t ki.1 ki.2 b l e (fun c d=>c&&match d with|.array .. =>true|_=>false)
theorem Blind.sliceBound(x:Value)(y:Nat)(c:BoundsCode):Blind P (Instr.sliceBound x y c):=by
 refine Blind.bind (Blind.asIntOf x) (fun ki=>?_);dsimp only;split;·exact Blind.pure _
 .exact Blind.boundsPanic _ _ _ _
theorem Blind.sliceBounds(b:Bool)(l c:Nat)(lo hi mx:Option Value):Blind P (Instr.sliceBounds b l c lo hi mx):=by unfold Instr.sliceBounds;cases mx<;>cases hi<;>cases lo<;>dsimp only<;>repeat(first|exact Blind.pure _|refine Blind.bind (Blind.sliceBound _ _ _) (fun _=>?_)|refine Blind.bind (Blind.pure _) (fun _=>?_)|refine Blind.bind (Blind.stuck _) (fun _=>?_))
theorem Blind.slice(t:TypeId)(x:Value)(lo hi mx:Option Value):Blind P (Instr.slice t x lo hi mx):=by
 unfold Instr.slice;refine Blind.bind (Blind.underlying t) (fun d=>?_);split
 .split;·exact Blind.bind (Blind.stuck _) fun _=>Blind.bind (Blind.sliceBounds _ _ _ _ _ _) fun _=>Blind.pure _
  .exact Blind.bind (Blind.sliceBounds _ _ _ _ _ _) fun _=>Blind.pure _
 .exact Blind.bind (Blind.sliceBounds _ _ _ _ _ _) fun _=>Blind.bind (Blind.sizeOf _) fun _=>Blind.pure _
 .refine Blind.bind (Blind.asAddr _) fun _=>Blind.bind (Blind.underlying _) fun d2=>?_;split;·exact Blind.bind (Blind.sliceBounds _ _ _ _ _ _) fun _=>Blind.bind (Blind.sizeOf _) fun _=>Blind.pure _
  .exact Blind.stuck _
 .exact Blind.stuck _
theorem Blind.sliceAt(t:TypeId)(x:Value)(lo hi mx:Option Value):Blind P (Instr.sliceAt t x lo hi mx):=by
 unfold Instr.sliceAt;refine Blind.bind (Blind.underlying t) (fun d=>?_);split;·exact Blind.bind (Blind.sureAddr _) fun _=>Blind.bind (Blind.sliceBounds _ _ _ _ _ _) fun _=>Blind.bind (Blind.sizeOf _) fun _=>Blind.pure _
 .exact Blind.slice _ _ _ _ _
theorem Blind.value{m:Sem Value}(h:Blind P m):Blind P (do let v<-m;Pure.pure (Next.value v):Sem Next):=Blind.bind h fun _=>Blind.pure _
theorem y9r(h:Rel E X s a w)(o:Oper){t:TypeId}{x:Operand}{args:Array Operand}{ts:Array TypeId}(ho:o.op=.call {callee:=.builtin .len,args:=args,argTypes:=ts})(ha:args.toList=[x])(hts:ts.toList=[t]){n:Nat}(hp:lenA E t (ev E s x) s=some n)(w':World):(execOp a.eval o).run E.P w'=.ok (.value (.int .i64 n)) w':=by
 obtain rfl:args=#[x]:=by apply Array.ext';simpa using ha
 obtain rfl:ts=#[t]:=by apply Array.ext';simpa using hts
 obtain⟨cs,hcs⟩:=q16 (P:=E.P) ho a w';rw[hcs];obtain⟨L,hr⟩:=h.operand x;unfold lenA at hp;split at hp;·rename_i l ht hx;simp only[sI]at hp;subst hp;have hv:=h.evv hx;simp[builtin,Builtin.len_,run_underlying ht,hv,goInt,q8w]
 .rename_i e xs ht hx;simp only[sI]at hp;subst hp;have hr':=h.evd hx;have:∃a0 c0,a.eval x=.slice a0 xs.length c0:=by generalize a.eval x=u at hr';cases hr' with|empty a0 c0=>exact⟨a0,c0,rfl⟩|list _ b off cap sz V hs hc hh hrr=>exact⟨_,cap,rfl⟩
  obtain⟨a0,c0,hv⟩:=this;simp[builtin,Builtin.len_,run_underlying ht,hv,goInt]
 .rename_i e p ht hx;rw[hx]at hr;cases hct:content s p with|own xs l=>
   simp only[hct,sI]at hp;subst hp;obtain⟨val,hval,hown⟩:=h.place hct (by simp) rfl (by simp) (by simp);have hv:=hr.2 (by rw[hct];rfl);rw[hval]at hv;cases hv;have:∃a0 c0,a.eval x=.slice a0 xs.length c0:=by
    rcases hown with⟨rfl,a0,e0⟩|⟨_,h2,_⟩|⟨b,cap,cur,e1,sz,e0,_⟩;·exact⟨a0,0,e0⟩
    .generalize a.eval x=u at h2;cases h2 with|empty a0 c0=>exact⟨a0,c0,rfl⟩|list _ b off cap sz V hs hc hh hrr=>exact⟨_,cap,rfl⟩
    .exact⟨_,cap,e0⟩
   obtain⟨a0,c0,hv⟩:=this;simp[builtin,Builtin.len_,run_underlying ht,hv,goInt]|_=>simp[hct]at hp
 .rename_i e o1 ht hx;rw[hx]at hr;cases hct:q0i s.heap o1 0 with|own xs l=>
   simp only[hct,sI]at hp;subst hp;obtain⟨val,hval,hown⟩:=h.place (p:=.cell o1 0) hct (by simp) rfl (by simp) (by simp);have hr0:RVl w X (L 0) (.ref o1) (a.eval x):=hr;have hv:=qyf (a:=a) hr0;rw[hval]at hv;cases hv;have:∃a0 c0,a.eval x=.slice a0 xs.length c0:=by
    rcases hown with⟨rfl,a0,e0⟩|⟨_,h2,_⟩|⟨b,cap,cur,e1,sz,e0,_⟩;·exact⟨a0,0,e0⟩
    .generalize a.eval x=u at h2;cases h2 with|empty a0 c0=>exact⟨a0,c0,rfl⟩|list _ b off cap sz V hs hc hh hrr=>exact⟨_,cap,rfl⟩
    .exact⟨_,cap,e0⟩
   obtain⟨a0,c0,hv⟩:=this;simp[builtin,Builtin.len_,run_underlying ht,hv,goInt]|_=>simp[hct]at hp
 .rename_i e p lo hi ht hx;rw[hx]at hr;cases hct:content s p with|own xs l=>simp only[hct,sI]at hp;subst hp;obtain⟨ad,c',hv,_⟩:=hr.2 xs l hct;simp[builtin,Builtin.len_,run_underlying ht,hv,goInt]|_=>simp[hct]at hp
 simp_all
def q7u:Op->Bool|.move _|.assign _|.pick .. |.nilCheck _|.binOp .. |.unOp .. |.slice .. |.fieldAddr .. |.field .. |.indexAddr .. |.index .. |.extract .. |.build .. =>true|.call {callee:=.builtin .len,.. }|.call {callee:=.builtin .min,.. }|.call {callee:=.builtin .max,.. }=>true|.convert src _ _=>!(src==qc2)|.makeFunc (.func _) .. =>true|_=>false
theorem qxj(h:Rel E X s a w)(o:Oper){fl:Flag}{q:Bool}{v:AV}(hp:q01 E fl q o.op s=some (v,s1))(hpu:q7u o.op=true):∃val,∀w',(execOp a.eval o).run E.P w'=.ok (.value val) w':=by
 obtain⟨val,w1,X1,hr,_⟩:=qcs h o hp;have fin:Blind E.P (execOp a.eval o)->∃val,∀w',(execOp a.eval o).run E.P w'=.ok (.value val) w':=by
  rintro(⟨x,hx⟩|hn);·simp_all
  .exact absurd hr (hn w _ w1)
 cases hop:o.op with
 |move x=>exact⟨a.eval x,fun w'=>by simp[execOp,hop]⟩|assign x=>exact⟨a.eval x,fun w'=>by simp[execOp,hop]⟩|pick c x y=>exact fin (by simp only[execOp,hop];exact Blind.bind (Blind.asBool _) fun _=>Blind.pure _)|nilCheck x=>
  refine fin ?_;simp only[execOp,hop];obtain⟨L,hv⟩:=h.operand x;rw[hop]at hp;simp only[q01]at hp;have:(∃ad,a.eval x=.pointer (some ad))\/∃f vs,a.eval x=.func (.func f) #[] vs:=by generalize ev E s x=c at hv hp;cases c with
   |ptr o off=>obtain⟨b,_,e⟩:=hv;simp_all|view cs=>obtain⟨b,off,e,_⟩:=hv;simp_all|fn f cs=>obtain⟨vs,e,_⟩:=hv;simp_all|elt p i off=>
    simp only at hp;split at hp;·rename_i ho;generalize hct:content s p=c at ho;cases c<;>simp[AV.isOwn]at ho;obtain⟨b,o0,n,cap,sz,_,_,e⟩:=hv.2 _ _ hct;exact .inl ⟨_,e⟩
    simp_all|_=>grind
  rcases this with⟨ad,e⟩|⟨f,vs,e⟩<;>rw[e]<;>exact Blind.pure _|binOp op t x y u=>
  rw[hop]at hp;simp only[q01]at hp;split at hp;·rename_i p r hx hy;obtain⟨z,h1,rfl,rfl⟩:=q27 hp;refine fin (Blind.of_run (.value z) fun w'=>?_);have:=qxe (w:=w') (x:=x) (y:=y) h1;simp only[execOp,hop,h.val hx,h.val hy];rw[Sem.run_bind,this.1];rfl
  .rename_i p r hx hy;obtain⟨z,h1,rfl,rfl⟩:=q27 hp;refine fin (Blind.of_run (.value (.bool z)) fun w'=>?_);have rx:=q74 h hx;have ry:=q74 h hy;obtain⟨vs,ex⟩:=qhw rx;obtain⟨ws,ey⟩:=qhw ry;rw[ex]at rx;rw[ey]at ry;simp only[execOp,hop,ex,ey];rw[Sem.run_bind,qso rx ry h1];rfl
  simp_all|unOp op t x=>
  rw[hop]at hp;simp only[q01]at hp;split at hp
  .rename_i p hx;obtain⟨z,h1,rfl,rfl⟩:=q27 hp;refine fin (Blind.of_run (.value z) fun w'=>?_);have hv:=h.val hx;unfold unV at h1;split at h1;·simp only[sI]at h1;subst h1;simp[execOp,hop,hv,Op.unary]
   .simp only[sI]at h1;subst h1;simp[execOp,hop,hv,Op.unary,Op.intArith]
   .cases h1
  simp_all|convert src dst x=>
  rw[hop]at hp hpu;have hne:¬src=qc2:=by simpa[q7u]using hpu
  simp only[q01,if_neg hne]at hp;split at hp;·rename_i k0 k kk n h1 h2 hx;exact fin (Blind.of_run (.value (.int k (k.wrap n))) fun w'=>by simp[execOp,hop,convert,run_underlying h1,run_underlying h2,h.val hx,Conv.intToInt])
  .rename_i b h1 h2 hx;exact fin (Blind.of_run (.value (.string b)) fun w'=>by simp[execOp,hop,convert,run_underlying h1,run_underlying h2,h.val hx])
  simp_all|slice t x lo hi mx=>exact fin (by simp only[execOp,hop];exact Blind.value (Blind.sliceAt _ _ _ _ _))|build t ps=>
  rw[hop]at hp;simp only[q01]at hp;split at hp
  .rename_i z qs hz hq;split at hp;·rename_i hok;obtain⟨cs,hf,_,_⟩:=q27 hp;obtain⟨val,hr,_⟩:=qtf h o hop hz hq hok hf;exact⟨val,hr⟩
   .cases hp
  simp_all|fieldAddr t x i=>
  rw[hop]at hp;simp only[q01]at hp;split at hp
  .rename_i off u hf;split at hp
   .rename_i n hn;obtain⟨L,hv⟩:=h.operand x;have:∃b o,a.eval x=.pointer (some ⟨b,o,none⟩):=by generalize ev E s x=c at hv hp;cases c with
     |ptr o off=>obtain⟨b,_,e⟩:=hv;exact⟨_,_,e⟩|view cs=>obtain⟨b,off,e,_⟩:=hv;exact⟨_,_,e⟩|elt p i off=>
      simp only at hp;split at hp;·rename_i ho;generalize hct:content s p=c at ho;cases c<;>simp[AV.isOwn]at ho;obtain⟨b,o0,n,cap,sz,_,_,e⟩:=hv.2 _ _ hct;exact⟨_,_,e⟩
      .cases hp|_=>cases hp
    obtain⟨b,o',e⟩:=this;refine fin (Blind.of_run (.value (.pointer (some ⟨b,o'+off,none⟩))) fun w'=>?_);have:=qah (P:=E.P) (w:=w') (b:=b) (o:=o') hf hn;simp only[execOp,hop,e];rw[Sem.run_bind,this];rfl
   .cases hp
  simp_all|field t x i=>exact fin (by simp only[execOp,hop];exact Blind.value (Blind.field _ _ _))|indexAddr t x i=>exact fin (by simp only[execOp,hop];exact Blind.value (Blind.indexAt _ _ _))|index t x i=>exact fin (by simp only[execOp,hop];exact Blind.value (Blind.index _ _ _))|extract t i=>exact fin (by simp only[execOp,hop];exact Blind.value (Blind.extract _ _))|makeFunc fn first caps=>rw[hop]at hp hpu;cases fn with
  |func f=>
   simp only[q01]at hp;split at hp;·rename_i hf;have hf':first=#[]:=Array.eq_empty_of_size_eq_zero hf;exact⟨.func (.func f) #[] (caps.map a.eval),fun w'=>by simp[execOp,hop,hf',Instr.makeFunc]⟩
   .cases hp|_=>cases hpu
 |call c=>obtain⟨callee,args,ts⟩:=c;rw[hop]at hp hpu;cases callee with
  |builtin b=>
   simp only[q01,q2m]at hp;split at hp;·rename_i x t ha ht;obtain⟨n,h1,rfl,rfl⟩:=q27 hp;exact⟨_,fun w'=>y9r h o hop ha ht h1 w'⟩
   .rename_i x y ha;split at hp
    .rename_i k m k' n hx hy;obtain rfl:args=#[x,y]:=by apply Array.ext';simpa using ha
     refine⟨.int k (if n>m then n else m),fun w'=>?_⟩;obtain⟨cs,hcs⟩:=q16 (P:=E.P) hop a w';rw[hcs];simp[builtin,Builtin.max_,Builtin.max2,h.val hx,h.val hy]
    .cases hp
   .rename_i x y ha;split at hp
    .rename_i k m k' n hx hy;obtain rfl:args=#[x,y]:=by apply Array.ext';simpa using ha
     refine⟨.int k (if n<m then n else m),fun w'=>?_⟩;obtain⟨cs,hcs⟩:=q16 (P:=E.P) hop a w';rw[hcs];simp[builtin,Builtin.min_,Builtin.min2,h.val hx,h.val hy]
    .cases hp
   .cases hpu
   .cases hpu
   simp_all|value f=>cases hpu|invoke r m=>cases hpu
 |_=>rw[hop]at hpu;cases hpu
end Go.Ab

namespace Go.Ab
variable {b m : Nat} {t : TypeId} {x : Operand} {fl : Flag} {q : Bool} {v : AV}
variable {E : Env0} {X : Cx} {s s1 : St} {a : Act} {w : World} {P : Program}
def DryW{α:Type}(P:Program)(m:Sem α):Prop:=∀w x w',m.run P w=.ok x w'->w'=w
def GrowW{α:Type}(P:Program)(m:Sem α):Prop:=∀w x w',m.run P w=.ok x w'->w.heap.size<=w'.heap.size/\∀b,b<w.heap.size->w'.heap[b]?=w.heap[b]?
theorem Blind.dry{α:Type}{m:Sem α}(h:Blind P m):DryW P m:=by
 intro w x w' e;rcases h with⟨y,hy⟩|hn;·grind
 .exact absurd e (hn w x w')
theorem DryW.grow{α:Type}{m:Sem α}(h:DryW P m):GrowW P m:=by intro w x w' e;rw[h w x w' e];simp
theorem DryW.bind{α β:Type}{m:Sem α}{f:α->Sem β}(hm:DryW P m)(hf:∀x,DryW P (f x)):DryW P (m>>=f):=by intro w y w' e;rw[Sem.run_bind]at e;cases h:m.run P w with|ok x w1=>rw[h]at e;have h1:=hm w x w1 h;have h2:=hf x w1 y w' e;grind|halt x w1=>simp_all
theorem GrowW.bind{α β:Type}{m:Sem α}{f:α->Sem β}(hm:GrowW P m)(hf:∀x,GrowW P (f x)):GrowW P (m>>=f):=by intro w y w' e;rw[Sem.run_bind]at e;cases h:m.run P w with|ok x w1=>rw[h]at e;obtain⟨h1,h2⟩:=hm w x w1 h;obtain⟨h3,h4⟩:=hf x w1 y w' e;grind|halt x w1=>simp_all
theorem DryW.load(ad:Addr):DryW P (load ad):=by intro w x w' e;simp only[Go.load,Sem.run]at e;grind
theorem DryW.cells(ad:Addr):∀(n i:Nat)(acc:Array Value),DryW P (loadCellsFrom ad i n acc)|0,_,acc=>(Blind.pure acc).dry|n+1,i,acc=>DryW.bind (DryW.load _) fun v=>DryW.cells ad n (i+1) (acc.push v)
theorem DryW.loadVar(t:TypeId)(ad:Addr):DryW P (loadVar t ad):=by
 refine DryW.bind (Blind.isAgg t).dry (fun g=>?_);split;·exact DryW.bind (Blind.sizeOf t).dry fun n=>DryW.bind (DryW.cells ad n 0 #[]) fun _=>(Blind.pure _).dry
 .exact DryW.load ad
theorem DryW.loadAt(t:TypeId)(v:Value):DryW P (Instr.loadAt t v):=DryW.bind (Blind.sureAddr v).dry fun _=>DryW.loadVar t _
theorem GrowW.newRow(t:TypeId)(cs:Array Value):GrowW P (newRow t cs):=by refine GrowW.bind ?_ (fun _=>(Blind.pure _).dry.grow);intro w x w' e;simp only[newObj,Sem.run]at e;grind
theorem Blind.zeroValue(t:TypeId):Blind P (zeroValue t):=by
 refine Blind.bind (Blind.typeInfo t) (fun i=>?_);split;·exact Blind.pure _
 .exact Blind.unsupported _
theorem GrowW.alloc(t:TypeId):GrowW P (Instr.alloc t true (.tuple #[])):=by unfold Instr.alloc;exact GrowW.bind (Blind.zeroValue t).dry.grow fun z=>GrowW.bind (GrowW.newRow _ _) fun _=>(Blind.pure _).dry.grow
theorem GrowW.buildSlice(t:TypeId)(n:Nat)(ps:Array (Nat×Value)):GrowW P (Instr.buildSlice t n ps):=by
 unfold Instr.buildSlice;refine GrowW.bind (Blind.underlying t).dry.grow (fun d=>?_);split
 .refine GrowW.bind (Blind.sizeOf _).dry.grow (fun sz=>?_);dsimp only;split
  .exact GrowW.bind (Blind.unsupported _).dry.grow fun _=>by
    split;·omega
    .refine GrowW.bind (Blind.zeroValue _).dry.grow fun z=>?_;refine GrowW.bind (Blind.pure _).dry.grow fun z=>?_;split;·exact GrowW.bind (GrowW.newRow _ _) fun _=>(Blind.pure _).dry.grow
     .exact(Blind.stuck _).dry.grow
  .split
   .refine GrowW.bind (Blind.pure _).dry.grow fun z=>?_;split;·exact GrowW.bind (GrowW.newRow _ _) fun _=>(Blind.pure _).dry.grow
    .exact(Blind.stuck _).dry.grow
   .refine GrowW.bind (Blind.zeroValue _).dry.grow fun z=>?_;refine GrowW.bind (Blind.pure _).dry.grow fun z=>?_;split;·exact GrowW.bind (GrowW.newRow _ _) fun _=>(Blind.pure _).dry.grow
    .exact(Blind.stuck _).dry.grow
 .exact(Blind.stuck _).dry.grow
theorem GrowW.choose(q:Question):GrowW P (choose q):=by intro w x w' e;simp only[Go.choose,Sem.run]at e;grind
theorem GrowW.mark(m:Mark):GrowW P (mark m):=by intro w x w' e;simp_all
theorem GrowW.askRoom(n:Nat):GrowW P (askRoom n):=by
 unfold Go.askRoom;split;·exact GrowW.mark _
 .exact(Blind.pure _).dry.grow
theorem Blind.lenOf(x:Value):Blind P (Builtin.lenOf x):=by
 unfold Builtin.lenOf;split;·exact Blind.pure _
 .exact Blind.pure _
 .exact Blind.stuck _
theorem DryW.firstCells(a b:Nat)(x:Value):DryW P (Builtin.firstCells a b x):=by
 unfold Builtin.firstCells;split;·exact DryW.cells _ _ _ _
 .exact(Blind.pure _).dry
 .exact(Blind.pure _).dry
 .exact(Blind.stuck _).dry
theorem GrowW.ite{α:Type}{c:Prop} [Decidable c]{m m':Sem α}(h:GrowW P m)(h':GrowW P m'):GrowW P (if c then m else m'):=by grind
theorem GrowW.never{α:Type}{m:Sem α}(h:∀w x w',m.run P w≠.ok x w'):GrowW P m:=fun w x w' e=>absurd e (h w x w')
theorem y09{α β:Type}{m:Sem α}{f:α->Sem β}(h:∀x w y w',(f x).run P w≠.ok y w'):∀w y w',(m>>=f).run P w≠.ok y w':=by intro w y w' e;rw[Sem.run_bind]at e;cases hm:m.run P w with|ok x w1=>simp_all|halt x w1=>simp_all
theorem Blind.asInt(x:Value):Blind P (asInt x):=by exact Blind.bind (Blind.asIntOf x) fun _=>Blind.pure _
theorem GrowW.makeSlice(t:TypeId)(l c:Value):GrowW P (Instr.makeSlice t l c):=by
 unfold Instr.makeSlice;refine GrowW.bind (Blind.underlying _).dry.grow fun d=>?_;split;·refine GrowW.bind (Blind.asInt _).dry.grow fun n=>GrowW.bind (Blind.asInt _).dry.grow fun m=>GrowW.bind (Blind.typeInfo _).dry.grow fun i=>?_;dsimp only;repeat'(first|with_reducible exact(Blind.pure _).dry.grow|with_reducible exact(Blind.stuck _).dry.grow|with_reducible exact(Blind.unsupported _).dry.grow|with_reducible exact(Blind.runtimePanic _).dry.grow|with_reducible exact(Blind.sizeOf _).dry.grow|with_reducible exact(Blind.typeInfo _).dry.grow|with_reducible exact(Blind.zeroValue _).dry.grow|with_reducible exact(Blind.asInt _).dry.grow|with_reducible exact GrowW.choose _|with_reducible exact GrowW.askRoom _|with_reducible exact GrowW.mark _|with_reducible exact GrowW.newRow _ _|with_reducible refine GrowW.ite ?_ ?_|with_reducible refine GrowW.bind ?_ (fun _=>?_)|split)
 .exact(Blind.stuck _).dry.grow
theorem GrowW.noRoom(b:Sem Bool)(u u':Unsupported):GrowW P (do let x<-b;if(!x)=true then(do Go.mark .noRoom;(unsupported u:Sem PUnit))else unsupported u'):=by apply GrowW.never;apply y09;simp
theorem GrowW.append_nil(ts:Array TypeId)(ty:TypeId)(x:Value):GrowW P (Builtin.append_ ts ty #[.slice none 0 0,x]):=by have h0:(#[Value.slice none 0 0,x]:Array Value)[0]?=some (.slice none 0 0):=rfl;have h1:(#[Value.slice none 0 0,x]:Array Value)[1]?=some x:=rfl;unfold Builtin.append_;simp only[h0,h1];cases ts[0]? with|none=>exact(Blind.stuck _).dry.grow|some st=>
  simp only;refine GrowW.bind (Blind.underlying _).dry.grow fun d=>?_;split;·refine GrowW.bind (Blind.sizeOf _).dry.grow fun sz=>?_;repeat'(first|with_reducible exact GrowW.noRoom _ _ _|with_reducible exact(Blind.pure _).dry.grow|with_reducible exact(Blind.stuck _).dry.grow|with_reducible exact(Blind.unsupported _).dry.grow|with_reducible exact(Blind.runtimePanic _).dry.grow|with_reducible exact(Blind.underlying _).dry.grow|with_reducible exact(Blind.typeInfo _).dry.grow|with_reducible exact(Blind.zeroValue _).dry.grow|with_reducible exact(Blind.asInt _).dry.grow|with_reducible exact(Blind.lenOf _).dry.grow|with_reducible exact(DryW.firstCells _ _ _).grow|with_reducible exact GrowW.choose _|with_reducible exact GrowW.askRoom _|with_reducible exact GrowW.mark _|with_reducible exact GrowW.newRow _ _|with_reducible refine GrowW.ite ?_ ?_|with_reducible refine GrowW.bind ?_ (fun _=>?_)|split)
  .exact(Blind.stuck _).dry.grow
def q7i:Op->Bool|.load .. =>true|_=>false
def isApp:Op->Bool|.call {callee:=.builtin .append,.. }=>true|_=>false
def q5z(op:Op):Bool:=isNew op||isApp op
theorem qzb(o:Oper)(ho:q7i o.op=true)(ρ:Operand->Value):DryW P (execOp ρ o):=by cases hop:o.op with|load t x=>simp only[execOp,hop];exact DryW.bind (DryW.loadAt _ _) fun _=>(Blind.pure _).dry|_=>rw[hop]at ho;cases ho
theorem qp9(o:Oper)(ho:isNew o.op=true)(hb:∀t u x,o.op≠.convert t u x)(ρ:Operand->Value)(hρ:∀v,ρ (.const v)=v):GrowW P (execOp ρ o):=by cases hop:o.op with
 |alloc t=>simp only[execOp,hop];exact GrowW.bind (GrowW.alloc _) fun _=>(Blind.pure _).dry.grow|buildSlice t n ps=>simp only[execOp,hop];exact GrowW.bind (GrowW.buildSlice _ _ _) fun _=>(Blind.pure _).dry.grow|makeSlice t l c=>simp only[execOp,hop];exact GrowW.bind (GrowW.makeSlice _ _ _) fun _=>(Blind.pure _).dry.grow|convert t u x=>exact absurd hop (hb t u x)|call c=>obtain⟨callee,args,ts⟩:=c;rw[hop]at ho;cases callee with
  |builtin b=>cases b with
   |append=>
    simp only[isNew]at ho;split at ho
    .rename_i y hargs;have ha:args=#[.const (.slice none 0 0),y]:=by have:=congrArg List.toArray hargs;simpa using this
     subst ha;have hm:(#[Operand.const (.slice none 0 0),y]:Array Operand).map ρ=#[.slice none 0 0,ρ y]:=by simp[hρ]
     simp only[execOp,hop,resolve,hm];show GrowW P (do let v<-Builtin.append_ ts o.type #[.slice none 0 0,ρ y];pure (Next.value v));exact GrowW.bind (GrowW.append_nil _ _ _) fun _=>(Blind.pure _).dry.grow
    grind|_=>cases ho
  |_=>cases ho
 |_=>rw[hop]at ho;cases ho
def Pres(B:Nat->Nat->Prop)(w w':World):Prop:=∀b o u,B b o->w.cell? ⟨b,o,none⟩=some u->w'.cell? ⟨b,o,none⟩=some u
def Safe(X:Cx)(w:World)(m b o:Nat):Prop:=(X.imm b o/\∃u,w.cell? ⟨b,o,none⟩=some u)\/∃o',above m o'=true/\X.mu[o']?=some (.blk b)
theorem Safe.ext{X':Cx}{w':World}{o:Nat}(hE:Ext X w X' w')(hm:∃more,X'.mu=X.mu++more)(h:Safe X w m b o):Safe X' w' m b o:=by
 rcases h with⟨h1,u,h2⟩|⟨o',h1,h2⟩;·obtain⟨h3,h4⟩:=hE.point h2 h1;exact .inl ⟨h4,u,h3⟩
 .obtain⟨more,hm⟩:=hm;refine .inr ⟨o',h1,?_⟩;grind
def SlotCell(s:St)(a:Act)(t b:Nat):Prop:=∃xs n c,get s.env t=.own xs false/\xs≠[]/\a.tmps.getD t undef=.slice (some ⟨b,0,none⟩) n c
theorem SlotCell.lab(h:Rel E X s a w){t:Nat}(hc:SlotCell s a t b):∃j k,X.G b=some (.slot t j,k):=by
 obtain⟨xs,n,c,h1,h2,h3⟩:=hc;have ht:=h.env t;rw[h1,h3]at ht;rcases(ht:OwnOk w X (.slot t 0) xs false _)with⟨e,_⟩|⟨e,_⟩|⟨b',cap,cur,e,sz,hv,hg,_⟩;·exact absurd e h2
 .cases e
 simp_all
theorem y73(h:Rel E X s a w)(o:Oper)(ho:o.op=.load t x)(hp:q3p E fl q t (ev E s x) s=some (v,s1)):∃(val:Value)(C:Nat->Nat->Prop),∀w',Pres C w w'->(execOp a.eval o).run E.P w'=.ok (.value val) w':=by
 have fin:∀(b off:Nat),a.eval x=.pointer (some ⟨b,off,none⟩)->(tyAgg E.P t=some false/\∃u,w.cell? ⟨b,off,none⟩=some u)\/(∃n,tyAgg E.P t=some true/\q0f E.P t=some n/\∀j,j<n->∃u,w.cell? ⟨b,off+j,none⟩=some u)->∃(val:Value)(C:Nat->Nat->Prop),∀w',Pres C w w'->(execOp a.eval o).run E.P w'=.ok (.value val) w':=by
  intro b off hev hc;rcases hc with⟨ht,u,hu⟩|⟨n,ht,hn,hh⟩;·exact⟨u,fun _ _=>True,fun w' hw=>q15 ho hev (q35 ht (hw b off u trivial hu))⟩
  .let f:Nat->Value:=fun j=>(w.cell? ⟨b,off+j,none⟩).getD undef;have hf:∀j,j<n->w.cell? ⟨b,off+j,none⟩=some (f j):=fun j hj=>by grind
   refine⟨.agg ((List.range n).map f).toArray,fun _ _=>True,fun w' hw=>q15 ho hev (q1k ht hn (by simp) (fun j v hj=>?_))⟩;simp only[List.getElem?_map,Option.map_eq_some_iff]at hj;obtain⟨k,hk,rfl⟩:=hj;have hjn:j<n:=by grind
   have:k=j:=by simp_all
   subst this;exact hw b (off+k) _ trivial (hf k hjn)
 generalize hx:ev E s x=c at hp;cases c with
 |ptr ob off=>
  obtain⟨b,hb,hev⟩:=h.ptr hx;refine fin b off hev ?_;have hlt:ob<s.heap.length:=by rw[<-h.mu];grind
  obtain⟨cur,e,hg,hw,hn,hh⟩:=(h.heap ob s.heap[ob] (by simp)).real hb;have cell:∀j,j<cur.size->∃u,w.cell? ⟨b,j,none⟩=some u:=fun j hj=>⟨cur[j],by simp[cell_of_row w b j cur e (0,0) hw,hj]⟩;unfold q3p at hp;cases ht:tyAgg E.P t with
  |none=>simp_all|some g=>cases g with|false=>
    have hp':readPlace fl q s (.cell ob off)=some (v,s1):=by simp only[ht]at hp;cases hz:q0f E.P t<;>simpa[hz]using hp
    have hu:content s (.cell ob off)≠.undef:=by intro hu;unfold readPlace at hp';simp[hu]at hp'
    obtain⟨cs,h1,h2⟩:=q14 rfl hu;grind|true=>cases hz:q0f E.P t with|none=>simp_all|some n=>
     refine .inr ⟨n,rfl,rfl,fun j hj=>?_⟩;simp only[ht,hz,List.getElem?_eq_getElem hlt]at hp;split at hp;·rename_i hle;exact cell (off+j) (by omega)
     simp_all
 |view cs=>obtain⟨b,off,hev,hh⟩:=h.viewp hx;refine fin b off hev ?_;unfold q3p at hp;cases ht:tyAgg E.P t with|none=>simp_all|some g=>cases g with
   |false=>cases cs with|nil=>simp_all|cons c r=>obtain⟨u,h1,h2,_⟩:=hh 0 c rfl;simp_all
   |true=>cases hz:q0f E.P t with|none=>simp_all|some n=>
     refine .inr ⟨n,rfl,rfl,fun j hj=>?_⟩;simp only[ht,hz]at hp;split at hp;·rename_i hle;obtain⟨u,h1,h2,_⟩:=hh j cs[j] (by simp[show j<cs.length by omega]);exact⟨u,h1⟩
     simp_all
 |elt p i off0=>obtain⟨L,hv⟩:=h.operand x;rw[hx]at hv;unfold q3p at hp;cases ht:tyAgg E.P t with|none=>simp_all|some g=>cases hcs:q33 s p i off0 with|none=>cases g<;>cases hz:q0f E.P t<;>simp[ht,hz,hcs]at hp|some cs=>obtain⟨b,o',h1,h2⟩:=h.elt L hv hcs;refine fin b o' h1 ?_;cases g with
    |false=>cases cs with|nil=>simp_all|cons c r=>obtain⟨u,hu,_⟩:=h2 0 c rfl;simp_all
    |true=>cases hz:q0f E.P t with|none=>simp_all|some n=>
      refine .inr ⟨n,ht,rfl,fun j hj=>?_⟩;simp only[ht,hz,hcs]at hp;split at hp;·rename_i hle;obtain⟨u,hu,_⟩:=h2 j cs[j] (by simp[show j<cs.length by omega]);exact⟨u,hu⟩
      simp_all
 |_=>unfold q3p at hp;cases ht:tyAgg E.P t<;>cases hz:q0f E.P t<;>simp[ht,hz]at hp<;>(split at hp<;>simp at hp)
theorem y2o(h:Rel E X s a w)(o:Oper)(ho:o.op=.load t x)(hp:q3p E fl q t (ev E s x) s=some (v,s1))(hx:(∃ob off,ev E s x=.ptr ob off/\above m ob=true)\/(∃cs,ev E s x=.view cs)\/∃t i off,ev E s x=.elt (.slot t) i off):∃(val:Value)(C:Nat->Nat->Prop),(∀b o,C b o->Safe X w m b o\/∃t i off,ev E s x=.elt (.slot t) i off/\SlotCell s a t b)/\∀w',Pres C w w'->(execOp a.eval o).run E.P w'=.ok (.value val) w':=by
 have fin:∀(b off:Nat),a.eval x=.pointer (some ⟨b,off,none⟩)->(tyAgg E.P t=some false/\(∃u,w.cell? ⟨b,off,none⟩=some u/\(Safe X w m b off\/∃t i off,ev E s x=.elt (.slot t) i off/\SlotCell s a t b)))\/(∃n,tyAgg E.P t=some true/\q0f E.P t=some n/\∀j,j<n->∃u,w.cell? ⟨b,off+j,none⟩=some u/\(Safe X w m b (off+j)\/∃t i off,ev E s x=.elt (.slot t) i off/\SlotCell s a t b))->∃(val:Value)(C:Nat->Nat->Prop),(∀b o,C b o->Safe X w m b o\/∃t i off,ev E s x=.elt (.slot t) i off/\SlotCell s a t b)/\∀w',Pres C w w'->(execOp a.eval o).run E.P w'=.ok (.value val) w':=by
  intro b off hev hc;rcases hc with⟨ht,u,hu,hs⟩|⟨n,ht,hn,hh⟩;·exact⟨u,fun b' o'=>b'=b/\o'=off,fun b' o' e=>by grind,fun w' hw=>q15 ho hev (q35 ht (hw b off u ⟨rfl,rfl⟩ hu))⟩
  .let f:Nat->Value:=fun j=>(w.cell? ⟨b,off+j,none⟩).getD undef;have hf:∀j,j<n->w.cell? ⟨b,off+j,none⟩=some (f j):=fun j hj=>by grind
   refine⟨.agg ((List.range n).map f).toArray,fun b' o'=>b'=b/\∃j,j<n/\o'=off+j,fun b' o' e=>?_,fun w' hw=>q15 ho hev (q1k ht hn (by simp) (fun j v hj=>?_))⟩;·grind
   .simp only[List.getElem?_map,Option.map_eq_some_iff]at hj;obtain⟨k,hk,rfl⟩:=hj;have hjn:j<n:=by grind
    have:k=j:=by grind
    subst this;exact hw b (off+k) _ ⟨rfl,k,hjn,rfl⟩ (hf k hjn)
 rcases hx with⟨ob,off,hx,hm⟩|⟨cs,hx⟩|⟨st,i,off0,hx⟩
 .obtain⟨b,hb,hev⟩:=h.ptr hx;refine fin b off hev ?_;have hlt:ob<s.heap.length:=by rw[<-h.mu];grind
  obtain⟨cur,e,hg,hw,hn,hh⟩:=(h.heap ob s.heap[ob] (by simp)).real hb;have cell:∀j,j<cur.size->∃u,w.cell? ⟨b,j,none⟩=some u:=fun j hj=>⟨cur[j],by simp[cell_of_row w b j cur e (0,0) hw,hj]⟩;have safe:∀j,Safe X w m b j:=fun j=>.inr ⟨ob,hm,hb⟩;unfold q3p at hp;rw[hx]at hp;cases ht:tyAgg E.P t with
  |none=>grind|some g=>cases g with|false=>
    have hp':readPlace fl q s (.cell ob off)=some (v,s1):=by simp_all
    have hu:content s (.cell ob off)≠.undef:=by intro hu;unfold readPlace at hp';simp_all
    obtain⟨cs,h1,h2⟩:=q14 rfl hu;grind|true=>cases hz:q0f E.P t with|none=>grind|some n=>
     refine .inr ⟨n,rfl,rfl,fun j hj=>?_⟩;simp only[ht,hz,List.getElem?_eq_getElem hlt]at hp;split at hp;·rename_i hle;obtain⟨u,hu⟩:=cell (off+j) (by omega);exact⟨u,hu,.inl (safe _)⟩
     grind
 .obtain⟨b,off,hev,hh⟩:=h.viewp hx;refine fin b off hev ?_;unfold q3p at hp;rw[hx]at hp;cases ht:tyAgg E.P t with|none=>grind|some g=>cases g with
   |false=>cases cs with|nil=>grind|cons c r=>obtain⟨u,h1,h2,_⟩:=hh 0 c rfl;exact .inl ⟨rfl,u,h1,.inl (.inl ⟨h2,u,h1⟩)⟩
   |true=>cases hz:q0f E.P t with|none=>grind|some n=>
     refine .inr ⟨n,rfl,rfl,fun j hj=>?_⟩;simp only[ht,hz]at hp;split at hp;·rename_i hle;obtain⟨u,h1,h2,_⟩:=hh j cs[j] (by simp[show j<cs.length by omega]);exact⟨u,h1,.inl (.inl ⟨h2,u,h1⟩)⟩
     grind
 .obtain⟨L,hv⟩:=h.operand x;rw[hx]at hv;have key:∀cs,q33 s (.slot st) i off0=some cs->∃b o,a.eval x=.pointer (some ⟨b,o,none⟩)/\∀(j:Nat)c,cs[j]?=some c->∃u,w.cell? ⟨b,o+j,none⟩=some u/\(Safe X w m b (o+j)\/∃t i off,ev E s x=.elt (.slot t) i off/\SlotCell s a t b):=by
   intro cs hcs;obtain⟨b,o,h1,h2⟩:=h.elt L hv hcs;refine⟨b,o,h1,fun j c hj=>?_⟩;obtain⟨u,hu,_⟩:=h2 j c hj;refine⟨u,hu,?_⟩;unfold q33 at hcs;generalize hct:content s (.slot st)=cc at hcs;cases cc<;>try cases hcs
   rename_i xs l;simp only[Option.map_eq_some_iff]at hcs;obtain⟨y,hy,rfl⟩:=hcs;have hg:get s.env st=.own xs l:=hct;have hne:xs≠[]:=fun e=>by grind
   obtain⟨b1,o0,n,cap,sz,e1,e2,e3⟩:=hv.2 xs l hct;rw[h1]at e3;simp only[Value.pointer.injEq,sI,Addr.mk.injEq,and_true]at e3;obtain⟨rfl,ho⟩:=e3;have hval:a.tmps.getD st undef=.slice (some ⟨b,o0,none⟩) n cap:=by have:a.tmps[st]?=some (.slice (some ⟨b,o0,none⟩) n cap):=e1;simp_all
   have hown:=h.env st;rw[hg,hval]at hown;have hsz:y.cells.length=sz:=e2 y (List.mem_of_getElem? hy);rw[List.getElem?_drop]at hj;have hjl:off0+j<sz:=by grind
   rcases(hown:OwnOk w X (.slot st 0) xs l _)with⟨e,_⟩|⟨_,hr,_⟩|⟨b',cap',cur,e,sz',hv',hgl,hw',hs',hz',_,_,_,_,_⟩;·grind
   .left;left;refine⟨?_,u,hu⟩;generalize hvv:Value.slice (some ⟨b,o0,none⟩) n cap=vv at hr;cases hr with|empty=>grind|list _ b2 off2 cap2 sz2 V hs2 _ hh2 _=>grind
   .cases hv';cases l with|false=>exact .inr ⟨st,i,off0,hx,xs,_,_,hg,hne,hval⟩|true=>left;left;refine⟨⟨h.oamb _ _ _ hgl _,fun l' k' hg'=>?_⟩,u,hu⟩;rw[hgl]at hg';simp only[if_true,sI,pI]at hg';obtain⟨_,rfl⟩:=hg';have hs'':y.cells.length=sz':=hs' y (List.mem_of_getElem? hy);have hil:i<xs.length:=(List.getElem?_eq_some_iff.1 hy).1;have hb:(i+1)*sz'<=xs.length*sz':=Nat.mul_le_mul_right _ hil;grind
  unfold q3p at hp;rw[hx]at hp;cases ht:tyAgg E.P t with|none=>grind|some g=>cases g with|false=>
    simp only[ht]at hp;have hp':∃c r,q33 s (.slot st) i off0=some (c::r):=by grind
    obtain⟨c,r,he⟩:=hp';obtain⟨b,o,g1,g2⟩:=key _ he;obtain⟨u,g3,g4⟩:=g2 0 c rfl;exact fin b o g1 (.inl ⟨ht,u,g3,g4⟩)|true=>cases hz:q0f E.P t with|none=>grind|some n=>simp only[ht,hz]at hp;cases he:q33 s (.slot st) i off0 with|none=>grind|some cs=>
      rw[he]at hp;simp only at hp;split at hp;·rename_i hle;obtain⟨b,o,g1,g2⟩:=key _ he;refine fin b o g1 (.inr ⟨n,ht,hz,fun j hj=>?_⟩);exact g2 j cs[j] (by simp[show j<cs.length by omega])
      grind
end Go.Ab

namespace Go.Ab
variable {o oi : Oper} {v : Value} {i mode : Nat} {listed : Array Bool}
section
variable {P : Program} {ops : Array Oper} {Q : Exit -> Act -> World -> Prop} {md : Region.Mode}
def UU(B:Nat->Nat->Prop)(op:Op)(w w':World):Prop:=((q7u op||q7i op)=true->w'=w)/\((q5z op||q1n op||q19 op)=true->Pres B w w')
theorem UU.sub{B B':Nat->Nat->Prop}{op:Op}{w w':World}(h:∀b o,B b o->B' b o)(hu:UU B' op w w'):UU B op w w':=⟨hu.1,fun e b o u hb hc=>hu.2 e b o u (h b o hb) hc⟩
def q6b(P:Program)(md:Region.Mode)(ops:Array Oper)(Q:Exit->Act->World->Prop):Nat->(Nat->Nat->Nat->Prop)->Array Bool->Act->World->Prop|0,_,listed,a,w=>Region.ready md ops listed=[]/\Q .normal a w|fuel+1,B,listed,a,w=>(Region.ready md ops listed=[]->Q .normal a w)/\∀i∈Region.ready md ops listed,wpOp P ops Q i (fun a' w'=>(∀o,ops[i]?=some o->UU (B i) o.op w w')/\q6b P md ops Q fuel B (listed.setIfInBounds i true) a' w') a w
theorem qid:∀(fuel:Nat)(B:Nat->Nat->Nat->Prop)(listed:Array Bool)(a:Act)(w:World),q6b P md ops Q fuel B listed a w->wpAny P md ops Q fuel listed a w|0,_,_,_,_,h=>h|fuel+1,B,_listed,_a,_w,h=>⟨h.1,fun i hi=>wpOp_mono (fun a' w' hh=>qid fuel B _ a' w' hh.2) (h.2 i hi)⟩
def YieldsR(P:Program)(ops:Array Oper)(R:World->World->Prop)(o:Oper)(v:Value)(a:Act)(w:World):Prop:=(Region.wanted o (yielded ops a.tmps)=true/\∀w',R w w'->(execOp a.eval o).run P w'=.ok (.value v) w')\/(Region.wanted o (yielded ops a.tmps)=false/\v=undef)
theorem YieldsR.wpOp{R:World->World->Prop}(hr:∀w,R w w){i:Nat}{o:Oper}{v:Value}{a:Act}{w:World}(hi:ops[i]?=some o)(hy:YieldsR P ops R o v a w){K:Act->World->Prop}(h:K (a.put o.dst v) w):wpOp P ops Q i K a w:=by
 unfold Go.wpOp;simp only[hi];rcases hy with⟨hw,hv⟩|⟨hw,rfl⟩;·simp only[hw,if_true,Oper.wp,hv w (hr w),Oper.upon];exact .inl h
 simp_all
theorem y4j{j:Nat}{oj:Oper}(hj:ops[j]?=some oj)(hap:oi.apart ops oj=true)(hsi:∀cs b,oi.op≠.select cs b)(hsj:∀cs b,oj.op≠.select cs b)(hQ:∀c a w,¬Q (.panic c) a w){K:Act->World->Prop}{a:Act}{w:World}(h:wpOp P ops Q j K (a.put oi.dst v) w):wpOp P ops Q j (fun a' w'=>(execOp a'.eval oi=execOp a.eval oi/\Region.wanted oi (yielded ops a'.tmps)=Region.wanted oi (yielded ops a.tmps))/\K (a'.put oi.dst v) w') a w:=by
 obtain⟨h1,h2,h3⟩:=Oper.apart_spec hap;have keep:∀u,execOp (a.put oj.dst u).eval oi=execOp a.eval oi/\Region.wanted oi (yielded ops (a.put oj.dst u).tmps)=Region.wanted oi (yielded ops a.tmps):=fun u=>⟨execOp_put oi hsi a oj.dst u h3,wanted_put oi a oj.dst u h3⟩;unfold wpOp at*;simp only[hj]at*;rw[wanted_put oj a oi.dst v h1]at h;split
 .rename_i hw;simp only[hw,if_true]at h;rcases h with h|⟨hasks,hlets⟩;case inr=>exact .inr ⟨by unfold Oper.asks at*;rw[execOp_put oj hsj a oi.dst v h1]at hasks;omega,hlets⟩
  refine .inl ?_;unfold Oper.wp at*;rw[execOp_put oj hsj a oi.dst v h1]at h;generalize(execOp a.eval oj).run P w=r at*;cases r with
  |ok n w'=>
   cases n<;>simp only[Oper.upon]at h⊢;case value u=>exact⟨keep u,by rw[<-Act.put_comm a v u h2];exact h⟩
   case skip=>exact⟨keep _,by rw[<-Act.put_comm a v undef h2];exact h⟩
   case defer d=>refine⟨⟨execOp_put oi hsi {a with defers:=d::a.defers} oj.dst undef h3,wanted_put oi {a with defers:=d::a.defers} oj.dst undef h3⟩,?_⟩;rw[<-Act.put_comm _ v undef h2,<-Act.put_defers];exact h
   case enter f args=>refine Calls.mono h fun e w'' he=>?_;cases e with|returned u=>exact⟨keep u,by rw[<-Act.put_comm a v u h2];omega⟩|panicked c=>simp_all|outgrown=>omega
   case row row args=>exact Rows.mono h fun u w'' he=>⟨keep u,by rw[<-Act.put_comm a v u h2];omega⟩|halt x w'=>cases x<;>simp only[Oper.upon]at h⊢;simp_all
 .rename_i hw;simp only[hw]at h;exact⟨keep _,by rw[<-Act.put_comm a v undef h2];exact h⟩
theorem qbo{R:World->World->Prop}(hrf:∀w,R w w)(hrt:∀w1 w2 w3,R w1 w2->R w2 w3->R w1 w3)(hi:ops[i]?=some oi)(hsel:∀(j:Nat)(o:Oper)cs b,ops[j]?=some o->o.op≠.select cs b)(hQ:∀c a w,¬Q (.panic c) a w){B B':Nat->Nat->Nat->Prop}(hBB:∀j b o,B j b o->B' j b o)(huu:∀w,UU (B i) oi.op w w):∀(fuel:Nat)(listed:Array Bool)(a:Act)(w:World),(∀j oj,ops[j]?=some oj->j≠i->listed.getD j true=false->(∀e∈oj.after,Region.binds md e=true->e.on≠i)->oi.apart ops oj=true/\∀w w',UU (B' j) oj.op w w'->R w w')->i∈Region.ready md ops listed->YieldsR P ops R oi v a w->q6b P md ops Q fuel B' (listed.setIfInBounds i true) (a.put oi.dst v) w->q6b P md ops Q (fuel+1) B listed a w:=by
 have weak:∀(fuel:Nat)(listed:Array Bool)(a:Act)(w:World),q6b P md ops Q fuel B' listed a w->q6b P md ops Q fuel B listed a w:=by intro fuel;induction fuel with|zero=>intro _ _ _ h;exact h|succ n ih=>intro listed a w h;exact⟨h.1,fun k hk=>wpOp_mono (fun a' w' hh=>⟨fun o ho=>(hh.1 o ho).sub (hBB k),ih _ _ _ hh.2⟩) (h.2 k hk)⟩
 intro fuel;induction fuel with|zero=>
  intro listed a w _ hr hy H;refine⟨fun h=>(by simp_all),fun j hj=>?_⟩;by_cases hji:j=i;·subst hji;exact hy.wpOp hrf hi ⟨fun o ho=>by simp_all,weak _ _ _ _ H⟩
  .have:=ready_mono hj hji;rw[H.1]at this;grind|succ fuel ih=>
  intro listed a w hfree hr hy H;refine⟨fun h=>(by simp_all),fun j hj=>?_⟩;by_cases hji:j=i;·subst hji;exact hy.wpOp hrf hi ⟨fun o ho=>by grind,weak _ _ _ _ H⟩
  .have h1:=H.2 j (ready_mono hj hji);obtain⟨hjun,oj,hoj,hall⟩:=mem_ready.1 hj;have hnot:∀e∈oj.after,Region.binds md e=true->e.on≠i:=fun e he hb heq=>by have h1:=hall e he hb;have h0:=(mem_ready.1 hr).1;grind
   obtain⟨hap,hper⟩:=hfree j oj hoj hji hjun hnot;have h2:=y4j hoj hap (fun cs b=>hsel i oi cs b hi) (fun cs b=>hsel j oj cs b hoj) hQ h1;have hfree':∀k ok,ops[k]?=some ok->k≠i->(listed.setIfInBounds j true).getD k true=false->(∀e∈ok.after,Region.binds md e=true->e.on≠i)->oi.apart ops ok=true/\∀w w',UU (B' k) ok.op w w'->R w w':=fun k ok hk hki hun hno=>by
    refine hfree k ok hk hki ?_ hno;by_cases hjk:j=k;·grind
    .rw[getD_set_ne true hjk]at hun;omega
   refine wpOp_mono (fun a' w' h3=>?_) h2;obtain⟨⟨e1,e2⟩,h4,h5⟩:=h3;have hR:=hper w w' (h4 oj hoj);refine⟨fun o ho=>by rw[hoj]at ho;cases ho;exact(h4 oj hoj).sub (hBB j),ih (listed.setIfInBounds j true) a' w' hfree' (ready_mono hr (Ne.symm hji)) ?_ ?_⟩
   .rcases hy with⟨y1,y2⟩|⟨y1,y2⟩;·exact .inl ⟨by grind,fun w2 hw2=>by grind⟩
    .exact .inr ⟨by grind,y2⟩
   .rw[Array.setIfInBounds_comm _ _ hji];omega
end
def qq9(mode:Nat)(x y:Op):Bool:=q7u x||(q7i x&&(q7u y||q7i y||isNew y||(decide (1<=mode)&&(q5z y||q1n y||q19 y))))
def q7s(mode:Nat)(ops:Array Oper)(listed:Array Bool)(i:Nat):Bool:=match ops[i]? with|none=>false|some oi=>(q7u oi.op||q7i oi.op)&&(List.range ops.size).all fun j=>j==i||listed.getD j true||match ops[j]? with|some oj=>oj.after.any (fun e=>Region.binds .any e&&e.on==i)||(oi.apart ops oj&&qq9 mode oi.op oj.op)|none=>true
theorem qok{ops:Array Oper}(hi:ops[i]?=some oi)(h:q7s mode ops listed i=true):q7u oi.op=true\/q7i oi.op=true:=by simp only[q7s,hi,aT,Bool.or_eq_true]at h;grind
theorem qaf{ops:Array Oper}(hi:ops[i]?=some oi)(h:q7s mode ops listed i=true)(j:Nat)(oj:Oper)(hj:ops[j]?=some oj)(hne:j≠i)(hun:listed.getD j true=false)(hno:∀e∈oj.after,Region.binds .any e=true->e.on≠i):oi.apart ops oj=true/\qq9 mode oi.op oj.op=true:=by simp only[q7s,hi,aT]at h;grind
variable {E : Env0} {X : Cx} {s s1 : St} {a : Act} {w : World}
def q3q:Op->Bool|.store .. =>false|.call {callee:=.value _,.. }=>false|_=>true
theorem q5t{n:Nat}{f:FuncId}{r:Rule}{ops:Array Oper}(h:Rel E X s a w)(hd:∀t,o.dst=some t->t<a.tmps.size)(hs:q3q o.op=true)(hp:runOp E f r ops n o s=some s1):(Region.wanted o (yielded ops a.tmps)=false/\After E X w a.tmps.size s1 (a.put o.dst undef) w)\/(Region.wanted o (yielded ops a.tmps)=true/\q4f E (qao E.an f r ops o) s o.op=true/\∃fl q v s2,q01 E fl q o.op s=some (v,s2)/\∃val w1,(execOp a.eval o).run E.P w=.ok (.value val) w1/\After E X w a.tmps.size s1 (a.put o.dst val) w1):=by cases n with|zero=>simp[runOp]at hp|succ n=>simp only[runOp]at hp;cases hg:q17 ops s o with|none=>simp_all|some b=>have hwant:=q9p h hg;cases b with
   |false=>simp only[hg,sI]at hp;subst hp;refine .inl ⟨hwant,?_⟩;cases hdst:o.dst with|none=>exact⟨rfl,X,⟨[],by simp⟩,Ext.refl X w,h⟩|some t=>obtain⟨X',hmu,hE,hR⟩:=h.put (v:=.skipped) (val:=undef) (hd t hdst) rfl;exact⟨q4z a _ _,X',⟨[],by grind⟩,hE,hR⟩
   |true=>
    simp only[hg]at hp;refine .inr ⟨hwant,?_⟩;have simple:(if q4f E (qao E.an f r ops o) s o.op then match q01 E (E.an.flag f (o.dst.getD 0)) (r.draws&&!q4a ops o.op) o.op s with|some (v,s1)=>some ((s1.del (q5x o.op)).put o.dst (q4d (E.an.flag f (o.dst.getD 0)) v))|none=>none else none)=some s1:=by cases hop:o.op with
     |store t ad x=>rw[hop]at hs;cases hs|call c=>obtain⟨callee,args,ts⟩:=c;cases callee with|value g=>rw[hop]at hs;cases hs|builtin b=>simp only[hop]at hp;exact hp|invoke rc m=>simp only[hop]at hp;exact hp
     |_=>simp only[hop]at hp;exact hp
    split at simple;·rename_i hro;cases hst:q01 E (E.an.flag f (o.dst.getD 0)) (r.draws&&!q4a ops o.op) o.op s with|none=>simp[hst]at simple|some vs=>obtain⟨v,s2⟩:=vs;simp only[hst,sI]at simple;subst simple;obtain⟨val,w1,hr,X',hm,hE,hR⟩:=(qcs h o hst).put (E.an.flag f (o.dst.getD 0)) o.dst hd;exact⟨hro,_,_,v,s2,hst,val,w1,hr,q4z a _ _,X',hm,hE h.gdom,hR⟩
    simp_all
theorem qd4{P:Program}{ops:Array Oper}{Q:Exit->Act->World->Prop}{K:Act->World->Prop}{a:Act}{w w1:World}(hi:ops[i]?=some o)(hw:Region.wanted o (yielded ops a.tmps)=true)(hr:(execOp a.eval o).run P w=.ok (.value v) w1)(hK:K (a.put o.dst v) w1):wpOp P ops Q i K a w:=by unfold Go.wpOp;simp only[hi,hw,if_true,Oper.wp,hr,Oper.upon];simp_all
theorem qhf{P:Program}{ops:Array Oper}{Q:Exit->Act->World->Prop}{K:Act->World->Prop}{a:Act}{w:World}(hi:ops[i]?=some o)(hw:Region.wanted o (yielded ops a.tmps)=false)(hK:K (a.put o.dst undef) w):wpOp P ops Q i K a w:=by unfold Go.wpOp;simp_all
end Go.Ab

namespace Go.Ab
variable {k n o off : Nat} {a v w : AV} {p : Place} {x y : Operand} {t : TypeId} {op : Op} {P : Program} {fn : Func} {h' hp : Heap} {keep : Bool} {vs : List AV} {f : FuncId} {objs : List Nat} {r : Rule} {ops : Array Oper}
variable {E : Env0} {N : List Nat} {W : Nat -> AV} {hx : Heap} {s s' s1 : St}
structure Sim(N:List Nat)(W:Nat->AV)(hx:Heap)(s s':St):Prop where
 out:∀u,u∉N->get s'.env u=get s.env u
 inn:∀u,u∈N->get s.env u=.undef/\get s'.env u=W u
 calm:∀u,u∈N->(W u).placed=false/\(W u).isOwn=false
 heap:s'.heap=s.heap++hx
theorem Sim.ev(h:Sim N W hx s s'){x:Operand}(hx':∀t∈tmpOf x,t∉N):ev E s' x=ev E s x:=by cases x with|tmp t=>exact h.out t (hx' t (by simp[tmpOf]))|_=>rfl
theorem Sim.plainC(h:Sim N W hx s s'){x:Operand}(hx':∀t∈tmpOf x,t∉N):plainC E s' x=plainC E s x:=by cases x with|const v=>rfl|_=>simp only[Ab.plainC];rw[h.ev hx']
theorem Sim.plainsC(h:Sim N W hx s s'):∀{l:List Operand},(∀x∈l,∀t∈tmpOf x,t∉N)->plainsC E s' l=plainsC E s l|[],_=>rfl|x::r,hl=>by simp only[Ab.plainsC];rw[h.plainC (hl x (by simp)),h.plainsC (fun y hy=>hl y (by grind))]
theorem Sim.cell(h:Sim N W hx s s')(hv:q0i s.heap o off=v)(hne:v≠.undef):q0i s'.heap o off=v/\o<s.heap.length:=by
 have hlt:o<s.heap.length:=by
  by_cases hl:o<s.heap.length;·omega
  .exfalso;apply hne;rw[<-hv];simp only[q0i,List.getElem?_eq_none (Nat.not_lt.1 hl)]
 refine⟨?_,hlt⟩;rw[<-hv,h.heap];simp only[q0i,List.getElem?_append_left hlt]
theorem Sim.content(h:Sim N W hx s s'){p:Place}{v:AV}(hv:content s p=v)(hne:v≠.undef):content s' p=v:=by cases p with|slot t=>have ht:t∉N:=fun hm=>hne (by rw[<-hv];exact(h.inn t hm).1);rw[<-hv];exact h.out t ht|cell o off=>exact(h.cell hv hne).1
theorem Sim.putE(h:Sim N W hx s s'){t:Nat}(ht:t∉N)(v:AV):Sim N W hx {s with env:=putE s.env t v} {s' with env:=putE s'.env t v}:=by
 refine⟨fun u hu=>?_,fun u hu=>?_,h.calm,h.heap⟩;·simp only[q1i,h.out u hu,h.out t ht]
 .have hne:t≠u:=fun e=>ht (e▸hu);obtain⟨h1,h2⟩:=h.inn u hu;simp only[q1i,if_neg hne,h1,h2,y40 (h.calm u hu).1,Bool.and_false,fT,if_false];simp
theorem Sim.put(h:Sim N W hx s s'){d:Option Nat}(hd:∀t,d=some t->t∉N)(v:AV):Sim N W hx (s.put d v) (s'.put d v):=by cases d with|none=>exact h|some t=>exact h.putE (hd t rfl) v
theorem Sim.del(l:List Nat):∀{s s':St},Sim N W hx s s'->(∀t∈l,t∉N)->Sim N W hx (s.del l) (s'.del l):=by induction l with|nil=>intro s s' h _;exact h|cons t r ih=>intro s s' h hl;exact ih (h.putE (hl t (by simp)) .undef) (fun u hu=>hl u (by grind))
theorem Sim.setE(h:Sim N W hx s s'){t:Nat}(ht:t∉N)(v:AV):Sim N W hx {s with env:=setE s.env t v} {s' with env:=setE s'.env t v}:=by
 refine⟨fun u hu=>?_,fun u hu=>?_,h.calm,h.heap⟩;·simp only[q2a,h.out u hu]
 .have hne:t≠u:=fun e=>ht (e▸hu);simp only[q2a,if_neg hne];exact h.inn u hu
theorem Sim.kill(h:Sim N W hx s s'):Sim N W hx {s with env:=q0n s.env} {s' with env:=q0n s'.env}:=by
 refine⟨fun u hu=>?_,fun u hu=>?_,h.calm,h.heap⟩;·simp only[q3n,h.out u hu]
 .obtain⟨h1,h2⟩:=h.inn u hu;simp only[q3n,h1,h2,(h.calm u hu).1,fT,if_false,and_true];split<;>rfl
theorem y2z(h:v.placed=false)(l:List Nat):hits l v=false:=by simp[hits,h]
theorem Sim.killO(h:Sim N W hx s s')(l:List Nat):Sim N W hx {s with env:=q11 l s.env} {s' with env:=q11 l s'.env}:=by
 refine⟨fun u hu=>?_,fun u hu=>?_,h.calm,h.heap⟩;·simp only[q10,h.out u hu]
 .obtain⟨h1,h2⟩:=h.inn u hu;simp only[q10,h1,h2,y2z (h.calm u hu).1,fT,if_false,and_true];split<;>rfl
theorem Sim.heapSet(h:Sim N W hx s s')(o:Nat)(cs:List AV)(ho:o<s.heap.length):Sim N W hx {s with heap:=s.heap.set o cs} {s' with heap:=s'.heap.set o cs}:=by refine⟨h.out,h.inn,h.calm,?_⟩;show s'.heap.set o cs=_;rw[h.heap,List.set_append_left _ _ ho]
theorem Sim.setCell(h:Sim N W hx s s')(o off:Nat)(v:AV)(ho:o<s.heap.length):Sim N W hx {s with heap:=q0z s.heap o off v} {s' with heap:=q0z s'.heap o off v}:=by
 have h1:s'.heap[o]?=s.heap[o]?:=by rw[h.heap,List.getElem?_append_left ho]
 simp only[q0z,h1];cases hcs:s.heap[o]? with|none=>exact h|some cs=>exact h.heapSet o _ ho
theorem Sim.lendPlace(h:Sim N W hx s s'){p:Place}{v w:AV}(hv:Ab.content s p=v)(hne:v≠.undef):Sim N W hx (lendPlace s p w) (lendPlace s' p w):=by cases p with|slot t=>have ht:t∉N:=fun hm=>hne (by rw[<-hv];exact(h.inn t hm).1);exact h.setE ht w|cell o off=>exact h.setCell o off w (h.cell hv hne).2
theorem Sim.setPlace(h:Sim N W hx s s'){p:Place}{v w:AV}(hv:Ab.content s p=v)(hne:v≠.undef):Sim N W hx (setPlace s p w) (setPlace s' p w):=by cases p with|slot t=>have ht:t∉N:=fun hm=>hne (by rw[<-hv];exact(h.inn t hm).1);exact h.putE ht w|cell o off=>exact(h.kill).setCell o off w (h.cell hv hne).2
def SimO(N:List Nat)(W:Nat->AV)(hx:Heap)(a b:Option (AV×St)):Prop:=∀v s1,a=some (v,s1)->∃s2,b=some (v,s2)/\Sim N W hx s1 s2
def SimS(N:List Nat)(W:Nat->AV)(hx:Heap)(a b:Option St):Prop:=∀s1,a=some s1->∃s2,b=some s2/\Sim N W hx s1 s2
theorem Sim.readPlace(h:Sim N W hx s s')(fl:Flag)(q:Bool)(p:Place):SimO N W hx (readPlace fl q s p) (readPlace fl q s' p):=by
 intro v s1 hr;unfold Ab.readPlace at hr⊢;generalize hc:Ab.content s p=c at hr;have hne:c≠.undef:=by grind
 rw[h.content hc hne];cases c with
 |own xs l=>cases fl with|keep=>simp_all|view=>
   simp only at hr⊢;split at hr;·simp_all
   .rename_i hl;rw[if_neg hl];split at hr;·grind
    .rename_i hq;rw[if_neg hq];simp only[sI,pI]at hr⊢;obtain⟨rfl,rfl⟩:=hr;exact⟨_,⟨rfl,rfl⟩,h.lendPlace hc hne⟩
 |undef=>grind|skipped=>grind|loc p=>grind|elt p i o=>simp_all|seg p i o=>simp_all|agg cs=>grind|d x=>simp_all|ptr o a=>simp_all|view cs=>simp_all|ref o=>simp_all|fn f cs=>simp_all|tup cs=>simp_all
theorem Sim.elt(h:Sim N W hx s s'){i:Nat}{cs:List D}(hc:q33 s p i off=some cs):q33 s' p i off=some cs:=by
 unfold q33 at hc⊢;generalize hcc:Ab.content s p=c at hc;have hne:c≠.undef:=by rintro rfl;simp at hc
 rw[h.content hcc hne];omega
theorem q88(h:Heap)(o off:Nat)(v:AV):(q0z h o off v).length=h.length:=by unfold q0z;split<;>simp
theorem Sim.cell'(h:Sim N W hx s s')(ho:o<s.heap.length)(off:Nat):q0i s'.heap o off=q0i s.heap o off:=by rw[h.heap];simp only[q0i,List.getElem?_append_left ho]
theorem Sim.lendFrom:∀(n:Nat){s s':St}(o off:Nat),o<s.heap.length->Sim N W hx s s'->Sim N W hx (lendFrom s o off n) (lendFrom s' o off n)|0,_,_,_,_,_,h=>h|n+1,s,s',o,off,ho,h=>by simp only[Ab.lendFrom];rw[h.cell' ho];generalize hd:q0i s.heap o off=d;cases d with
  |own xs l=>cases l with|true=>exact Sim.lendFrom n o (off+1) ho h|false=>exact Sim.lendFrom n o (off+1) (by show o<(q0z s.heap o off _).length;rw[q88];omega) (h.lendPlace (p:=.cell o off) (v:=.own xs false) hd (by simp))
  |_=>exact Sim.lendFrom n o (off+1) ho h
theorem Sim.load(h:Sim N W hx s s')(fl:Flag)(q:Bool)(t:TypeId)(a:AV):SimO N W hx (q3p E fl q t a s) (q3p E fl q t a s'):=by
 intro v s1 hr;unfold q3p at hr⊢;split at hr
 .split at hr;·exact h.readPlace _ _ _ _ _ hr
  .simp only[sI,pI]at hr⊢;obtain⟨rfl,rfl⟩:=hr;exact⟨s',⟨rfl,rfl⟩,h⟩
  .rename_i p i off;split at hr;·rename_i c cs hc;simp only[h.elt hc];simp only[sI,pI]at hr⊢;obtain⟨rfl,rfl⟩:=hr;exact⟨s',⟨rfl,rfl⟩,h⟩
   .cases hr
  .cases hr
 .rename_i n hg hn;split at hr
  .rename_i o off;split at hr
   .rename_i cs hcs;have ho:o<s.heap.length:=(List.getElem?_eq_some_iff.1 hcs).1;have hcs':s'.heap[o]?=some cs:=by rw[h.heap,List.getElem?_append_left ho];exact hcs
    simp only[hcs'];split at hr
    .rename_i hle;rw[if_pos hle];split at hr
     .split at hr;·rename_i hl;rw[if_pos hl];simp only[sI,pI]at hr⊢;obtain⟨rfl,rfl⟩:=hr;exact⟨s',⟨rfl,rfl⟩,h⟩
      .rename_i hl;rw[if_neg hl];split at hr;·cases hr
       .rename_i hq;rw[if_neg hq];simp only[sI,pI]at hr⊢;obtain⟨rfl,rfl⟩:=hr;exact⟨_,⟨rfl,rfl⟩,Sim.lendFrom n o off ho h⟩
     .cases hr
    .cases hr
   .cases hr
  .split at hr;·rename_i hle;simp only[if_pos hle];simp only[sI,pI]at hr⊢;obtain⟨rfl,rfl⟩:=hr;exact⟨s',⟨rfl,rfl⟩,h⟩
   .cases hr
  .split at hr
   .rename_i cs hc;simp only[h.elt hc];split at hr;·rename_i hle;rw[if_pos hle];simp only[sI,pI]at hr⊢;obtain⟨rfl,rfl⟩:=hr;exact⟨s',⟨rfl,rfl⟩,h⟩
    .cases hr
   .cases hr
  .cases hr
 simp_all
theorem Sim.storeCells(h:Sim N W hx s s')(a:AV)(vs:List AV):SimS N W hx (q1r a vs s) (q1r a vs s'):=by
 intro s1 hr;unfold q1r at hr⊢;split at hr
 .rename_i o off;split at hr
  .rename_i cs hcs;have ho:o<s.heap.length:=(List.getElem?_eq_some_iff.1 hcs).1;have hcs':s'.heap[o]?=some cs:=by rw[h.heap,List.getElem?_append_left ho];exact hcs
   simp only[hcs'];split at hr
   .rename_i hle;rw[if_pos hle];simp only[sI]at hr⊢;subst hr;refine⟨_,rfl,?_⟩;by_cases hk:((cs.drop off).take vs.length++vs).any AV.isOwn=true;·simp only[hk,if_true];exact(h.killO _).heapSet o _ ho
    .simp only[hk,fT,if_false];exact h.heapSet o _ ho
   .cases hr
  .cases hr
 .rename_i p i off;split at hr
  .rename_i xs ds hc hds;simp only[h.content hc (by simp),hds];split at hr
   .split at hr;·rename_i hle;rw[if_pos hle];simp only[sI]at hr⊢;subst hr;exact⟨_,rfl,h.lendPlace hc (by simp)⟩
    .cases hr
   .cases hr
  .cases hr
 simp_all
theorem Sim.store(h:Sim N W hx s s')(t:TypeId){a:Operand}(ha:∀t∈tmpOf a,t∉N)(hx':∀t∈tmpOf x,t∉N):SimS N W hx (q62 E t a x s) (q62 E t a x s'):=by
 intro s1 hr;unfold q62 at hr⊢;rw[h.ev hx',h.ev ha];split at hr
 .split at hr;·rename_i hc;rw[if_pos hc];exact(h.del (tmpOf x) hx').storeCells _ _ s1 hr
  .cases hr
 simp_all
theorem Sim.parts:∀{l:List (Nat×Operand)}{s s':St},Sim N W hx s s'->(∀p∈l,∀t∈tmpOf p.2,t∉N)->q5e E s' l=q5e E s l|[],_,_,_,_=>rfl|(i,x)::r,s,s',h,hl=>by have h1:∀t∈tmpOf x,t∉N:=hl (i,x) (by simp);simp only[q5e];rw[h.ev h1,Sim.parts (h.del (tmpOf x) h1) (fun p hp=>hl p (by grind))]
theorem Sim.caps(h:Sim N W hx s s'):∀{l:List Operand},(∀x∈l,∀t∈tmpOf x,t∉N)->qb3 E s' l=qb3 E s l|[],_=>rfl|x::r,hl=>by simp only[qb3];rw[h.ev (hl x (by simp)),h.caps (fun y hy=>hl y (by grind))]
theorem Sim.args(h:Sim N W hx s s'):∀{l:List Operand},(∀x∈l,∀t∈tmpOf x,t∉N)->qaw E s' l=qaw E s l|[],_=>rfl|x::r,hl=>by simp only[qaw,argOf];rw[h.ev (hl x (by simp)),h.plainC (hl x (by simp)),h.args (fun y hy=>hl y (by grind))]
theorem Sim.len(h:Sim N W hx s s')(hn:lenA E t a s=some n):lenA E t a s'=some n:=by
 unfold lenA at hn⊢;split at hn;·exact hn
 .exact hn
 .rename_i p hu;split at hn;·rename_i xs l hc;rw[h.content hc (by simp)];exact hn
  .cases hn
 .rename_i o hu;split at hn;·rename_i xs l hc;have:q0i s'.heap o 0=_:=h.content (p:=.cell o 0) hc (by simp);rw[this];exact hn
  .cases hn
 .rename_i p lo hi hu;split at hn;·rename_i xs l hc;rw[h.content hc (by simp)];exact hn
  .cases hn
 omega
def noNew:Op->Bool|.alloc _|.box .. =>false|_=>true
theorem Sim.append(h:Sim N W hx s s')(q:Bool)(t:TypeId)(hx1:∀t∈tmpOf x,t∉N)(hy1:∀t∈tmpOf y,t∉N):SimO N W hx (q1v E q t x y s) (q1v E q t x y s'):=by
 intro v s1 hr;unfold q1v at hr⊢;rw[h.plainC hy1,h.ev hx1];split at hr
 .split at hr
  .rename_i b hb;split at hr
   .rename_i hcond;rw[if_pos hcond];split at hr
    .split at hr;·rename_i hc;rw[if_pos hc];simp only[sI,pI]at hr⊢;obtain⟨rfl,rfl⟩:=hr;exact⟨s',⟨rfl,rfl⟩,h⟩
     .cases hr
    .rename_i p hp;split at hr
     .rename_i xs l hc;simp only[h.content hc (by simp)];split at hr;·rename_i hc2;rw[if_pos hc2];simp only[sI,pI]at hr⊢;obtain⟨rfl,rfl⟩:=hr;exact⟨_,⟨rfl,rfl⟩,h.setPlace hc (by simp)⟩
      .cases hr
     .cases hr
    .cases hr
   .cases hr
  .cases hr
 simp_all
theorem Sim.copySrc(h:Sim N W hx s s')(hy1:∀t∈tmpOf y,t∉N){ys:List D}(hy:copySrc E s y=some ys):Ab.copySrc E s' y=some ys:=by
 unfold Ab.copySrc at hy⊢;rw[h.plainC hy1,h.ev hy1];split at hy;·omega
 .split at hy
  .split at hy;·rename_i xs l hc;simp only[h.content hc (by simp)];exact hy
   .cases hy
  omega
theorem Sim.copyO(h:Sim N W hx s s')(t u:TypeId)(hx1:∀t∈tmpOf x,t∉N)(hy1:∀t∈tmpOf y,t∉N):SimO N W hx (qdx E t u x y s) (qdx E t u x y s'):=by intro v s1 hr;unfold qdx at hr⊢;rw[h.ev hx1];cases hs:Ab.copySrc E s y with|none=>simp_all|some ys=>
  rw[h.copySrc hy1 hs];rw[hs]at hr;split at hr
  .split at hr
   .rename_i p lo hi zs e e' hev hz hte hte' _ xs hc;simp only[h.content hc (by simp)];split at hr;·rename_i hcond;rw[if_pos hcond];simp only[sI,pI]at hr⊢;obtain⟨rfl,rfl⟩:=hr;exact⟨_,⟨rfl,rfl⟩,h.lendPlace hc (by simp)⟩
    .cases hr
   .cases hr
  simp_all
theorem q1u(hm:x∈op.operands.toList){t:Nat}(ht:t∈tmpOf x):t∈q5u op:=List.mem_flatMap.2 ⟨x,hm,ht⟩
theorem SimO.same(h:Sim N W hx s s'){f:St->Option AV}(he:∀v,f s=some v->f s'=some v):SimO N W hx ((f s).map fun v=>(v,s)) ((f s').map fun v=>(v,s')):=by intro v s1 hr;cases hf:f s with|none=>simp_all|some w=>simp_all
theorem SimO.eq(h:Sim N W hx s s'):SimO N W hx (some (v,s)) (some (v,s')):=by intro w s1 hr;simp_all
theorem SimO.none(b:Option (AV×St)):SimO N W hx Option.none b:=by intro w s1 hr;grind
theorem SimO.const(h:Sim N W hx s s')(o:Option AV):SimO N W hx (o.map fun v=>(v,s)) (o.map fun v=>(v,s')):=by cases o with|none=>exact SimO.none _|some v=>exact SimO.eq h
theorem SimO.mapD(h:Sim N W hx s s'){α:Type}(o:Option α)(f:α->AV):SimO N W hx (o.map fun v=>(f v,s)) (o.map fun v=>(f v,s')):=by cases o with|none=>exact SimO.none _|some v=>exact SimO.eq h
theorem Sim.own(h:Sim N W hx s s')(ho:(Ab.content s p).isOwn=true):(Ab.content s' p).isOwn=true:=by rw[h.content (p:=p) rfl (by intro e;rw[e]at ho;cases ho)];omega
theorem Sim.segBase(h:Sim N W hx s s'){q:Place×Nat×Nat×List D}(hq:segBase s a=some q):Ab.segBase s' a=some q:=by cases a with
 |loc p=>
  simp only[Ab.segBase]at hq⊢;split at hq;·rename_i xs l hc;rw[h.content hc (by simp)];exact hq
  simp_all|ref o=>
  simp only[Ab.segBase]at hq⊢;split at hq;·rename_i xs l hc;have:q0i s'.heap o 0=_:=h.content (p:=.cell o 0) hc (by simp);rw[this];exact hq
  simp_all|seg p lo hi=>
  simp only[Ab.segBase]at hq⊢;split at hq;·rename_i xs l hc;rw[h.content hc (by simp)];exact hq
  simp_all|_=>cases hq
theorem Sim.slice(h:Sim N W hx s s'){lo hi mx:Option Operand}(h1:∀t∈tmpOf x,t∉N)(h2:∀y,lo=some y->∀t∈tmpOf y,t∉N)(h3:∀y,hi=some y->∀t∈tmpOf y,t∉N)(hv:q5l E t x lo hi mx s=some v):q5l E t x lo hi mx s'=some v:=by
 have hm:∀(o:Option Operand),(∀y,o=some y->∀t∈tmpOf y,t∉N)->o.map (Ab.ev E s')=o.map (Ab.ev E s):=by intro o ho;cases o with|none=>rfl|some y=>simp only[mS];rw[h.ev (ho y rfl)]
 unfold q5l at hv⊢;rw[h.plainC h1,hm lo h2,hm hi h3];split at hv;·omega
 .omega
 .rw[h.ev h1];unfold segOp at hv⊢;rw[hm lo h2,hm hi h3];cases hb:Ab.segBase s (Ab.ev E s x)with|none=>simp_all|some q=>rw[h.segBase hb];simp_all
theorem Sim.indexAddr(h:Sim N W hx s s'){n:Int}(hv:q1c E t a n s=some v):q1c E t a n s'=some v:=by
 unfold q1c at hv⊢;split at hv
 .rename_i e p hu;split at hv;·rename_i xs l sz hc hsz;simp only[h.content hc (by simp),hsz];exact hv
  .cases hv
 .rename_i e o hu;split at hv;·rename_i xs l sz hc hsz;have:q0i s'.heap o 0=_:=h.content (p:=.cell o 0) hc (by simp);simp only[this,hsz];exact hv
  .cases hv
 .rename_i e p lo hi hu;split at hv;·rename_i xs l sz hc hsz;simp only[h.content hc (by simp),hsz];exact hv
  .cases hv
 .exact hv
 .exact hv
 .exact hv
 omega
theorem Sim.step(h:Sim N W hx s s')(fl:Flag)(q:Bool)(op:Op)(ht:∀t∈q5u op,t∉N)(hnew:hx=[]\/noNew op=true):SimO N W hx (q01 E fl q op s) (q01 E fl q op s'):=by have hop:∀x∈op.operands.toList,∀t∈tmpOf x,t∉N:=fun x hx1 t ht1=>ht t (q1u hx1 ht1);cases op with
 |move x=>have hx1:=hop x (by simp[Op.operands]);cases x with|tmp t=>exact h.readPlace fl q (.slot t)|_=>simp only[q01];rw[h.ev hx1];exact SimO.const h _
 |assign x=>have hx1:=hop x (by simp[Op.operands]);simp only[q01];rw[h.ev hx1];exact SimO.const h _|pick c a b=>
  have hc:=hop c (by simp[Op.operands]);have ha:=hop a (by simp[Op.operands]);have hb:=hop b (by simp[Op.operands]);simp only[q01];rw[h.ev hc];split;·rename_i t _;cases t with|true=>simp only[if_true];rw[h.plainC ha];exact SimO.mapD h _ _|false=>simp only[fT,if_false];rw[h.plainC hb];exact SimO.mapD h _ _
  .exact SimO.none _|alloc e=>
  rcases hnew with rfl|hn
  .simp only[q01];have hh:s'.heap=s.heap:=by rw[h.heap,List.append_nil]
   rw[hh];cases q3d E.P e with|none=>exact SimO.none _|some z=>intro v s1 hr;simp only[mS,sI,pI]at hr⊢;obtain⟨rfl,rfl⟩:=hr;exact⟨_,⟨rfl,rfl⟩,h.out,h.inn,h.calm,by simp⟩
  .cases hn|box e x=>
  have hx1:=hop x (by simp[Op.operands]);rcases hnew with rfl|hn
  .simp only[q01];have hh:s'.heap=s.heap:=by rw[h.heap,List.append_nil]
   rw[hh,h.ev hx1];split
   .split;·intro v s1 hr;simp only[sI,pI]at hr⊢;obtain⟨rfl,rfl⟩:=hr;exact⟨_,⟨rfl,rfl⟩,h.out,h.inn,h.calm,by simp⟩
    .exact SimO.none _
   .exact SimO.none _
  .cases hn|build t parts=>
  simp only[q01];rw[Sim.parts h (fun p hp=>hop p.2 (by simp only[Op.operands,List.toList_toArray];grind))];split
  .split;·exact SimO.mapD h _ _
   .exact SimO.none _
  .exact SimO.none _|buildSlice t n parts=>
  simp only[q01];rw[h.plainsC (fun x hx1=>hop x (by simpa[Op.operands]using hx1))];split
  .split;·exact SimO.eq h
   .exact SimO.none _
  .exact SimO.none _|load t a=>have ha:=hop a (by simp[Op.operands]);simp only[q01];rw[h.ev ha];exact h.load fl q t _|nilCheck x=>
  have hx1:=hop x (by simp[Op.operands]);simp only[q01];rw[h.ev hx1];split;·exact SimO.eq h
  .exact SimO.eq h
  .intro v s1 hr;split at hr;·rename_i ho;rw[if_pos (h.own ho)];exact SimO.eq h v s1 hr
   simp_all
  .exact SimO.eq h
  .exact SimO.none _|binOp o t x y t'=>
  have hx1:=hop x (by simp[Op.operands]);have hy1:=hop y (by simp[Op.operands]);simp only[q01];rw[h.plainC hx1,h.plainC hy1];split;·exact SimO.mapD h _ _
  .exact SimO.mapD h _ _
  .exact SimO.none _|unOp o t x=>
  have hx1:=hop x (by simp[Op.operands]);simp only[q01];rw[h.plainC hx1];split;·exact SimO.mapD h _ _
  .exact SimO.none _|convert src dst x=>
  have hx1:=hop x (by simp[Op.operands]);simp only[q01,q89];rw[h.plainC hx1];split;·exact SimO.mapD h _ fun v=>v
  split;·exact SimO.eq h
  .exact SimO.eq h
  .exact SimO.none _|makeSlice t l c=>
  have hl:=hop l (by simp[Op.operands]);have hc:=hop c (by simp[Op.operands]);simp only[q01];rw[h.plainC hl,h.plainC hc];split
  .split
   .split;·exact SimO.eq h
    .exact SimO.none _
   .exact SimO.none _
  .exact SimO.none _|slice t x lo hi mx=>simp only[q01];exact SimO.same h fun v hv=>h.slice (hop x (by simp[Op.operands])) (fun y e=>hop y (by simp[Op.operands,e])) (fun y e=>hop y (by simp[Op.operands,e])) hv|fieldAddr t x i=>
  have hx1:=hop x (by simp[Op.operands]);simp only[q01];rw[h.ev hx1];split
  .split
   .split;·exact SimO.eq h
    .exact SimO.eq h
    .intro v s1 hr;split at hr;·rename_i ho;rw[if_pos (h.own ho)];exact SimO.eq h v s1 hr
     simp_all
    .exact SimO.none _
   .exact SimO.none _
  .exact SimO.none _|field t x i=>
  have hx1:=hop x (by simp[Op.operands]);simp only[q01];rw[h.plainC hx1];split;·exact SimO.mapD h _ _
  .exact SimO.none _|indexAddr t x i=>
  have hx1:=hop x (by simp[Op.operands]);have hi:=hop i (by simp[Op.operands]);simp only[q01];rw[h.ev hi,h.ev hx1];split;·intro v s1 hr;rename_i n hn;cases hq:q1c E t (Ab.ev E s x) n s with|none=>simp_all|some w=>rw[hq]at hr;rw[h.indexAddr hq];simp_all
  .exact SimO.none _|index t x i=>
  have hx1:=hop x (by simp[Op.operands]);have hi:=hop i (by simp[Op.operands]);simp only[q01];rw[h.ev hi,h.plainC hx1];split;·exact SimO.mapD h _ _
  .exact SimO.none _|extract x i=>
  cases x with|tmp t=>
   have ht':get s'.env t=get s.env t:=h.out t (hop (.tmp t) (by simp[Op.operands]) t (by simp[tmpOf]));simp only[q01];rw[ht'];split
   .split;·exact SimO.eq h
    .exact SimO.eq h
    .exact SimO.eq h
    .exact SimO.none _
   .exact SimO.none _|_=>exact SimO.none _
 |makeFunc fn first caps=>
  cases fn with|func f=>
   simp only[q01];split;·rw[h.caps (fun x hx1=>hop x (by simp only[Op.operands,Array.toList_append];simp_all))];exact SimO.mapD h _ _
   .exact SimO.none _|_=>exact SimO.none _
 |call c=>obtain⟨callee,args,ts⟩:=c;cases callee with
  |builtin b=>
   have hargs:∀x∈args.toList,∀t∈tmpOf x,t∉N:=fun x hx1=>hop x (by simpa[Op.operands,Call.operands]using hx1);simp only[q01];unfold q2m;split;·rename_i x t h1 h2;have hx1:=hargs x (by simp_all);rw[h.ev hx1];intro v s1 hr;cases hl:lenA E t (Ab.ev E s x) s with|none=>simp_all|some n=>rw[hl]at hr;rw[h.len hl];simp_all
   .rename_i x y h1;rw[h.plainC (hargs x (by simp_all)),h.plainC (hargs y (by simp_all))];split;·exact SimO.eq h
    .exact SimO.none _
   .rename_i x y h1;rw[h.plainC (hargs x (by simp_all)),h.plainC (hargs y (by simp_all))];split;·exact SimO.eq h
    .exact SimO.none _
   .rename_i x y t u h1 h2;split;·exact h.append q t (hargs x (by simp_all)) (hargs y (by simp_all))
    .exact SimO.none _
   .rename_i x y t u h1 h2;split;·exact SimO.none _
    .exact h.copyO t u (hargs x (by simp_all)) (hargs y (by simp_all))
   .exact SimO.none _|_=>exact SimO.none _
 |_=>exact SimO.none _
theorem qnu{o:Nat}:∀(l seen:List Nat),o∈seen->o∈q4q seen l|[],_,h=>h|p::r,seen,h=>by simp only[q4q];refine qnu r _ ?_;grind
theorem qus{h:Heap}:∀{n:Nat}{seen objs:List Nat},reach h n seen=some objs->∀o∈seen,o∈objs
 |0,_,_,hr=>by simp[reach]at hr|n+1,seen,objs,hr=>by
  simp only[reach]at hr;split at hr;·simp_all
  .exact fun o ho=>qus hr o (qnu _ _ ho)
theorem qtl{h hx:Heap}:∀{n m:Nat}{seen objs:List Nat},reach h n seen=some objs->n<=m->(∀o∈objs,o<h.length)->reach (h++hx) m seen=some objs
 |0,_,_,_,hr,_,_=>by simp[reach]at hr|n+1,0,_,_,_,hm,_=>by omega|n+1,m+1,seen,objs,hr,hm,hl=>by
  have hs:=qus hr;have he:(seen.flatMap fun o=>(((h++hx)[o]?).getD []).flatMap q05)=seen.flatMap fun o=>((h[o]?).getD []).flatMap q05:=by clear hr;induction seen with|nil=>rfl|cons o r ih=>grind
  simp only[reach,he]at hr⊢;split at hr;·simp_all
  .rename_i hc;rw[if_neg hc];exact qtl hr (by omega) hl
theorem qio{h:Heap}:∀{l:List Nat}{hs:Heap},q4e h l=some hs->∀o∈l,o<h.length
 |[],_,_=>by simp|o::r,hs,hc=>by
  simp only[q4e]at hc;split at hc
  .rename_i cs hs' h1 h2;intro p hp;rcases List.mem_cons.1 hp with rfl|hp;·exact(List.getElem?_eq_some_iff.1 h1).1
   .exact qio h2 p hp
  simp_all
theorem qmw{h hx:Heap}:∀{l:List Nat}{hs:Heap},q4e h l=some hs->q4e (h++hx) l=some hs
 |[],_,hc=>hc|o::r,hs,hc=>by
  have hlt:=qio hc o (by simp);simp only[q4e]at hc⊢;rw[List.getElem?_append_left hlt];split at hc;·rename_i cs hs' h1 h2;rw[h1,qmw h2];exact hc
  simp_all
theorem qua(vs:List AV)(hn:∀v∈vs,∀us,v≠.tup us):q3a (q0o vs)=vs.flatMap q05:=by match vs,hn with
 |[],_=>rfl|[v],hn=>simp only[q0o,List.flatMap_cons,List.flatMap_nil,List.append_nil];cases v with|tup us=>simp_all|_=>rfl
 |v::w::r,_=>rfl
theorem qsc(h:outOf v=some w):∀us,w≠.tup us:=by
 rintro us rfl;unfold outOf at h;split at h;·cases h
 .cases h
 .cases h
 simp_all
theorem quv{s:St}{x:ResultVar}(h:q55 P s x=some w):∀us,w≠.tup us:=by cases x with|tmp t=>exact qsc h|cell a t=>
  simp only[q55]at h;split at h
  .split at h
   .split at h;·rintro us rfl;simp only[Option.map_eq_some_iff]at h;obtain⟨d,_,hd⟩:=h;cases hd
    .cases h
   .split at h;·exact qsc h
    .cases h
   .cases h
  grind
theorem qh9{P:Program}{s:St}:∀{l:List ResultVar}{vs:List AV},q1m P s l=some vs->∀v∈vs,∀us,v≠.tup us
 |[],vs,h=>by simp only[q1m,sI]at h;simp_all|x::l,vs,h=>by
  simp only[q1m]at h;split at h
  .rename_i v vs' h1 h2;simp only[sI]at h;subst h;intro u hu;rcases List.mem_cons.1 hu with rfl|hu;·exact quv h1
   .exact qh9 h2 u hu
  grind
theorem qzt{s:St}(h:leave P fn k s=some (v,h')):(∀p∈q3a v,p<h'.length)/\∀cs∈h',∀c∈cs,∀p∈q05 c,p<h'.length:=by unfold leave at h;cases hvs:q1m P s fn.results.toList with|none=>simp_all|some vs=>
  simp only[hvs]at h;have ht:=qua vs (qh9 hvs);split at h;·cases h
  split at h
  .rename_i hc;split at h
   .rename_i hf;simp only[sI,pI]at h;obtain⟨rfl,rfl⟩:=h;simp only[aT,dT']at hf;have hl:(s.heap.take k).length=k:=by simp;omega
    simp only[List.all_append,aT,List.all_eq_true,dT']at hc;rw[hl,ht];exact⟨hc.1,fun cs hcs c hcm p hp=>hc.2 p (List.mem_flatMap.2 ⟨cs,hcs,List.mem_flatMap.2 ⟨c,hcm,hp⟩⟩)⟩
   .cases h
  grind
theorem q9u{h:Heap}(ht:q2r k h=true):∀cs∈h.take k,∀c∈cs,∀p∈q05 c,p<k:=by simp only[q2r,List.all_eq_true,dT']at ht;omega
theorem qlz{own:Bool}{s:St}(h:qbh own P fn k s=some (v,h')):(∀p∈q3a v,p<h'.length)/\∀cs∈h',∀c∈cs,∀p∈q05 c,p<h'.length:=by
 unfold qbh at h;split at h
 .unfold qmk at h;split at h
  .split at h
   .split at h
    .rename_i hc;simp only[aT,dT']at hc;simp only[sI,pI]at h;obtain⟨rfl,rfl⟩:=h;rename_i xs _;have hl:(s.heap.take k++[[AV.own xs false]]).length=k+1:=by simp;omega
     rw[hl];refine⟨fun p hp=>by simp[q3a,q05]at hp;omega,fun cs hcs c hcm p hp=>?_⟩;rcases List.mem_append.1 hcs with hcs|hcs;·have:=q9u hc.1 cs hcs c hcm p hp;omega
     .rw[List.mem_singleton]at hcs;subst hcs;rw[List.mem_singleton]at hcm;subst hcm;simp[q05]at hp
    .cases h
   .cases h
  .split at h
   .split at h
    .split at h
     .rename_i hc;simp only[aT,dT']at hc;simp only[sI,pI]at h;obtain⟨rfl,rfl⟩:=h;rename_i xs _;have hl:(s.heap.take k++[[AV.own xs false]]).length=k+1:=by simp;omega
      rw[hl];refine⟨fun p hp=>by simp[q3a,q05]at hp;omega,fun cs hcs c hcm p hp=>?_⟩;rcases List.mem_append.1 hcs with hcs|hcs;·have:=q9u hc.1.1 cs hcs c hcm p hp;omega
      .rw[List.mem_singleton]at hcs;subst hcs;rw[List.mem_singleton]at hcm;subst hcm;simp[q05]at hp
     .cases h
    .cases h
   .cases h
  grind
 .exact qzt h
theorem qw3{q:AV×Heap}(hq:(∀p∈q3a q.1,p<q.2.length)/\∀cs∈q.2,∀c∈cs,∀p∈q05 c,p<q.2.length):(∀p∈q3a (q7v keep k q).1,p<(q7v keep k q).2.length)/\∀cs∈(q7v keep k q).2,∀c∈cs,∀p∈q05 c,p<(q7v keep k q).2.length:=by
 unfold q7v;split
 .split
  .rename_i hc;simp only[aT,dT']at hc;split
   .rename_i xs hdr;have hl:(q.2.take k).length=k:=by have:=congrArg List.length hdr;simp at this⊢;omega
    simp only[hl];refine⟨fun p hp=>?_,fun cs hcs c hcm p hp=>q9u hc.2 cs hcs c hcm p hp⟩;cases keep<;>simp[q3a,q05]at hp
   .exact hq
  .exact hq
 .split
  .rename_i hc;simp only[aT,dT']at hc;split
   .rename_i xs hdr;have hl:(q.2.take k).length=k:=by have:=congrArg List.length hdr;simp at this⊢;omega
    simp only[hl];refine⟨fun p hp=>?_,fun cs hcs c hcm p hp=>q9u hc.2 cs hcs c hcm p hp⟩;cases keep<;>simp[q3a,q05]at hp
   .exact⟨fun p hp=>by simp[q3a,q05]at hp,hq.2⟩
  .exact⟨fun p hp=>by simp[q3a,q05]at hp,hq.2⟩
 omega
theorem qpa{step:Int->Heap->Option (AV×Heap)}(hs:∀x hp v h',step x hp=some (v,h')->∀cs∈h',∀c∈cs,∀p∈q05 c,p<h'.length):∀{xs:List Int}{hp h':Heap}{v:AV},(∀cs∈hp,∀c∈cs,∀p∈q05 c,p<hp.length)->seekA step xs hp=some (v,h')->(∀p∈q3a v,p<h'.length)/\∀cs∈h',∀c∈cs,∀p∈q05 c,p<h'.length
 |[],hp,h',v,h0,h=>by simp only[seekA,sI,pI]at h;obtain⟨rfl,rfl⟩:=h;exact⟨fun p hp=>by simp[q3a,q05]at hp,h0⟩|x::r,hp,h',v,h0,h=>by
  simp only[seekA]at h;split at h;·rename_i h1;simp only[sI,pI]at h;obtain⟨rfl,rfl⟩:=h;exact⟨fun p hp=>by simp[q3a,q05]at hp,hs _ _ _ _ h1⟩
  .rename_i h1;exact qpa hs (hs _ _ _ _ h1) h
  grind
theorem qur{m:List AV->Heap->Option (AV×Heap)}(h:libA m vs hp=some (v,h')):m vs hp=some (v,h')/\(∀p∈q3a v,p<h'.length)/\∀cs∈h',∀c∈cs,∀p∈q05 c,p<h'.length:=by
 unfold libA at h;split at h
 .rename_i q hq;split at h;·rename_i hc;cases h;simp only[aT,List.all_eq_true,dT']at hc;refine⟨hq,hc.1,fun cs hcs c hcc p hp=>?_⟩;have:=hc.2;simp only[q2r,List.take_length,List.all_eq_true,dT']at this;exact this cs hcs c hcc p hp
  .cases h
 grind
theorem y1v:∀{n:Nat}{f:FuncId}{vs:List AV}{hp h':Heap}{v:AV}(_:call E n f vs hp=some (v,h')),(∀p∈q3a v,p<h'.length)/\∀cs∈h',∀c∈cs,∀p∈q05 c,p<h'.length:=by intro n;induction n with|zero=>intro f vs hp h' v h;simp[call]at h|succ n ih=>
  intro f vs hp h' v h;simp only[call]at h;split at h
  .split at h
   .split at h
    .split at h;·exact(qur h).2
     .cases h
    .exact(qur h).2
   split at h
   .split at h
    .split at h;·rename_i ht;exact qpa (fun x hp v h' hh=>(ih hh).2) (fun cs hcs c hc p hp=>by rw[aT]at ht;have ht1:=ht.1;simp only[q2r,List.take_length,List.all_eq_true,dT']at ht1;exact ht1 cs hcs c hc p hp) h
     .cases h
    .cases h
   split at h
   .split at h
    .split at h
     .split at h;·exact qlz (qaj h)
      .exact qlz (qaj h)
      .cases h
     .cases h
    .cases h
   .cases h
  grind
theorem y0g(h:(call E n f vs hp).map (q7v keep k)=some (v,h')):(∀p∈q3a v,p<h'.length)/\∀cs∈h',∀c∈cs,∀p∈q05 c,p<h'.length:=by simp only[Option.map_eq_some_iff]at h;obtain⟨⟨v0,h0⟩,h1,h2⟩:=h;have:=qw3 (keep:=keep) (k:=k) (q:=(v0,h0)) (y1v h1);grind
theorem qna{ρ ρ':Nat->Nat}{c:AV}(h:∀p∈q05 c,ρ p=ρ' p):renAV ρ c=renAV ρ' c:=by cases c with|ptr o a=>simp only[renAV];rw[h o (by simp[q05])]|ref o=>simp only[renAV];rw[h o (by simp[q05])]|fn f cs=>simp only[renAV];congr 1;apply List.map_congr_left;rintro⟨o,a⟩hm;rw[h o (by simp only[q05];grind)]|_=>rfl
theorem qt0{ρ ρ':Nat->Nat}(h:∀p∈q3a v,ρ p=ρ' p):qav ρ v=qav ρ' v:=by
 have key:∀c:AV,(∀us,c≠.tup us)->q3a c=q05 c/\∀ρ,qav ρ c=renAV ρ c:=by intro c hc;cases c with|tup us=>simp_all|_=>exact⟨rfl,fun _=>rfl⟩
 by_cases ht:∃us,v=.tup us;·obtain⟨us,rfl⟩:=ht;simp only[qav];congr 1;apply List.map_congr_left;intro c hc;exact qna (fun p hp=>h p (List.mem_flatMap.2 ⟨c,hc,hp⟩))
 .obtain⟨h1,h2⟩:=key v (fun us e=>ht ⟨us,e⟩);rw[h2,h2];exact qna (fun p hp=>h p (by simp_all))
theorem qt1{a b j:Nat}(h:j<objs.length):q0u objs a j=q0u objs b j:=by simp only[q0u,List.getElem?_eq_getElem h]
theorem qgz:∀(os:List Nat)(h hx r:Heap),(∀o∈os,o<h.length)->q25 (h++hx) os r=q25 h os r++hx|[],h,hx,r,_=>by cases r<;>rfl|o::os,h,hx,[],_=>rfl|o::os,h,hx,cs::r,hl=>by simp only[q25];rw[List.set_append_left _ _ (hl o (by simp)),qgz os (h.set o cs) hx r (fun p hp=>by simp_all)]
theorem y2a(h:v.placed=false):hits objs v=false:=by simp[hits,h]
theorem Sim.callA(h:Sim N W hx s s')(hd:r.draws=true){dst:Option Nat}(hdst:∀t,dst=some t->t∉N):SimS N W hx (Ab.callA E r n f vs dst s) (Ab.callA E r n f vs dst s'):=by intro s1 hr;cases n with|zero=>simp[Ab.callA]at hr|succ n=>
  obtain⟨objs,hs,v,h',h1,h2,h3,h4,h5,rfl⟩:=q5g hr;have hlt:=qio h3;have h1':reach s'.heap (s'.heap.length+1) (q4q [] (vs.flatMap q05))=some objs:=by rw[h.heap];exact qtl h1 (by simp) hlt
  have h3':q4e s'.heap objs=some hs:=by rw[h.heap];exact qmw h3
  have hall:(!r.draws||objs.all (fun o=>!above r.mode o))=true:=by simp_all
  have hle:=h5 hd;have h7:(r.draws&&decide (objs.length<h'.length))=false:=by simp_all
  obtain⟨p1,p2⟩:=y0g h4;have hb:∀p,p<h'.length->q0u objs s'.heap.length p=q0u objs s.heap.length p:=fun p hp=>qt1 (by omega);refine⟨St.put (q4c s' objs h') dst (qav (q0u objs s'.heap.length) v),?_,?_⟩;·simp only[Ab.callA,h1',hall,if_true,h3',h4,h7,fT,if_false]
  .rw[qt0 (fun p hp=>hb p (p1 p hp))];refine Sim.put ?_ hdst _;have hmap:(h'.map fun cs=>cs.map (renAV (q0u objs s'.heap.length)))=h'.map fun cs=>cs.map (renAV (q0u objs s.heap.length)):=by apply List.map_congr_left;intro cs hcs;apply List.map_congr_left;intro c hc;exact qna (fun p hp=>hb p (p2 cs hcs c hc p hp))
   have hdrop:h'.drop objs.length=[]:=List.drop_eq_nil_of_le hle;refine⟨fun u hu=>?_,fun u hu=>?_,h.calm,?_⟩;·show get (q11 objs s'.env) u=get (q11 objs s.env) u;rw[q10,q10,h.out u hu]
   .show get (q11 objs s.env) u=.undef/\get (q11 objs s'.env) u=W u;obtain⟨e1,e2⟩:=h.inn u hu;rw[q10,q10,e1,e2,y2a (h.calm u hu).1];simp
   .simp only[q4c,hmap,hdrop,List.map_nil,List.append_nil];rw[h.heap,qgz objs s.heap hx _ hlt]
def q69(ops:Array Oper)(o:Oper):List Nat:=o.dst.toList++(q5u o.op++match o.guard with|some (j,_)=>(match ops[j]? with|some p=>p.dst.toList|none=>[])|none=>[])
theorem Sim.guard(h:Sim N W hx s s'){o:Oper}(hn:∀t∈q69 ops o,t∉N):q17 ops s' o=q17 ops s o:=by unfold q17;cases hg:o.guard with|none=>rfl|some p=>obtain⟨j,want⟩:=p;simp only;cases hj:ops[j]? with|none=>rfl|some q=>simp only[bS];cases hq:q.dst with|none=>rfl|some t=>have:t∉N:=hn t (by simp[q69,hg,hj,hq]);simp only[mS,h.out t this]
theorem qcp(op:Op):∀t∈q5x op,t∈q5u op:=by
 intro t ht;unfold q5x at ht;split at ht;·cases ht
 .exact q1u (by simp[Op.operands]) ht
 .exact q1u (by simp[Op.operands]) ht
 .exact q1u (by simp[Op.operands]) ht
 .obtain⟨p,hp,hpt⟩:=List.mem_flatMap.1 ht;exact q1u (by simp only[Op.operands,List.toList_toArray];exact List.mem_map.2 ⟨p,hp,rfl⟩) hpt
 .split at ht;·rename_i x r hx;exact q1u (by simp[Op.operands,Call.operands,hx]) ht
  .cases ht
 simp_all
theorem Sim.cellShared(h:Sim N W hx s s')(hx1:∀t∈tmpOf x,t∉N):Ab.cellShared s' x=Ab.cellShared s x:=by cases x with|tmp u=>simp only[Ab.cellShared,h.out u (hx1 u (by simp[tmpOf]))]|_=>rfl
theorem Sim.shareOf(h:Sim N W hx s s')(hx1:∀t∈tmpOf x,t∉N):Ab.shareOf s' x=Ab.shareOf s x:=by cases x with
 |tmp u=>have hu:=h.out u (hx1 u (by simp[tmpOf]));simp only[Ab.shareOf,hu];generalize get s.env u=c;cases c with
  |loc p=>
   cases p with|slot t=>
    simp only;by_cases ht:t∈N;·obtain⟨h1,h2⟩:=h.inn t ht;have h3:=h.calm t ht;rw[h1,h2];generalize W t=d at h3;cases d with|own xs l=>exact absurd h3.2 (by simp[AV.isOwn])|_=>rfl
    .rw[h.out t ht]|cell o off=>rfl
  |own xs l=>cases l<;>rfl|_=>rfl
 |_=>rfl
theorem Sim.reads(h:Sim N W hx s s')(ht:∀t∈q5u op,t∉N):q4f E r s' op=q4f E r s op:=by unfold q4f;congr 1;cases op with|load t x=>simp only;rw[h.ev (fun t ht1=>ht t (q1u (by simp[Op.operands]) ht1))]|_=>rfl
theorem Sim.runOp(h:Sim N W hx s s')(hd:r.draws=true){o:Oper}(hn:∀t∈q69 ops o,t∉N)(hnew:hx=[]\/noNew o.op=true):SimS N W hx (Ab.runOp E f r ops n o s) (Ab.runOp E f r ops n o s'):=by intro s1 hr;cases n with|zero=>simp[Ab.runOp]at hr|succ n=>have hdst:∀t,o.dst=some t->t∉N:=fun t e=>hn t (by simp[q69,e]);have hop:∀t∈q5u o.op,t∉N:=fun t ht=>hn t (by simp[q69,ht]);simp only[Ab.runOp]at hr⊢;rw[h.guard hn];cases hg:q17 ops s o with|none=>simp_all|some b=>cases b with|false=>simp only[hg,sI]at hr⊢;subst hr;exact⟨_,rfl,h.put hdst _⟩|true=>
    simp only[hg]at hr⊢;split at hr
    .rename_i t a x ho;have hsto:qdk E (qc9 r ops o) s' a=qdk E (qc9 r ops o) s a:=by unfold qdk;rw[h.ev (fun u hu=>hop u (by rw[ho];exact q1u (by simp[Op.operands]) hu))]
     rw[hsto];split at hr;·rename_i hdn;rw[if_pos hdn];exact h.store t (fun u hu=>hop u (by rw[ho];exact q1u (by simp[Op.operands]) hu)) (fun u hu=>hop u (by rw[ho];exact q1u (by simp[Op.operands]) hu)) s1 hr
     simp_all
    .rename_i g args ts ho;have hargs:∀x∈args.toList,∀t∈tmpOf x,t∉N:=fun x hx1 t ht1=>hop t (by rw[ho];exact q1u (by simp[Op.operands,Call.operands,hx1]) ht1);rw[h.ev (fun t ht1=>hop t (by rw[ho];exact q1u (by simp[Op.operands,Call.operands]) ht1)),h.args hargs];have hsh:q4y s' args.toList=q4y s args.toList:=by unfold q4y;rw[Bool.eq_iff_iff,List.any_eq_true,List.any_eq_true];have hx1:∀x∈args.toList,Ab.shareOf s' x=Ab.shareOf s x:=fun x hx1=>h.shareOf (hargs x hx1);have hx2:∀x∈args.toList,Ab.cellShared s' x=Ab.cellShared s x:=fun x hx1=>h.cellShared (hargs x hx1);grind
     rw[hsh];by_cases hs:q4y s args.toList=true;·simp_all
     .rw[if_neg hs]at hr⊢;split at hr;·exact h.callA (r:=q5o E.an f r o) hd hdst s1 hr
      simp_all
    .rw[h.reads hop];split at hr;·rename_i hro;rw[if_pos hro];cases hst:q01 E (E.an.flag f (o.dst.getD 0)) (r.draws&&!q4a ops o.op) o.op s with|none=>rw[hst]at hr;cases hr|some q=>obtain⟨v,s2⟩:=q;obtain⟨s3,h3,h4⟩:=h.step _ _ o.op hop hnew v s2 hst;simp only[hst,sI]at hr;subst hr;rw[h3];exact⟨_,rfl,(h4.del _ (fun t ht=>hop t (qcp _ t ht))).put hdst _⟩
     simp_all
end Go.Ab

namespace Go.Ab
variable {s2 : St} {T U : List Nat} {n t : Nat} {a v : AV} {p : Place} {xs : List D} {l q : Bool} {fl : Flag} {x y : Operand} {op : Op} {vs : List AV} {r : Rule} {f : FuncId} {ops : Array Oper} {k o : Oper}
variable {E : Env0} {s s1 : St}
def AV.calm(v:AV):Bool:=!v.placed&&!v.isOwn
structure Stays(s s1:St)(T:List Nat):Prop where env:∀t,t∉T->get s1.env t=get s.env t\/((get s.env t).calm=false/\get s1.env t≠.skipped/\∀a,get s1.env t≠.d a)
theorem Stays.refl(s:St)(T:List Nat):Stays s s T:=⟨fun _ _=>.inl rfl⟩
theorem Stays.trans(h:Stays s s1 T)(h':Stays s1 s2 U):Stays s s2 (T++U):=⟨fun t ht=>by have h1:=h.env t (fun hm=>ht (List.mem_append_left _ hm));have h2:=h'.env t (fun hm=>ht (List.mem_append_right _ hm));grind⟩
theorem Stays.sub(h:Stays s s1 T)(hs:∀t∈T,t∈U):Stays s s1 U:=⟨fun t ht=>h.env t (fun hm=>ht (hs t hm))⟩
theorem Stays.calm(h:Stays s s1 T)(ht:t∉T)(hc:(get s.env t).calm=true):get s1.env t=get s.env t:=by
 rcases h.env t ht with e|⟨e,_⟩;·exact e
 simp_all
theorem Stays.back(h:Stays s s1 T)(ht:t∉T){a:D}(hd:get s1.env t=.d a):get s.env t=.d a:=by
 rcases h.env t ht with e|⟨_,e⟩;·rw[<-e];exact hd
 simp_all
theorem Stays.backS(h:Stays s s1 T)(ht:t∉T)(hd:get s1.env t=.skipped):get s.env t=.skipped:=by
 rcases h.env t ht with e|⟨_,e⟩;·rw[<-e];exact hd
 simp_all
theorem qal(h:v.placed=true):v.calm=false:=by simp[AV.calm,h]
theorem qic(s:St)(t:Nat)(v:AV):Stays s {s with env:=putE s.env t v} [t]:=⟨fun u hu=>by
  have hne:t≠u:=fun e=>hu (by simp[e]);show get (putE s.env t v) u=_\/(_/\get (putE s.env t v) u≠.skipped/\∀a,get (putE s.env t v) u≠.d a);rw[q1i,if_neg hne];split;·rename_i hc;simp only[aT]at hc;exact .inr ⟨qal (qh0 hc.2),by simp⟩
  simp⟩
theorem qmo(s:St)(d:Option Nat)(v:AV):Stays s (s.put d v) d.toList:=by cases d with|none=>exact Stays.refl _ _|some t=>exact qic s t v
theorem qm6:∀(l:List Nat)(s:St),Stays s (s.del l) l|[],s=>Stays.refl s []|t::r,s=>((qic s t .undef).trans (qm6 r _)).sub (by simp)
theorem y0h(s:St)(hp:Heap):Stays s {env:=q0n s.env,heap:=hp} []:=⟨fun u _=>by
  show get (q0n s.env) u=_\/(_/\get (q0n s.env) u≠.skipped/\∀a,get (q0n s.env) u≠.d a);rw[q3n];split;·rename_i hc;exact .inr ⟨qal hc,by simp⟩
  simp⟩
theorem qwn(s:St)(l:List Nat)(hp:Heap):Stays s {env:=q11 l s.env,heap:=hp} []:=⟨fun u _=>by
  show get (q11 l s.env) u=_\/(_/\get (q11 l s.env) u≠.skipped/\∀a,get (q11 l s.env) u≠.d a);rw[q10];split;·rename_i hc;simp only[hits,aT]at hc;exact .inr ⟨qal hc.1,by simp⟩
  simp⟩
theorem qdf(s:St)(hp:Heap):Stays s {s with heap:=hp} []:=⟨fun _ _=>.inl rfl⟩
theorem q54(hc:content s p=.own xs l){w:AV}(hw:w≠.skipped/\∀a,w≠.d a):Stays s (lendPlace s p w) []:=by cases p with
 |slot t=>
  refine⟨fun u _=>?_⟩;show get (setE s.env t w) u=_\/(_/\get (setE s.env t w) u≠.skipped/\∀a,get (setE s.env t w) u≠.d a);rw[q2a];split;·rename_i he;subst he;have:get s.env t=.own xs l:=hc;exact .inr ⟨by rw[this];rfl,hw⟩
  simp|cell o off=>exact qdf s _
theorem qod(hc:content s p=.own xs l):Stays s (setPlace s p .undef) []:=by
 cases p with|slot t=>
  refine⟨fun u _=>?_⟩;by_cases hu:u=t;·subst hu;have:get s.env u=.own xs l:=hc;refine .inr ⟨by rw[this];rfl,?_⟩;show get (putE s.env u .undef) u≠.skipped/\∀a,get (putE s.env u .undef) u≠.d a;rw[q1i,if_pos rfl];simp
  .exact(qic s t .undef).env u (by simp_all)|cell o off=>exact y0h s _
theorem q8i:∀(n:Nat)(s:St)(o off:Nat),Stays s (lendFrom s o off n) []
 |0,s,_,_=>Stays.refl s []|n+1,s,o,off=>by
  simp only[lendFrom];split;·rename_i xs hc;exact(q54 (p:=.cell o off) (xs:=xs) (l:=false) hc (by simp)).trans (q8i n _ o (off+1))
  .exact q8i n s o (off+1)
theorem qbi(hr:readPlace fl q s p=some (v,s1)):Stays s s1 []:=by
 unfold readPlace at hr;split at hr
 .rename_i xs l hc;split at hr;·cases hr;exact Stays.refl _ _
  .split at hr;·cases hr;exact Stays.refl _ _
   .split at hr;·grind
    .cases hr;exact q54 hc (by simp)
 all_goals first|(cases hr;done)|(cases hr;exact Stays.refl _ _)
theorem qzy{t:TypeId}(hr:q3p E fl q t a s=some (v,s1)):Stays s s1 []:=by
 unfold q3p at hr;split at hr
 .split at hr;·exact qbi hr
  .cases hr;exact Stays.refl _ _
  .split at hr;·cases hr;exact Stays.refl _ _
   .cases hr
  .cases hr
 .split at hr
  .split at hr
   .split at hr
    .split at hr
     .split at hr;·cases hr;exact Stays.refl _ _
      .split at hr;·cases hr
       .cases hr;exact q8i _ _ _ _
     .cases hr
    .cases hr
   .cases hr
  .split at hr;·cases hr;exact Stays.refl _ _
   .cases hr
  .split at hr
   .split at hr;·cases hr;exact Stays.refl _ _
    .cases hr
   .cases hr
  .cases hr
 simp_all
theorem qun{t:TypeId}(hr:q1v E q t x y s=some (v,s1)):Stays s s1 []:=by
 unfold q1v at hr;split at hr
 .split at hr
  .split at hr
   .split at hr
    .split at hr;·cases hr;exact Stays.refl _ _
     .cases hr
    .split at hr
     .rename_i xs l hc;split at hr;·cases hr;exact qod hc
      .cases hr
     .cases hr
    .cases hr
   .cases hr
  .cases hr
 simp_all
theorem q29{α:Type}{o:Option α}{f:α->AV×St}(hf:∀x,(f x).2=s)(hr:o.map f=some (v,s1)):s1=s:=by cases o with|none=>grind|some x=>grind
theorem y12(hr:q01 E fl q op s=some (v,s1)):Stays s s1 []:=by
 have fin:s1=s->Stays s s1 []:=by rintro rfl;exact Stays.refl _ _
 cases op with
 |move x=>cases x with|tmp t=>exact qbi hr|_=>simp only[q01]at hr;exact fin (q29 (fun _=>rfl) hr)
 |assign x=>exact fin (q29 (fun _=>rfl) hr)|pick c a b=>
  simp only[q01]at hr;split at hr;·exact fin (q29 (fun _=>rfl) hr)
  simp_all|alloc e=>simp only[q01]at hr;cases hz:q3d E.P e with|none=>simp_all|some z=>rw[hz]at hr;cases hr;exact qdf s _
 |box e x=>
  simp only[q01]at hr;split at hr
  .split at hr;·cases hr;exact qdf s _
   .cases hr
  simp_all|build t parts=>
  simp only[q01]at hr;split at hr
  .split at hr;·exact fin (q29 (fun _=>rfl) hr)
   .cases hr
  simp_all|buildSlice t n parts=>simp only[q01]at hr;grind|load t a=>exact qzy hr|nilCheck x=>simp only[q01]at hr;grind|binOp o t x y t'=>
  simp only[q01]at hr;split at hr;·exact fin (q29 (fun _=>rfl) hr)
  .exact fin (q29 (fun _=>rfl) hr)
  simp_all|unOp o t x=>
  simp only[q01]at hr;split at hr;·exact fin (q29 (fun _=>rfl) hr)
  simp_all|convert a b x=>
  simp only[q01]at hr;split at hr;·exact fin (q29 (fun _=>rfl) hr)
  grind|makeSlice t l c=>simp only[q01]at hr;grind|slice t x lo hi mx=>exact fin (q29 (fun _=>rfl) hr)|fieldAddr t x i=>simp only[q01]at hr;grind|field t x i=>
  simp only[q01]at hr;split at hr;·exact fin (q29 (fun _=>rfl) hr)
  simp_all|indexAddr t x i=>
  simp only[q01]at hr;split at hr;·exact fin (q29 (fun _=>rfl) hr)
  simp_all|index t x i=>
  simp only[q01]at hr;split at hr;·exact fin (q29 (fun _=>rfl) hr)
  simp_all|extract x i=>cases x with|tmp t=>simp only[q01]at hr;grind|_=>cases hr
 |makeFunc fn first caps=>cases fn with
  |func f=>
   simp only[q01]at hr;split at hr;·exact fin (q29 (fun _=>rfl) hr)
   simp_all|_=>cases hr
 |call c=>obtain⟨callee,args,ts⟩:=c;cases callee with
  |builtin b=>
   simp only[q01]at hr;unfold q2m at hr;split at hr;·exact fin (q29 (fun _=>rfl) hr)
   .split at hr;·cases hr;exact Stays.refl _ _
    .cases hr
   .split at hr;·cases hr;exact Stays.refl _ _
    .cases hr
   .split at hr;·exact qun hr
    .cases hr
   .split at hr;·cases hr
    .unfold qdx at hr;split at hr
     .split at hr
      .rename_i hc;split at hr;·cases hr;exact q54 hc (by simp)
       .cases hr
      .cases hr
     .cases hr
   simp_all|_=>cases hr
 |_=>cases hr
theorem qkz(hr:q1r a vs s=some s1):Stays s s1 []:=by
 unfold q1r at hr;split at hr
 .split at hr
  .split at hr
   .cases hr;split;·exact qwn s _ _
    .exact qdf s _
   .cases hr
  .cases hr
 .rename_i p i off;split at hr
  .rename_i xs ds hc hds;split at hr
   .split at hr;·cases hr;exact q54 hc (by simp)
    .cases hr
   .cases hr
  .cases hr
 simp_all
theorem qwg{t:TypeId}{a:Operand}(hr:q62 E t a x s=some s1):Stays s s1 (tmpOf x):=by
 unfold q62 at hr;split at hr
 .split at hr;·exact((qm6 (tmpOf x) s).trans (qkz hr)).sub (by simp)
  .cases hr
 simp_all
theorem qwd{dst:Option Nat}(hr:callA E r n f vs dst s=some s1):Stays s s1 dst.toList:=by cases n with|zero=>simp[callA]at hr|succ n=>
  obtain⟨objs,hs,v,h',h1,h2,h3,h4,h5,rfl⟩:=q5g hr;have:Stays s (q4c s objs h') []:=⟨fun u _=>by
   show get (q11 objs s.env) u=_\/(_/\get (q11 objs s.env) u≠.skipped/\∀a,get (q11 objs s.env) u≠.d a);rw[q10];split;·rename_i hc;simp only[hits,aT]at hc;exact .inr ⟨qal hc.1,by simp⟩
   simp⟩;exact(this.trans (qmo _ dst _)).sub (by simp)
theorem qno(hdraw:r.draws=true)(hr:runOp E f r ops n o s=some s1):Stays s s1 (q5m o):=by have hd:∀t∈o.dst.toList,t∈q5m o:=fun t ht=>List.mem_append_left _ ht;have hop:∀t∈q5u o.op,t∈q5m o:=fun t ht=>List.mem_append_right _ ht;cases n with|zero=>simp[runOp]at hr|succ n=>simp only[runOp]at hr;cases hg:q17 ops s o with|none=>simp_all|some b=>cases b with|false=>simp only[hg,sI]at hr;subst hr;exact(qmo s o.dst _).sub hd|true=>
    simp only[hg]at hr;split at hr
    .rename_i t a x ho;split at hr;·exact(qwg hr).sub (fun u hu=>hop u (by rw[ho];exact q1u (by simp[Op.operands]) hu))
     simp_all
    .split at hr;·simp_all
     .split at hr;·exact(qwd hr).sub hd
      simp_all
    .split at hr;·cases hst:q01 E (E.an.flag f (o.dst.getD 0)) (r.draws&&!q4a ops o.op) o.op s with|none=>rw[hst]at hr;cases hr|some q=>
       obtain⟨v,s2⟩:=q;rw[hst]at hr;simp only[sI]at hr;subst hr;refine(((y12 hst).trans (qm6 (q5x o.op) s2)).trans (qmo _ o.dst _)).sub (fun t ht=>?_);simp only[List.nil_append,List.mem_append]at ht;rcases ht with ht|ht;·exact hop t (qcp _ t ht)
       .exact hd t ht
     simp_all
theorem q6h(s:St)(p:Place)(w:AV):(lendPlace s p w).heap.length=s.heap.length:=by cases p with|slot t=>rfl|cell o off=>exact q88 _ _ _ _
theorem quc(s:St)(p:Place)(w:AV):(setPlace s p w).heap.length=s.heap.length:=by cases p with|slot t=>rfl|cell o off=>exact q88 _ _ _ _
theorem qjy:∀(n:Nat)(s:St)(o off:Nat),(lendFrom s o off n).heap.length=s.heap.length
 |0,_,_,_=>rfl|n+1,s,o,off=>by
  simp only[lendFrom];rw[qjy n];split;·exact q6h _ _ _
  rfl
theorem qgy(hr:readPlace fl q s p=some (v,s1)):s1.heap.length=s.heap.length:=by
 unfold readPlace at hr;split at hr
 .split at hr;·simp_all
  .split at hr;·simp_all
   .split at hr;·grind
    .cases hr;exact q6h _ _ _
 all_goals simp_all
theorem y5p{t:TypeId}(hr:q3p E fl q t a s=some (v,s1)):s1.heap.length=s.heap.length:=by
 unfold q3p at hr;split at hr
 .split at hr;·exact qgy hr
  .cases hr;rfl
  .split at hr;·cases hr;rfl
   .cases hr
  .cases hr
 .split at hr
  .split at hr
   .split at hr
    .split at hr
     .split at hr;·cases hr;rfl
      .split at hr;·cases hr
       .cases hr;exact qjy _ _ _ _
     .cases hr
    .cases hr
   .cases hr
  .split at hr;·cases hr;rfl
   .cases hr
  .split at hr
   .split at hr;·cases hr;rfl
    .cases hr
   .cases hr
  .cases hr
 simp_all
theorem y13{t:TypeId}(hr:q1v E q t x y s=some (v,s1)):s1.heap.length=s.heap.length:=by
 unfold q1v at hr;split at hr
 .split at hr
  .split at hr
   .split at hr
    .split at hr;·cases hr;rfl
     .cases hr
    .split at hr
     .split at hr;·cases hr;exact quc _ _ _
      .cases hr
     .cases hr
    .cases hr
   .cases hr
  .cases hr
 simp_all
theorem y5t(hn:noNew op=true)(hr:q01 E fl q op s=some (v,s1)):s1.heap.length=s.heap.length:=by
 have fin:s1=s->s1.heap.length=s.heap.length:=by simp_all
 have same:∀{o:Option AV},o.map (fun v=>(v,s))=some (v,s1)->s1=s:=fun h=>q29 (fun _=>rfl) h;cases op with
 |move x=>cases x with|tmp t=>exact qgy hr|_=>simp only[q01]at hr;grind
 |alloc e=>cases hn|box e x=>cases hn|load t a=>exact y5p hr|call c=>obtain⟨callee,args,ts⟩:=c;cases callee with
  |builtin b=>
   simp only[q01]at hr;unfold q2m at hr;split at hr;·exact fin (q29 (fun _=>rfl) hr)
   .split at hr;·cases hr;rfl
    .cases hr
   .split at hr;·cases hr;rfl
    .cases hr
   .split at hr;·exact y13 hr
    .cases hr
   .split at hr;·cases hr
    .unfold qdx at hr;split at hr
     .split at hr
      .split at hr;·cases hr;exact q6h _ _ _
       .cases hr
      .cases hr
     .cases hr
   simp_all|_=>cases hr
 |extract x i=>cases x with|tmp t=>simp only[q01]at hr;grind|_=>cases hr
 |makeFunc fn first caps=>cases fn with
  |func f=>
   simp only[q01]at hr;split at hr;·exact fin (q29 (fun _=>rfl) hr)
   simp_all|_=>cases hr
 |_=>apply fin;simp only[q01]at hr;repeat'(first|(cases hr;done)|(exact q29 (fun _=>rfl) hr)|(cases hr;rfl)|split at hr)
theorem qgi:∀(os:List Nat)(h r:Heap),(q25 h os r).length=h.length|[],h,r=>by cases r<;>rfl|o::os,h,[]=>rfl|o::os,h,cs::r=>by simp only[q25];rw[qgi os];simp
theorem qwc(s:St)(d:Option Nat)(v:AV):(s.put d v).heap=s.heap:=by cases d<;>rfl
theorem qv4:∀(l:List Nat)(s:St),(s.del l).heap=s.heap|[],_=>rfl|t::r,s=>by simp only[St.del];exact qv4 r _
theorem qov(hr:q1r a vs s=some s1):s1.heap.length=s.heap.length:=by
 unfold q1r at hr;split at hr
 .split at hr
  .split at hr;·cases hr;simp
   .cases hr
  .cases hr
 .split at hr
  .split at hr
   .split at hr;·cases hr;exact q6h _ _ _
    .cases hr
   .cases hr
  .cases hr
 simp_all
theorem y1d(hd:r.draws=true)(hn:noNew o.op=true)(hr:runOp E f r ops n o s=some s1):s1.heap.length=s.heap.length:=by cases n with|zero=>simp[runOp]at hr|succ n=>simp only[runOp]at hr;cases hg:q17 ops s o with|none=>simp_all|some b=>cases b with|false=>simp only[hg,sI]at hr;subst hr;rw[qwc]|true=>
    simp only[hg]at hr;split at hr
    .split at hr
     .unfold q62 at hr;split at hr
      .split at hr;·rw[qov hr,qv4]
       .cases hr
      .cases hr
     simp_all
    .split at hr;·simp_all
     .split at hr;·cases n with|zero=>simp[callA]at hr|succ n=>obtain⟨objs,hs,v,h',h1,h2,h3,h4,h5,rfl⟩:=q5g hr;have hle:=h5 hd;rw[qwc];simp only[q4c,List.drop_eq_nil_of_le hle,List.map_nil,List.append_nil,qgi]
      simp_all
    .split at hr;·cases hst:q01 E (E.an.flag f (o.dst.getD 0)) (r.draws&&!q4a ops o.op) o.op s with|none=>rw[hst]at hr;cases hr|some q=>obtain⟨v,s2⟩:=q;rw[hst]at hr;simp only[sI]at hr;subst hr;rw[qwc,qv4,y5t hn hst]
     simp_all
theorem q79{s:St}{d:D}(h:∀u∈tmpOf x,∀a,get s1.env u=.d a->get s.env u=.d a)(hp:plainC E s1 x=some d):plainC E s x=some d:=by
 cases x with|const v=>exact hp|tmp t=>
  have hp':plain (get s1.env t)=some d:=hp;have:get s1.env t=.d d:=by unfold plain at hp';grind
  show plain (get s.env t)=some d;rw[h t (by simp[tmpOf]) d this];rfl|global g=>exact hp|func f=>exact hp
theorem qjn {s : St} : ∀ {l : List Operand} {ds : List D}, (∀ x ∈ l, ∀ u ∈ tmpOf x, ∀ a, get s1.env u = .d a -> get s.env u = .d a) -> plainsC E s1 l = some ds -> plainsC E s l = some ds
 | [], _, _, h => h
 | x :: r, ds, hl, h => by
  simp only [plainsC] at h ⊢;split at h
  .rename_i a as h1 h2;rw [q79 (hl x (by simp)) h1, qjn (fun y hy => hl y (by simp [hy])) h2]; exact h
  grind
theorem qsp (hg : k.guard = none) (hdst : k.dst = some t) (hf : qaa (E.an.flag f t) k.op = true) (hr : runOp E f r ops n k s1 = some s2) :
  ∃ v hx, v.calm = true /\ (hx = [] \/ noNew k.op = false) /\ s2 = { env := putE s1.env t v, heap := s1.heap ++ hx } /\
   ∀ s, (∀ u ∈ q5u k.op, ∀ a, get s1.env u = .d a -> get s.env u = .d a) -> (hx = [] \/ s.heap.length = s1.heap.length) -> runOp E f r ops n k s = some { env := putE s.env t v, heap := s.heap ++ hx } := by
 cases n with
 | zero => simp [runOp] at hr
 | succ n =>
  have hgo : ∀ s, q17 ops s k = some true := fun s => by simp only [q17, hg]
  have key : ∀ (s : St), (∀ g args ts, k.op ≠ .call { callee := .value g, args := args, argTypes := ts }) -> (∀ t a x, k.op ≠ .store t a x) -> q4f E (qao E.an f r ops k) s k.op = true ->
    runOp E f r ops (n + 1) k s = match q01 E (E.an.flag f t) (r.draws && !q4a ops k.op) k.op s with
     | some (v, s1) => some ((s1.del (q5x k.op)).put (some t) (q4d (E.an.flag f t) v)) | none => none := by
   intro s hc hs hro;simp only [runOp, hgo]
   grind
  cases hop : k.op with
  | alloc e =>
   have hk := fun s => key s (by grind) (by grind) (by simp [q4f, hop])
   simp only [hop, q01, q5x, St.del] at hk;rw [hk] at hr;cases hz : q3d E.P e with
   | none => simp_all
   | some z =>
    simp only [hz, mS, sI] at hr;have hkp : ∀ (fl : Flag) (o : Nat), q4d fl (.ptr o 0) = .ptr o 0 := fun fl o => by cases fl <;> rfl
    refine ⟨.ptr s1.heap.length 0, [(q0j z).cells], rfl, .inr rfl, ?_, fun s _ hlen => ?_⟩
    .rw [<- hr, hkp]; rfl
    .rw [hk, hz];simp only [mS, hkp];rcases hlen with e | e
     .cases e
     .rw [e]; rfl
  | buildSlice ty len parts =>
   have hk := fun s => key s (by grind) (by grind) (by simp [q4f, hop])
   simp only [hop, q01, q5x, St.del] at hk;rw [hop] at hf;simp only [qaa, dT'] at hf;rw [hk, hf] at hr;cases he : q1s E.P ty with
   | none => simp_all
   | some e =>
    cases hx : plainsC E s1 (parts.toList.map (·.2)) with
    | none => simp_all
    | some xs =>
     simp only [he, hx] at hr;split at hr
     .rename_i v s3 hv;split at hv
      .rename_i hc;simp only [sI, pI] at hv;obtain ⟨rfl, rfl⟩ := hv;simp only [sI] at hr;refine ⟨.d (.list xs), [], rfl, .inl rfl, by rw [<- hr]; simp [q4d, St.put], fun s hs _ => ?_⟩;have hb := qjn (E := E) (s := s) (fun x hx1 u hu a ha => hs u (q1u (by simpa [Op.operands] using hx1) hu) a ha) hx;rw [hk, hf];simp only [he, hb, hc, and_self, if_true];simp [q4d, St.put]
      .cases hv
     simp_all
  | makeSlice ty l c =>
   have hk := fun s => key s (by grind) (by grind) (by simp [q4f, hop])
   simp only [hop, q01, q5x, St.del] at hk;rw [hop] at hf;simp only [qaa, dT'] at hf;rw [hk, hf] at hr;cases hl : plainC E s1 l with
   | none => simp_all
   | some dl =>
    cases hc : plainC E s1 c with
    | none => simp_all
    | some dc =>
     simp only [hl, hc] at hr;split at hr
     .rename_i v s3 hv;have hback : ∀ s, (∀ u ∈ q5u k.op, ∀ a, get s1.env u = .d a -> get s.env u = .d a) -> plainC E s l = some dl /\ plainC E s c = some dc := fun s hs =>
       ⟨q79 (E := E) (s := s) (fun u hu a ha => hs u (by rw [hop]; exact q1u (by simp [Op.operands]) hu) a ha) hl, q79 (E := E) (s := s) (fun u hu a ha => hs u (by rw [hop]; exact q1u (by simp [Op.operands]) hu) a ha) hc⟩
      have hv0 : ∃ xs, v = .own xs false /\ s3 = s1 := by
       split at hv
       .split at hv
        .split at hv
         .cases hv; exact ⟨_, rfl, rfl⟩
         .cases hv
        .cases hv
       .cases hv
      obtain ⟨xs, rfl, rfl⟩ := hv0;simp only [sI] at hr;refine ⟨.d (.list xs), [], rfl, .inl rfl, by rw [<- hr]; simp [q4d, St.put], fun s hs _ => ?_⟩;obtain ⟨b1, b2⟩ := hback s (by rw [hop]; exact hs);rw [hk, hf];simp only [b1, b2];split at hv
      .rename_i e n m he h1 h2;split at hv
       .rename_i x b hz hb;split at hv
        .rename_i hcond;cases hv;cases h1; cases h2;rw [if_pos hcond]; simp [q4d, St.put]
        .cases hv
       .cases hv
      .cases hv
     simp_all
  | convert src dst x =>
   have hk := fun s => key s (by grind) (by grind) (by simp [q4f, hop])
   simp only [hop, q01, q5x, St.del] at hk;rw [hop] at hf;simp only [qaa, beq_iff_eq] at hf;simp only [if_pos hf] at hk;rw [hk] at hr;cases hb : q89 E src dst x s1 with
   | none => simp [hb] at hr
   | some v =>
    have hback : ∃ b, v = .d (.v (.string b)) /\ ∀ s, (∀ u ∈ q5u k.op, ∀ a, get s1.env u = .d a -> get s.env u = .d a) -> q89 E src dst x s = some v := by
     unfold q89 at hb;split at hb
     .rename_i e xs h1 h2 hx;split at hb
      .rename_i h3;split at hb
       .rename_i hall;cases hb;refine ⟨_, rfl, fun s hs => ?_⟩;have hx' := q79 (E := E) (s := s) (fun u hu a ha => hs u (by rw [hop]; exact q1u (by simp [Op.operands]) hu) a ha) hx;unfold q89;simp only [h1, h2, hx', h3, hall, if_true]
       .cases hb
      .cases hb
     .cases hb
    obtain ⟨b, rfl, hback⟩ := hback;have hkp : ∀ fl : Flag, q4d fl (.d (.v (.string b))) = .d (.v (.string b)) := fun fl => by cases fl <;> rfl
    simp only [hb, mS, sI, hkp] at hr;refine ⟨.d (.v (.string b)), [], rfl, .inl rfl, by rw [<- hr]; simp [St.put], fun s hs _ => ?_⟩;rw [hk, hback s (by rw [hop]; exact hs)];simp [hkp, St.put]
  | call c =>
   obtain ⟨callee, args, ts⟩ := c;cases callee with
   | builtin b =>
    cases b with
    | append =>
     rw [hop] at hf;simp only [qaa, aT, dT'] at hf;obtain ⟨hf1, hf2⟩ := hf;split at hf2
     .rename_i c y hargs;have hk := fun s => key s (by simp [hop]) (by simp [hop]) (by simp [q4f, hop])
      simp only [hop, q01, q2m, hargs, q5x, tmpOf, St.del] at hk;rw [hk, hf1] at hr;cases hts : ts.toList with
      | nil => simp [hts] at hr
      | cons t1 r1 =>
       cases r1 with
       | nil => simp [hts] at hr
       | cons t2 r2 =>
        cases r2 with
        | cons t3 r3 => simp [hts] at hr
        | nil =>
         simp only [hts] at hr hk;by_cases h12 : t1 = t2
         .simp only [h12, if_true] at hr hk;cases ha : q1v E (r.draws && !q4a ops k.op) t2 (.const c) y s1 with
          | none => rw [hop] at ha; rw [ha] at hr; cases hr
          | some q =>
           obtain ⟨v, s3⟩ := q;have hback : ∀ s, (∀ u ∈ q5u k.op, ∀ a, get s1.env u = .d a -> get s.env u = .d a) -> ∃ xs l, v = .own xs l /\ s3 = s1 /\ q1v E (r.draws && !q4a ops k.op) t2 (.const c) y s = some (v, s) := by
            intro s hs;unfold q1v at ha ⊢;cases hy : plainC E s1 y with
            | none => simp [hy] at ha
            | some dy =>
             have hb := q79 (E := E) (s := s) (fun u hu a ha => hs u (by rw [hop]; exact q1u (by simp [Op.operands, Call.operands, hargs]) hu) a ha) hy;simp only [hy, hb] at ha ⊢;split at ha
             .split at ha
              .split at ha
               .rename_i hcond;rw [if_pos hcond];have hev : ∀ s', ev E s' (.const c) = q0j c := fun _ => rfl
                simp only [hev] at ha ⊢;split at ha
                .split at ha
                 .rename_i hc2;rw [if_pos hc2];simp only [sI, pI] at ha;obtain ⟨rfl, rfl⟩ := ha;exact ⟨_, _, rfl, rfl, rfl⟩
                 .cases ha
                .rename_i p hp;exfalso;unfold q0j at hp;split at hp
                 .cases hp
                 .unfold q08 at hp;split at hp <;> cases hp
                .cases ha
               .cases ha
              .cases ha
             .cases ha
           obtain ⟨xs, l, rfl, rfl, _⟩ := hback s1 (fun _ _ _ h => h);rw [hop] at ha;rw [ha] at hr;simp only [sI] at hr;refine ⟨.d (.list xs), [], rfl, .inl rfl, by rw [<- hr]; simp [q4d, St.put], fun s hs _ => ?_⟩;obtain ⟨_, _, _, _, hb⟩ := hback s (by rw [hop]; exact hs);rw [hop] at hb;rw [hk, hf1, hb];simp [q4d, St.put]
         .simp [h12] at hr
     simp_all
    | _ => rw [hop] at hf; cases hf
   | _ => rw [hop] at hf; cases hf
  | _ => rw [hop] at hf; cases hf
theorem qk6{s:St}(h:∀u∈q8v ops k,(∀a,get s1.env u=.d a->get s.env u=.d a)/\(get s1.env u=.skipped->get s.env u=.skipped)){b:Bool}(hg:q17 ops s1 k=some b):q17 ops s k=some b:=by unfold q17 q8v at*;cases hk:k.guard with|none=>simp_all|some q=>obtain⟨j,want⟩:=q;rw[hk]at hg h;simp only at hg h⊢;cases hj:ops[j]? with|none=>simp_all|some p=>rw[hj]at hg h;cases hd:p.dst with|none=>simp_all|some u=>grind
theorem qgq{s:St}(hg:q17 ops s k=some true):runOp E f r ops n k s=runOp E f r ops n {k with guard:=none} s:=by cases n with|zero=>rfl|succ n=>have h0:q17 ops s {k with guard:=none}=some true:=rfl;simp only[runOp,hg,h0];rfl
theorem qqb(hdst:k.dst=some t)(hf:qaa (E.an.flag f t) k.op=true)(hr:runOp E f r ops n k s1=some s2):∃v hx,v.calm=true/\(hx=[]\/noNew k.op=false)/\s2={env:=putE s1.env t v,heap:=s1.heap++hx}/\∀s,(∀u∈q5u k.op,∀a,get s1.env u=.d a->get s.env u=.d a)->(∀u∈q8v ops k,(∀a,get s1.env u=.d a->get s.env u=.d a)/\(get s1.env u=.skipped->get s.env u=.skipped))->(hx=[]\/s.heap.length=s1.heap.length)->runOp E f r ops n k s=some {env:=putE s.env t v,heap:=s.heap++hx}:=by cases n with|zero=>simp[runOp]at hr|succ n=>cases hg:q17 ops s1 k with|none=>simp[runOp,hg]at hr|some b=>cases b with|false=>have hr':=hr;simp only[runOp,hg,sI,hdst]at hr';refine⟨.skipped,[],rfl,.inl rfl,by rw[<-hr'];simp[St.put],fun s _ h2 _=>?_⟩;simp only[runOp,qk6 h2 hg,hdst];simp[St.put]|true=>rw[qgq hg]at hr;obtain⟨v,hx,h1,h2,h3,h4⟩:=qsp (k:={k with guard:=none}) rfl hdst hf hr;exact⟨v,hx,h1,h2,h3,fun s g1 g2 g3=>by rw[qgq (qk6 g2 hg)];simp_all⟩
def Same(s s':St):Prop:=Sim [] (fun _=>.undef) [] s s'
theorem Same.refl(s:St):Same s s:=⟨fun _ _=>rfl,fun _ h=>absurd h (by simp),fun _ h=>absurd h (by simp),by simp⟩
theorem Same.trans{s s':St}(h:Same s s')(h':Same s' s2):Same s s2:=⟨fun u _=>(h'.out u (by simp)).trans (h.out u (by simp)),fun _ h=>absurd h (by simp),fun _ h=>absurd h (by simp),by rw[h'.heap,h.heap];simp⟩
theorem Sim.runOps{N:List Nat}{W:Nat->AV}{hx:Heap}{r:Rule}(hd:r.draws=true){n:Nat}{f:FuncId}{ops:Array Oper}:∀{l:List Oper}{s s':St},Sim N W hx s s'->(∀o∈l,∀t∈q69 ops o,t∉N)->(hx=[]\/∀o∈l,noNew o.op=true)->SimS N W hx (Ab.runOps E f r ops n l s) (Ab.runOps E f r ops n l s')|[],s,s',h,_,_=>fun s1 hr=>by rw[q6x,sI]at hr;subst hr;exact⟨s',rfl,h⟩|o::l,s,s',h,hn,hnew=>fun s1 hr=>by rw[q0q]at hr⊢;cases h1:Ab.runOp E f r ops n o s with|none=>simp_all|some s2=>rw[h1]at hr;obtain⟨s3,h3,h4⟩:=h.runOp hd (hn o (by simp)) (hnew.imp id fun e=>e o (by simp)) s2 h1;rw[h3];exact Sim.runOps hd h4 (fun p hp=>hn p (by grind)) (hnew.imp id fun e p hp=>e p (by grind)) s1 hr
theorem qjw{r:Rule}(hdraw:r.draws=true){n:Nat}{f:FuncId}{ops:Array Oper}:∀{l:List Oper}{s s1:St},Ab.runOps E f r ops n l s=some s1->Stays s s1 (l.flatMap q5m)|[],s,s1,hr=>by rw[q6x,sI]at hr;subst hr;exact Stays.refl _ _|o::l,s,s1,hr=>by rw[q0q]at hr;cases h1:Ab.runOp E f r ops n o s with|none=>simp_all|some s2=>rw[h1]at hr;exact((qno hdraw h1).trans (qjw hdraw hr)).sub (by simp)
theorem qpw{r:Rule}(hd:r.draws=true){n:Nat}{f:FuncId}{ops:Array Oper}:∀{l:List Oper}{s s1:St},(∀o∈l,noNew o.op=true)->Ab.runOps E f r ops n l s=some s1->s1.heap.length=s.heap.length|[],s,s1,_,hr=>by rw[q6x,sI]at hr;simp_all|o::l,s,s1,hn,hr=>by rw[q0q]at hr;cases h1:Ab.runOp E f r ops n o s with|none=>simp_all|some s2=>rw[h1]at hr;rw[qpw hd (fun p hp=>hn p (by grind)) hr,y1d hd (hn o (by simp)) h1]
theorem qa5{r:Rule}{n:Nat}{f:FuncId}{ops:Array Oper}:∀(l l':List Oper)(s:St),Ab.runOps E f r ops n (l++l') s=match Ab.runOps E f r ops n l s with|some s1=>Ab.runOps E f r ops n l' s1|none=>none
 |[],_,_=>rfl|o::l,l',s=>by rw[List.cons_append,q0q,q0q];cases Ab.runOp E f r ops n o s with|none=>rfl|some s1=>exact qa5 l l' s1
theorem swap(hd:r.draws=true){pre post:List Oper}{s sf:St}(hk:q7p E.an f k=some t)(hu:get s.env t=.undef)(h1:∀x∈pre,t∉q69 ops x)(h2:∀x∈pre,∀u∈q5u k.op++q8v ops k,u∉q5m x)(h3:noNew k.op=false->∀x∈pre,noNew x.op=true)(hr:Ab.runOps E f r ops n (pre++k::post) s=some sf):∃sf',Ab.runOps E f r ops n (k::(pre++post)) s=some sf'/\Same sf sf':=by
 have hk':k.dst=some t/\qaa (E.an.flag f t) k.op=true:=by unfold q7p at hk;grind
 obtain⟨hdst,hf⟩:=hk';rw[qa5]at hr;cases hpre:Ab.runOps E f r ops n pre s with|none=>simp_all|some s1=>rw[hpre]at hr;simp only[q0q]at hr;cases hks:Ab.runOp E f r ops n k s1 with|none=>simp_all|some s2=>
   rw[hks]at hr;simp only at hr;obtain⟨v,hx,hcalm,hnew,hs2,heff⟩:=qqb hdst hf hks;have hst:=qjw hd hpre;have hback:∀u∈q5u k.op,∀a,get s1.env u=.d a->get s.env u=.d a:=by intro u hu1 a ha;refine hst.back ?_ ha;intro hm;obtain⟨x,hx1,hx2⟩:=List.mem_flatMap.1 hm;exact h2 x hx1 u (List.mem_append_left _ hu1) hx2
   have hbackg:∀u∈q8v ops k,(∀a,get s1.env u=.d a->get s.env u=.d a)/\(get s1.env u=.skipped->get s.env u=.skipped):=by
    intro u hu1;have hni:u∉pre.flatMap q5m:=by intro hm;obtain⟨x,hx1,hx2⟩:=List.mem_flatMap.1 hm;exact h2 x hx1 u (List.mem_append_right _ hu1) hx2
    exact⟨fun a ha=>hst.back hni ha,fun ha=>hst.backS hni ha⟩
   have hks':=heff s hback hbackg (by
    rcases hnew with e|e;·exact .inl e
    .exact .inr (qpw hd (h3 e) hpre).symm);have hcalm':v.placed=false/\v.isOwn=false:=by simpa[AV.calm]using hcalm
   have hsim:Sim [t] (fun _=>v) hx s {env:=putE s.env t v,heap:=s.heap++hx}:=by
    refine⟨fun u hu1=>?_,fun u hu1=>?_,fun u _=>hcalm',rfl⟩;·have hne:t≠u:=fun e=>hu1 (by simp[e]);show get (putE s.env t v) u=_;rw[q1i,if_neg hne,hu,hcalm'.2];rfl
    .have:u=t:=by simpa using hu1
     subst this;exact⟨hu,by show get (putE s.env u v) u=_;rw[q1i,if_pos rfl]⟩
   have hnn:∀x∈pre,∀u∈q69 ops x,u∉[t]:=by
    intro x hx1 u hu1 he;have:u=t:=by simpa using he
    rw[this]at hu1;exact h1 x hx1 hu1
   obtain⟨s1',g1,g2⟩:=Sim.runOps (E:=E) (f:=f) (n:=n) (ops:=ops) hd hsim hnn (by
    rcases hnew with e|e;·exact .inl e
    .exact .inr (h3 e)) s1 hpre;have hut:get s1.env t=.undef:=(g2.inn t (by simp)).1;have hsame:Same s2 s1':=by
    refine⟨fun u _=>?_,fun _ h=>absurd h (by simp),fun _ h=>absurd h (by simp),?_⟩
    .rw[hs2];by_cases he:u=t;·subst he;rw[(g2.inn u (by simp)).2];show v=get (putE s1.env u v) u;rw[q1i,if_pos rfl]
     .rw[g2.out u (by simpa using he)];show get s1.env u=get (putE s1.env t v) u;rw[q1i,if_neg (fun e=>he e.symm),hut,hcalm'.2];rfl
    .rw[g2.heap,hs2];simp
   obtain⟨sf',g3,g4⟩:=Sim.runOps (E:=E) (f:=f) (n:=n) (ops:=ops) hd hsame (fun _ _ _ _ h=>absurd h (by simp)) (.inl rfl) sf hr;refine⟨sf',?_,g4⟩;rw[q0q,hks'];simp only;rw[qa5,g1];omega
end Go.Ab

namespace Go.Ab
variable {k o : Nat} {l : Loc} {c : AV} {v : Value} {cs : List AV}
variable {E : Env0} {X : Cx} {s s1 : St} {a : Act} {w : World}
def πx(k o:Nat):Nat:=if o=k then k+1 else if o=k+1 then k else o
theorem πx_lt(h:o<k):πx k o=o:=by unfold πx;grind
def φx(k:Nat):Loc->Option Loc|.blk o=>some (.blk (πx k o))|.cell o j=>some (.cell (πx k o) j)|l=>some l
def Cx.exch(X:Cx)(k:Nat):Cx:={X.remap (φx k)with mu:=X.mu.take k++[X.mu.getD (k+1) (.blk 0),X.mu.getD k (.blk 0)]}
theorem qdn(X:Cx)(w:World)(k:Nat):Ext X w (X.exch k) w:=⟨rfl,Nat.le_refl _,rfl,rfl,rfl,(Ext.remap X w (φx k)).free,(Ext.remap X w (φx k)).own⟩
theorem qvd(hlen:X.mu.length=k+2){p:Nat}{b:Home}(hb:X.mu[p]?=some b):(X.exch k).mu[πx k p]?=some b:=by
 have hlt:p<k+2:=by rw[<-hlen];exact(List.getElem?_eq_some_iff.1 hb).1
 show(X.mu.take k++[X.mu.getD (k+1) (.blk 0),X.mu.getD k (.blk 0)])[πx k p]?=some b;have hl:(X.mu.take k).length=k:=by rw[List.length_take];omega
 unfold πx;grind
theorem RVl.exch(hlen:X.mu.length=k+2){l':Loc}(hl:φx k l=some l')(h:RVl w X l c v):RVl w (X.exch k) l' (renAV (πx k) c) v:=RVl.ren (fun d u hr=>(qdn X w k).rep hr) (fun b o u h1 h2=>(qdn X w k).point h1 h2) (fun o _ b hb=>qvd hlen hb) (fun _ b k' e=>⟨by show(X.remap (φx k)).G b=_;rw[Cx.remap_some e,hl];rfl,rfl⟩) h
def exchS(k:Nat)(s:St):St:={env:=qgk (πx k) s.env,heap:=(s.heap.take k++[s.heap.getD (k+1) [],s.heap.getD k []]).map fun cs=>cs.map (renAV (πx k))}
theorem y4z(hlen:s.heap.length=k+2)(h:(exchS k s).heap[o]?=some cs):∃q cs0,πx k q=o/\s.heap[q]?=some cs0/\cs=cs0.map (renAV (πx k)):=by
 have h':((s.heap.take k++[s.heap.getD (k+1) [],s.heap.getD k []]).map fun cs=>cs.map (renAV (πx k)))[o]?=some cs:=h;rw[List.getElem?_map,Option.map_eq_some_iff]at h';obtain⟨cs0,h1,rfl⟩:=h';have hl:(s.heap.take k).length=k:=by simp_all
 by_cases h2:o<k;·rw[List.getElem?_append_left (by omega),List.getElem?_take,if_pos h2]at h1;exact⟨o,cs0,πx_lt h2,h1,rfl⟩
 .rw[List.getElem?_append_right (by omega),hl]at h1;have ho:o-k<2:=(List.getElem?_eq_some_iff.1 h1).1;by_cases h3:o=k;·subst h3;rw[Nat.sub_self]at h1;simp only[List.getElem?_cons_zero,sI]at h1;refine⟨o+1,cs0,by unfold πx;rw[if_neg (by omega),if_pos rfl],?_,rfl⟩;simp_all
  .have h4:o=k+1:=by omega
   subst h4;rw[show k+1-k=1 by omega]at h1;simp only[List.getElem?_cons_succ,List.getElem?_cons_zero,sI]at h1;refine⟨k,cs0,by unfold πx;rw[if_pos rfl],?_,rfl⟩;simp_all
theorem Rel.exch(h:Rel E X s a w)(hlen:s.heap.length=k+2)(hp:∀t o,qa6 (get s.env t)=some o->(get s.env t).placed=true->o<k):Rel E (X.exch k) (exchS k s) a w:=by
 have hml:X.mu.length=k+2:=by rw[h.mu];omega
 have hget:∀u,get (exchS k s).env u=q6y (πx k) (get s.env u):=fun u=>qd6 _ _ _;have hhl:(exchS k s).heap.length=k+2:=by simp only[exchS,List.length_map,List.length_append,List.length_take,List.length_cons,List.length_nil];omega
 have hcellS:∀o off,o<k->q0i (exchS k s).heap o off=renAV (πx k) (q0i s.heap o off)\/q0i (exchS k s).heap o off=q0i s.heap o off:=fun o off ho=>by
  simp only[q0i];have e:(exchS k s).heap[o]?=(s.heap[o]?).map fun cs=>cs.map (renAV (πx k)):=by show((s.heap.take k++_).map _)[o]?=_;rw[List.getElem?_map,List.getElem?_append_left (by rw[List.length_take];omega),List.getElem?_take,if_pos ho]
  grind
 have hcont:∀p:Place,(∀o off,p=.cell o off->o<k)->∀xs l,content (exchS k s) p=.own xs l->content s p=.own xs l:=fun p hpk xs l hc=>by
  have inv:∀v:AV,renAV (πx k) v=.own xs l->v=.own xs l:=fun v hv=>by cases v<;>simp only[renAV]at hv<;>first|omega|grind
  have invd:∀v:AV,q6y (πx k) v=.own xs l->v=.own xs l:=fun v hv=>by cases v<;>simp only[q6y,renAV]at hv<;>first|omega|grind
  cases p with|slot u=>have hc:get (exchS k s).env u=.own xs l:=hc;rw[hget]at hc;exact invd _ hc|cell o off=>
   rcases hcellS o off (hpk o off rfl)with e|e;·have hc:q0i (exchS k s).heap o off=.own xs l:=hc;rw[e]at hc;exact inv _ hc
   .have hc:q0i (exchS k s).heap o off=.own xs l:=hc;rw[e]at hc;exact hc
 have hcval:∀p:Place,(∀o off,p=.cell o off->o<k)->cval (X.exch k) a w p=cval X a w p:=fun p hpk=>by cases p with|slot u=>rfl|cell o off=>
   have ho:=hpk o off rfl;have e:(X.exch k).mu[o]?=X.mu[o]?:=by show(X.mu.take k++_)[o]?=_;grind
   simp only[cval,e]
 refine⟨fun t=>?_,fun t ht=>?_,?_,fun o cs hcs=>?_,fun b l k' e=>?_,h.amb,fun b l k' e=>?_,fun g cs hg j c hj=>?_,h.defers⟩
 .rw[hget];have ht:=h.env t;have hpt:=hp t;generalize get s.env t=v at ht hpt;have place:∀p:Place,inR s p->(∀o off,p=.cell o off->o<k)->inR (exchS k s) p:=fun p _ hk o off e=>by grind
  cases v with
  |loc p=>have hk:∀o off,p=.cell o off->o<k:=fun o off e=>hpt o (by rw[e];rfl) rfl;refine⟨place p ht.1 hk,fun ho=>?_⟩;cases hc:content (exchS k s) p with|own xs l=>rw[hcval p hk];exact ht.2 (by grind)|_=>rw[hc]at ho;cases ho
  |elt p i off0=>have hk:∀o off,p=.cell o off->o<k:=fun o off e=>hpt o (by rw[e];rfl) rfl;exact⟨place p ht.1 hk,fun xs l hc=>by rw[hcval p hk];exact ht.2 xs l (hcont p hk xs l hc)⟩|seg p i off0=>have hk:∀o off,p=.cell o off->o<k:=fun o off e=>hpt o (by rw[e];rfl) rfl;exact⟨place p ht.1 hk,fun xs l hc=>by rw[hcval p hk];exact ht.2 xs l (hcont p hk xs l hc)⟩|agg cs=>obtain⟨vs,hv,hn,hh⟩:=ht;refine⟨vs,hv,by simp_all,fun j c hj=>?_⟩;rw[List.getElem?_map]at hj;cases hc:cs[j]? with|none=>simp_all|some c0=>rw[hc]at hj;simp only[mS,sI]at hj;subst hj;exact RVl.exch hml rfl (hh j c0 hc)
  |tup cs=>obtain⟨vs,hv,hn,hh⟩:=ht;refine⟨vs,hv,by simp_all,fun j c hj=>?_⟩;rw[List.getElem?_map]at hj;cases hc:cs[j]? with|none=>simp_all|some c0=>rw[hc]at hj;simp only[mS,sI]at hj;subst hj;obtain⟨g1,g2⟩:=hh j c0 hc;exact⟨by cases c0<;>first|rfl|exact g1,RVl.exch hml rfl g2⟩
  |undef=>trivial|skipped=>exact ht|d x=>exact RVl.exch (w:=w) (l:=.slot t 0) (l':=.slot t 0) (c:=.d x) hml rfl ht|own xs l=>exact RVl.exch (w:=w) (l:=.slot t 0) (l':=.slot t 0) (c:=.own xs l) hml rfl ht|ptr o off=>exact RVl.exch (w:=w) (l:=.slot t 0) (l':=.slot t 0) (c:=.ptr o off) hml rfl ht|view cs=>exact RVl.exch (w:=w) (l:=.slot t 0) (l':=.slot t 0) (c:=.view cs) hml rfl ht|ref o=>exact RVl.exch (w:=w) (l:=.slot t 0) (l':=.slot t 0) (c:=.ref o) hml rfl ht|fn f cs=>exact RVl.exch (w:=w) (l:=.slot t 0) (l':=.slot t 0) (c:=.fn f cs) hml rfl ht
 .obtain⟨v,hv,hne⟩:=ht;refine h.bound t ⟨_,rfl,fun e=>hne ?_⟩;rw[<-hv,hget,e];rfl
 .rw[hhl];show(X.mu.take k++[_,_]).length=_;simp_all
 .obtain⟨q,cs0,hqr,hq,rfl⟩:=y4z hlen hcs;have lb:φx k (.blk q)=some (.blk o):=by simp[φx,hqr]
  have lc:∀j,φx k (.cell q j)=some (.cell o j):=fun j=>by simp[φx,hqr]
  rcases h.heap q cs0 hq with⟨b,cur,e,g1,g2,g3,g4,g5⟩|⟨v,c,g1,rfl,g2⟩
  .refine .inl ⟨b,cur,e,by rw[<-hqr];exact qvd hml g1,?_,g3,by simp_all,fun j c hj=>⟨?_,trivial⟩⟩;·show(X.remap (φx k)).G b=_;rw[Cx.remap_some g2,lb];rfl
   .rw[List.getElem?_map]at hj;cases hc:cs0[j]? with|none=>simp_all|some c0=>rw[hc]at hj;simp only[mS,sI]at hj;subst hj;exact RVl.exch hml (lc j) (g5 j c0 hc).1
  .exact .inr ⟨v,_,by rw[<-hqr];exact qvd hml g1,rfl,RVl.exch hml (lc 0) g2⟩
 .have e':(X.remap (φx k)).G b=some (l,k'):=e;simp only[Cx.remap]at e';split at e';·rename_i l0 k0 h0;exact h.gdom b l0 k0 h0
  simp_all
 .have e':(X.remap (φx k)).G b=some (l,k'):=e;simp only[Cx.remap]at e';split at e';·rename_i l0 k0 h0;exact h.oamb b l0 k0 h0
  simp_all
 .obtain⟨u,h1,h2,h3⟩:=h.glob g cs hg j c hj;exact⟨u,((qdn X w k).point h1 h2).1,((qdn X w k).point h1 h2).2,(qdn X w k).rep h3⟩
theorem RVl.refs(h:RVl w X l c v):∀o∈q05 c,o<X.mu.length:=by cases c with|ptr o off=>obtain⟨b,hb,_⟩:=h;intro p hp;simp[q05]at hp;grind|ref o=>intro p hp;simp[q05]at hp;subst hp;exact(List.getElem?_eq_some_iff.1 h.1).1|fn f caps=>obtain⟨vs,_,_,hh⟩:=h;intro p hp;simp only[q05]at hp;obtain⟨⟨o,a⟩,ho,rfl⟩:=List.mem_map.1 hp;obtain⟨j,hj⟩:=List.getElem?_of_mem ho;grind|_=>intro p hp;simp[q05]at hp
theorem qm4{ρ:Nat->Nat}(h:∀o∈q05 c,ρ o=o):renAV ρ c=c:=by
 cases c with|ptr o off=>simp only[renAV,h o (by simp[q05])]|ref o=>simp only[renAV,h o (by simp[q05])]|fn f caps=>
  simp only[renAV];congr 1;have:∀p∈caps,(ρ p.1,p.2)=p:=fun p hp=>by rw[h p.1 (by simp only[q05];grind)]
  rw[List.map_congr_left (g:=id) (fun p hp=>this p hp),List.map_id]|_=>rfl
theorem qxa(hm:X.mu.length=k){s0:St}{L:Nat->Loc}(h:RVe X s0 a w L c v):q6y (πx k) c=c:=by have leaf:∀{l c v},RVl w X l c v->renAV (πx k) c=c:=fun hl=>qm4 fun o ho=>πx_lt (by rw[<-hm];exact hl.refs o ho);cases c with|agg cs=>obtain⟨vs,_,_,hh⟩:=h;simp only[q6y];congr 1;rw[List.map_congr_left (g:=id),List.map_id];intro c hc;obtain⟨j,hj⟩:=List.getElem?_of_mem hc;grind|tup cs=>obtain⟨vs,_,_,hh⟩:=h;simp only[q6y];congr 1;rw[List.map_congr_left (g:=id),List.map_id];intro c hc;obtain⟨j,hj⟩:=List.getElem?_of_mem hc;grind|loc p=>rfl|elt p i off=>rfl|seg p i off=>rfl|undef=>rfl|skipped=>rfl|d x=>rfl|own xs l=>rfl|view cs=>rfl|ptr o off=>exact leaf (l:=L 0) (c:=.ptr o off) h|ref o=>exact leaf (l:=L 0) (c:=.ref o) h|fn f cs=>exact leaf (l:=L 0) (c:=.fn f cs) h
theorem y6j(hm:X.mu.length=k)(h:HomeOk w X o cs):cs.map (renAV (πx k))=cs:=by rw[List.map_congr_left (g:=id),List.map_id];intro c hc;obtain⟨j,hj⟩:=List.getElem?_of_mem hc;obtain⟨v,_,hv⟩:=h.get (a:={tmps:=#[],defers:=[]}) hj;exact qm4 fun o ho=>πx_lt (by rw[<-hm];exact hv.refs o ho)
end Go.Ab

namespace Go.Ab
variable {N i k m n t : Nat} {f : FuncId} {r : Rule} {ops : Array Oper} {o : Oper} {op : Op} {X' : Cx} {fl : Flag} {q : Bool} {v : AV} {s2 : St} {val : Value} {w1 w2 : World} {listed : Array Bool} {l' : List Nat} {xs : List D} {a2 : Act}
variable {E : Env0} {X : Cx} {s s1 : St} {a : Act} {w : World}
theorem qoe(h:Rel E X s a w)(hd:∀t,o.dst=some t->t<a.tmps.size)(hg:q17 ops s o=some false)(hp:runOp E f r ops n o s=some s1):Region.wanted o (yielded ops a.tmps)=false/\After E X w a.tmps.size s1 (a.put o.dst undef) w:=by cases n with|zero=>simp[runOp]at hp|succ n=>simp only[runOp,hg,sI]at hp;subst hp;refine⟨q9p h hg,?_⟩;cases hdst:o.dst with|none=>exact⟨rfl,X,⟨[],by simp⟩,Ext.refl X w,h⟩|some t=>obtain⟨X',hmu,hE,hR⟩:=h.put (v:=.skipped) (val:=undef) (hd t hdst) rfl;exact⟨q4z a _ _,X',⟨[],by grind⟩,hE,hR⟩
theorem UU.refl(B:Nat->Nat->Prop)(op:Op)(w:World):UU B op w w:=⟨fun _=>rfl,fun _ _ _ _ _ h=>h⟩
theorem qt4(h:(q7u op||q7i op)=true):q3q op=true:=by cases op with
 |store t x y=>cases h|call c=>obtain⟨callee,args,ts⟩:=c;cases callee with|value g=>cases h|_=>rfl
 |_=>rfl
theorem y4k{B:Nat->Nat->Prop}(hB:∀b o',B b o'->Safe X w m b o'\/(q1n o.op=true\/isNew o.op=true\/stirs o.op=false))(h:Rel E X s a w)(hs:q3q o.op=true)(hst:q01 E fl q o.op s=some (v,s2))(hr:(execOp a.eval o).run E.P w=.ok (.value val) w1)(hE:Ext X w X' w1):UU B o.op w w1:=by
 refine⟨fun hc=>?_,fun hc=>?_⟩;·cases hp:q7u o.op with|true=>obtain⟨val',hv⟩:=qxj h o hst hp;grind|false=>rw[hp,Bool.false_or]at hc;exact qzb o hc _ w _ w1 hr
 .cases hp:isNew o.op with|true=>
   by_cases hcv:∃t u x,o.op=.convert t u x;·obtain⟨t,u,x,hop⟩:=hcv;rw[hop]at hp hst;simp only[isNew,beq_iff_eq]at hp;simp only[q01,if_pos hp]at hst;obtain⟨y,h1,rfl,rfl⟩:=q27 hst;obtain⟨_,_,h2⟩:=q97 h o hop h1;rw[hr]at h2;cases h2;exact fun _ _ _ _ hc=>hc
   obtain⟨_,h2⟩:=qp9 o hp (fun t u x e=>hcv ⟨t,u,x,e⟩) a.eval (fun _=>rfl) w _ w1 hr;intro b off u _ hc;have hb:b<w.heap.size:=World.block_lt_of_cell? w ⟨b,off,none⟩ hc;rw[cell?_of_heap (h2 b hb)];omega|false=>cases hap:isApp o.op with
  |true=>
   intro b off u hb hc;rcases hB b off hb with(⟨h1,_⟩|⟨o',_,h2⟩)|h3;·exact(hE.point hc h1).1
   .have key:w1.heap[b]?=w.heap[b]?:=by cases hop:o.op with
     |call c=>obtain⟨callee,args,ts⟩:=c;rw[hop]at hap hst;cases callee with
      |builtin bi=>
       cases bi<;>first|(cases hap)|skip
       simp only[q01,q2m]at hst;split at hst;all_goals first|contradiction|skip
       .rename_i x y t u hb2 ha ht;split at hst;·rename_i htu;exact qs9 h o hop ha ht htu hst hr h2
        simp_all|_=>cases hap
     |_=>rw[hop]at hap;cases hap
    rw[cell?_of_heap key];omega
   .exfalso;rw[hp]at h3;revert hap h3;cases o.op with
    |call c=>obtain⟨callee,args,ts⟩:=c;cases callee with|builtin bi=>cases bi<;>simp[isApp,q1n,stirs]|_=>simp[isApp]
    |_=>simp[isApp]
  |false=>rw[q5z,hp,hap,Bool.false_or,Bool.false_or]at hc;exfalso;revert hs hc;cases o.op with|call c=>obtain⟨callee,args,ts⟩:=c;cases callee<;>simp[q3q,q1n,q19]|_=>simp[q1n,q19,q3q]
def qri(an:An)(f:Nat)(ops:Array Oper)(pre:List Oper)(k:Oper):Bool:=match q7p an f k with|some t=>pre.all fun x=>!(q69 ops x).contains t&&(q5u k.op++q8v ops k).all (fun u=>!(q5m x).contains u)&&(noNew k.op||noNew x.op)|none=>false
def qdj(k:Nat):List Nat->Option (List Nat×List Nat)|[]=>none|j::r=>if j=k then some ([],r)else match qdj k r with|some (p,q)=>some (j::p,q)|none=>none
theorem qlr{k:Nat}:∀{l p q:List Nat},qdj k l=some (p,q)->l=p++k::q
 |[],_,_,h=>by cases h|j::r,p,q,h=>by
  simp only[qdj]at h;split at h;·grind
  .split at h;·rename_i p' q' h1;cases h;rw[qlr h1];rfl
   grind
def q66(an:An)(f:Nat)(ops:Array Oper)(k:Nat)(l:List Nat):Bool:=match ops[k]? with
 |some ok=>l.all fun j=>match(ops[j]?).bind (q7p an f)with|some t=>!(q69 ops ok).contains t|none=>true
 |none=>false
def qik(ops:Array Oper)(k:Nat):Bool:=match ops[k]? with|some ok=>!q7i ok.op||(ok.dst.isSome&&(List.range ops.size).all fun j=>j==k||((ops[j]?).bind (·.dst)) !=ok.dst)|none=>false
theorem y6a(h:(q5z op||q1n op||q19 op)=true):stirs op=true:=by cases op with
 |call c=>obtain⟨callee,args,ts⟩:=c;cases callee with
  |value g=>rfl|builtin b=>cases b<;>first|rfl|(simp[q5z,isNew,isApp,q1n,q19]at h)
  |invoke r m=>simp[q5z,isNew,isApp,q1n,q19]at h
 |convert src dst x=>simpa[q5z,isNew,isApp,q1n,q19,stirs]using h|_=>first|rfl|(simp[q5z,isNew,isApp,q1n,q19]at h)
theorem y9o(ho:ops[k]?=some o)(hl:q7i o.op=true)(hs:qik ops k=true)(hn:qhi ops o=false)(hr:k∈Region.ready .any ops listed){j:Nat}{oj:Oper}(hj:ops[j]?=some oj)(hun:listed.getD j true=false)(hno:∀e∈oj.after,Region.binds .any e=true->e.on≠k):stirs oj.op=false\/isNew oj.op=true:=by cases hst:stirs oj.op with|false=>simp|true=>cases hnw:isNew oj.op with|true=>simp|false=>
  exfalso;have hjl:j<ops.size:=(Array.getElem?_eq_some_iff.1 hj).1;have h1:¬_:=fun e=>by have:=List.any_eq_false.1 hn j (by simpa using hjl);exact this e
  apply h1;simp only[hj,hst,hnw,Bool.not_false,tA',aT,Bool.not_eq_true'];constructor;·rw[Array.any_eq_false];intro i hi;simp only[aT,beq_iff_eq,not_and];intro hb hd;have hne:=hno _ (Array.getElem_mem hi) hb;simp only[qik,ho,hl,nT,Bool.false_or,aT,List.all_eq_true,List.mem_range,Bool.or_eq_true,beq_iff_eq,bne_iff_ne]at hs;grind
  .rw[Array.any_eq_false];intro i hi;simp only[aT,beq_iff_eq,not_and];intro hb hd;obtain⟨_,o',ho',hall⟩:=mem_ready.1 hr;grind
def qd2(ops:Array Oper)(i:Nat):Bool:=match ops[i]? with|some o=>o.guard.isNone&&o.dst.isSome&&(match o.op with|.alloc _=>true|_=>false)|none=>false
def y2s(ops:Array Oper)(listed:Array Bool)(i j:Nat):Bool:=i !=j&&qd2 ops i&&qd2 ops j&&((ops[i]?).bind (·.dst) !=(ops[j]?).bind (·.dst))&&!(Region.ready .any ops listed).isEmpty&&((Region.ready .any ops listed).all fun k=>k==i||k==j)&&(Region.ready .any ops listed).contains i&&!(Region.ready .any ops (listed.setIfInBounds j true)).isEmpty&&(Region.ready .any ops (listed.setIfInBounds j true)).all fun k=>k==i
def qpg(fr:Option Nat)(ops:Array Oper)(k:Nat):Bool:=match ops[k]? with|some o=>freeB fr o|none=>false
def orderFrom(an:An)(f:Nat)(mode:Nat)(fr:Option Nat)(ops:Array Oper):Nat->List Nat->Array Bool->Bool|0,l,listed=>(Region.ready .any ops listed).isEmpty&&l.isEmpty|n+1,l,listed=>(match l with|k::l'=>(Region.ready .any ops listed).contains k&&q7s mode ops listed k&&qik ops k&&!qpg fr ops k&&q66 an f ops k l'&&orderFrom an f mode fr ops n l' (listed.setIfInBounds k true)|[]=>false)||(!(Region.ready .any ops listed).isEmpty&&(Region.ready .any ops listed).all fun k=>match qdj k l,ops[k]? with|some (p,q),some ok=>(p.isEmpty||qri an f ops (q0e ops p) ok)&&q66 an f ops k (p++q)&&orderFrom an f mode fr ops n (p++q) (listed.setIfInBounds k true)|_,_=>false)||(match l with|i::j::l'=>y2s ops listed i j&&q66 an f ops i (j::l')&&q66 an f ops j l'&&orderFrom an f mode fr ops n (j::l') (listed.setIfInBounds i true)&&orderFrom an f mode fr ops n (i::l') (listed.setIfInBounds j true)|_=>false)
def qbb(ops:Array Oper):Nat->List Nat->Array Bool->Bool|0,l,listed=>(Region.ready .any ops listed).isEmpty&&l.isEmpty|n+1,k::l,listed=>Region.ready .any ops listed==[k]&&qbb ops n l (listed.setIfInBounds k true)|_+1,[],_=>false
def qeg(ops:Array Oper):Nat->List Nat->List Nat->Array Bool->Bool|n+1,i::l,j::l',listed=>if i=j then Region.ready .any ops listed==[i]&&qeg ops n l l' (listed.setIfInBounds i true)else Region.ready .any ops listed==[i,j]&&(qbb ops n l (listed.setIfInBounds i true)&&qbb ops n l' (listed.setIfInBounds j true))|_,_,_,_=>false
def q9z(an:An)(f:Nat)(mode:Nat)(fr:Option Nat)(ops:Array Oper):Nat->List Nat->List Nat->Array Bool->Bool|n+1,i::l,j::l',listed=>(Region.ready .any ops listed).contains i&&q66 an f ops i l&&q66 an f ops j l'&&if i=j then q7s mode ops listed i&&qik ops i&&!qpg fr ops i&&q9z an f mode fr ops n l l' (listed.setIfInBounds i true)else((Region.ready .any ops listed).all fun k=>k==i||k==j)&&orderFrom an f mode fr ops n l (listed.setIfInBounds i true)&&orderFrom an f mode fr ops n l' (listed.setIfInBounds j true)|_,_,_,_=>false
def q8q(an:An)(f id:Nat)(ops:Array Oper):Bool:=Region.noSelect ops&&match an.order f id with|[l]=>orderFrom an f (an.mode f id) (q3k an f id ops).free ops ops.size l (Array.replicate ops.size false)|[l1,l2]=>if an.mode f id=0 then qeg ops ops.size l1 l2 (Array.replicate ops.size false)else q9z an f (an.mode f id) (q3k an f id ops).free ops ops.size l1 l2 (Array.replicate ops.size false)|_=>false
theorem q5p(ops:Array Oper):∀(p q:List Nat),q0e ops (p++q)=q0e ops p++q0e ops q|[],_=>rfl|j::p,q=>by simp only[List.cons_append,q0e];cases ops[j]? with|none=>exact q5p ops p q|some o=>simp only[q5p ops p q,List.cons_append]
theorem Rel.same{s':St}(h:Rel E X s' a w)(hs:Same s s'):Rel E X s a w:=by
 have hh:s'.heap=s.heap:=by rw[hs.heap];simp
 refine h.less (s':=s) (by rw[hh]) (fun t=>.inl (hs.out t (by simp)).symm) (fun o j=>.inl (by rw[hh])) (fun o cs hcs=>⟨cs,by grind,rfl⟩)
theorem qiu:∀{l:List (Option St)}{s:St},agree l=some s->∀x∈l,x=some s|[],s,h=>by simp|[x],s,h=>by simp only[agree]at h;grind|x::y::r,s,h=>by simp only[agree]at h;cases x with|none=>grind|some s1=>cases hy:agree (y::r)with|none=>grind|some s2=>
    simp only[hy]at h;split at h
    .rename_i e;subst e;simp only[sI]at h;subst h;intro z hz;rcases List.mem_cons.1 hz with rfl|hz;·rfl
     .exact qiu hy z hz
    grind
def FreshL(E:Env0)(f:Nat)(ops:Array Oper)(s:St)(l:List Nat):Prop:=∀j∈l,∀o,ops[j]?=some o->∀t,q7p E.an f o=some t->get s.env t=.undef
theorem FreshL.next{f:Nat}(hdraw:r.draws=true){s:St}{l:List Nat}(h:FreshL E f ops s l)(ho:ops[k]?=some o)(hr:runOp E f r ops n o s=some s2)(hl:q66 E.an f ops k l'=true)(hs:∀j∈l',j∈l):FreshL E f ops s2 l':=by
 intro j hj oj hoj t ht;have h1:=h j (hs j hj) oj hoj t ht;simp only[q66,ho,List.all_eq_true]at hl;have h2:=hl j hj;simp only[hoj,bS,ht,Bool.not_eq_true']at h2;have h3:t∉q69 ops o:=by grind
 rw[(qno hdraw hr).calm (fun hm=>h3 (by simp only[q5m,q69,List.mem_append]at hm⊢;grind)) (by rw[h1];rfl),h1]
theorem y5q(ho:ops[k]?=some o)(hl:q7i o.op=true){oj:Oper}(hno:∀e∈oj.after,Region.binds .any e=true->e.on≠k):q3g ops oj=true:=by
 simp only[q3g,List.any_eq_true,List.mem_range];refine⟨k,(Array.getElem?_eq_some_iff.1 ho).1,?_⟩;simp only[ho];have h2:(oj.after.any fun e=>Region.binds .any e&&e.on==k)=false:=by grind
 rw[h2];cases hop:o.op with|load t x=>rfl|_=>rw[hop]at hl;cases hl
theorem qvo(h:q01 E fl q op s=some (v,s1))(hs:stirs op=false\/isNew op=true)(hg:get s.env t=.own xs false)(hm:op=.move (.tmp t)->fl=.keep):get s1.env t=.own xs false:=by
 have lend:∀(n:Nat)(s:St)(o off:Nat),(lendFrom s o off n).env=s.env:=by intro n;induction n with|zero=>intro s o off;rfl|succ n ih=>intro s o off;rw[lendFrom,ih];split<;>rfl
 have read:∀p,(p=.slot t->fl=.keep)->∀v s1,readPlace fl q s p=some (v,s1)->get s1.env t=.own xs false:=by
  intro p hp v s1 h;unfold readPlace at h;split at h
  .rename_i ys l hc;split at h;·cases h;exact hg
   .split at h;·cases h;exact hg
    .split at h;·cases h
     .cases h;cases p with
      |slot u=>
       show get (setE s.env u _) t=_;rw[q2a];split;·rename_i hu;subst hu;have:=hp rfl;simp_all
       .exact hg|cell o off=>exact hg
  .cases h
  .cases h
  .cases h
  .cases h
  grind
 cases op with
 |move x=>cases x with|tmp u=>exact read (.slot u) (fun e=>by grind) v s1 h|_=>simp only[q01,Option.map_eq_some_iff]at h;grind
 |load ty x=>
  simp only[q01,q3p]at h;repeat' split at h
  all_goals grind|alloc e=>simp only[q01,Option.map_eq_some_iff]at h;grind|call c=>obtain⟨callee,args,ts⟩:=c;cases callee with
  |builtin b=>
   simp only[q01,q2m]at h;split at h;·simp only[Option.map_eq_some_iff]at h;grind
   .split at h<;>cases h;omega
   .split at h<;>cases h;omega
   .rename_i x y t1 u1 ha ht;rcases hs with hs|hs;·cases hs
    .split at h
     .have hx:x=.const (.slice none 0 0):=by
       simp only[isNew,ha]at hs;split at hs;·rename_i hh;cases hh;rfl
       .cases hs
      subst hx;unfold q1v at h;simp only[ev,q0j,q08]at h;repeat' split at h
      all_goals first|contradiction|(cases h;exact hg)
     grind
   .rcases hs with hs|hs<;>cases hs
   grind|_=>simp[q01]at h
 |_=>first|(simp only[q01,Option.map_eq_some_iff]at h;obtain⟨_,_,h⟩:=h;cases h;omega)|(simp only[q01]at h;(repeat' split at h)<;>first|contradiction|(cases h;omega)|(simp only[Option.map_eq_some_iff]at h;grind)|(rcases hs with hs|hs<;>cases hs))
theorem ql5{s:St}{d:Option Nat}(hg:get s.env t=.own xs false)(hd:d≠some t):get (s.put d v).env t=.own xs false:=by cases d with|none=>exact hg|some u=>show get (putE s.env u v) t=_;have hne:u≠t:=fun e=>hd (by rw[e]);rw[q1i,if_neg hne,hg];simp[AV.sitsAt]
theorem qrz{t:Nat}{xs:List D}:∀(l:List Nat){s:St},get s.env t=.own xs false->t∉l->get (s.del l).env t=.own xs false|[],_,h,_=>h|u::l,s,h,hn=>qrz l (s:={s with env:=putE s.env u .undef}) (ql5 (s:=s) (d:=some u) (v:=.undef) h (fun e=>hn (by grind))) (fun e=>hn (by grind))
theorem qii(hdr:r.draws=true)(ho:o∈ops)(hc:qga E.an f ops t=true)(hg:get s.env t=.own xs false)(hne:xs≠[])(hp:runOp E f r ops n o s=some s1):(∃ys,get s1.env t=.own ys false/\ys≠[])/\o.dst≠some t/\(q1n o.op=true\/isNew o.op=true\/stirs o.op=false\/q3g ops o=false):=by
 simp only[qga,List.all_eq_true]at hc;have h1:=hc o (by grind);simp only[aT,Bool.or_eq_true,Bool.not_eq_true']at h1;obtain⟨h2,h3⟩:=h1;have hpk:peeks E.an f t o=true->∃d,o.op=.move (.tmp t)/\o.dst=some d/\d≠t/\E.an.flag f d=.keep:=by intro e;unfold peeks at e;grind
 have hd:o.dst≠some t:=by
  rcases h3 with h3|h3
  .intro e;have:t∉q5m o:=by simp_all
   exact this (List.mem_append_left _ (by grind))
  grind
 refine⟨?_,hd,by grind⟩;have same:get s1.env t=.own xs false->∃ys,get s1.env t=.own ys false/\ys≠[]:=fun e=>⟨xs,e,hne⟩;cases n with|zero=>simp[runOp]at hp|succ n=>simp only[runOp]at hp;cases hgd:q17 ops s o with|none=>grind|some b=>cases b with|false=>simp only[hgd,sI]at hp;subst hp;exact same (ql5 hg hd)|true=>
    simp only[hgd]at hp;split at hp
    .rename_i ty ad x hop;split at hp
     .unfold q62 at hp;split at hp
      .rename_i v m n hv hta hts;split at hp
       .have htx:t∉tmpOf x:=by
         rcases h3 with h3|h3
         .have:t∉q5m o:=by simpa using h3
          exact fun e=>this (List.mem_append_right _ (by rw[hop];exact q1u (by simp[Op.operands]) e))
         .obtain⟨d,h4,_⟩:=hpk h3;rw[hop]at h4;cases h4
        have hg':=qrz (tmpOf x) hg htx;generalize s.del (tmpOf x)=s' at hp hg';unfold q1r at hp;split at hp
        .split at hp
         .split at hp
          .cases hp;refine same ?_;show get (if _ then _ else _) t=_;split;·rw[q10,hg'];rfl
           .exact hg'
          .cases hp
         .cases hp
        .rename_i p i off hev;split at hp
         .rename_i ys ds hct hfz;split at hp
          .split at hp;·cases hp;cases p with|cell o' off'=>exact same hg'|slot u=>
             show∃zs,get (setE s'.env u _) t=_/\_;rw[q2a];split;·rename_i hu;subst hu;have e:content s' (.slot u)=.own xs false:=hg';rw[hct]at e;cases e;exact⟨_,rfl,by simpa using hne⟩
             .exact⟨xs,hg',hne⟩
           .cases hp
          .cases hp
         .cases hp
        .cases hp
       .cases hp
      .cases hp
     grind
    .split at hp;·grind
     .split at hp;·cases n with|zero=>simp[callA]at hp|succ n=>obtain⟨objs,hs,v,h',_,_,_,_,_,rfl⟩:=q5g hp;refine same (ql5 ?_ hd);show get (q11 objs s.env) t=_;rw[q10,hg];rfl
      grind
    .split at hp;·cases hst:q01 E (E.an.flag f (o.dst.getD 0)) (r.draws&&!q4a ops o.op) o.op s with|none=>simp[hst]at hp|some q=>
       obtain⟨v,s2⟩:=q;simp only[hst,sI]at hp;subst hp;rename_i hnst hncv _;have hs2:get s2.env t=.own xs false:=by
        refine qvo hst ?_ hg (fun e=>?_)
        .rcases h2 with((h2|h2)|h2)|⟨h2,_⟩;·exact .inl h2
         .exfalso;revert h2 hncv;cases o.op with|call c=>obtain⟨callee,args,ts⟩:=c;cases callee<;>simp[q1n]|_=>simp[q1n]
         .exact .inr h2
         .exfalso;revert h2 hnst;cases o.op<;>simp[q19]
        .rcases h3 with h3|h3
         .exfalso;have:t∉q5m o:=by simpa using h3
          exact this (List.mem_append_right _ (by rw[e];simp[q5u,Op.operands,tmpOf]))
         .obtain⟨d,_,h5,_,h7⟩:=hpk h3;rw[h5];exact h7
       refine same (ql5 (qrz _ hs2 ?_) hd);rcases h3 with h3|h3
       .have:t∉q5m o:=by simpa using h3
        exact fun e=>this (List.mem_append_right _ (qcp _ t e))
       .obtain⟨d,h4,_⟩:=hpk h3;rw[h4];simp[q5x]
     grind
def Kept(X:Cx)(s:St)(a:Act)(w:World)(m:Nat)(an:An)(f:Nat)(ops:Array Oper)(b o:Nat):Prop:=Safe X w m b o\/∃t,qga an f ops t=true/\SlotCell s a t b
theorem Kept.next(hdr:r.draws=true)(ho:o∈ops)(hro:runOp E f r ops n o s=some s2)(hE:Ext X w X' w2)(hm:∃more,X'.mu=X.mu++more)(ha:∃val,a2=a.put o.dst val)(hod:∀t,o.dst=some t->t<a.tmps.size){b o':Nat}(h:Kept X s a w m E.an f ops b o'):Kept X' s2 a2 w2 m E.an f ops b o':=by
 rcases h with h|⟨t,hc,xs,n',c,h1,h2,h3⟩;·exact .inl (h.ext hE hm)
 .obtain⟨⟨ys,g1,g0⟩,g2,_⟩:=qii hdr ho hc h1 h2 hro;refine .inr ⟨t,hc,ys,n',c,g1,g0,?_⟩;obtain⟨val,rfl⟩:=ha;cases hd:o.dst with|none=>exact h3|some d=>rw[q6d a d t val (hod d hd),if_neg (fun e=>g2 (by grind))];omega
theorem y34{B:Nat->Nat->Prop}(hn:isNew o.op=true)(hb:∀t u x,o.op≠.convert t u x)(hr:(execOp a.eval o).run E.P w=.ok (.value val) w1):UU B o.op w w1:=by
 refine⟨fun hc=>?_,fun _ b off u _ hc=>?_⟩;·exfalso;revert hn hc;cases o.op with
  |call c=>obtain⟨callee,args,ts⟩:=c;cases callee with|builtin b=>cases b<;>simp[isNew,q7u,q7i]|_=>simp[isNew]
  |_=>simp+contextual [isNew,q7u,q7i]
 .obtain⟨_,h2⟩:=qp9 o hn hb a.eval (fun _=>rfl) w _ w1 hr;have hb:b<w.heap.size:=World.block_lt_of_cell? w ⟨b,off,none⟩ hc;rw[cell?_of_heap (h2 b hb)];omega
theorem qbs(h:qd2 ops i=true):∃o t e,ops[i]?=some o/\o.guard=none/\o.dst=some t/\o.op=.alloc e:=by
 unfold qd2 at h;split at h
 .rename_i o ho;simp only[aT]at h;obtain⟨⟨h1,h2⟩,h3⟩:=h;obtain⟨t,ht⟩:=Option.isSome_iff_exists.1 h2;split at h3;·rename_i e he;exact⟨o,t,e,ho,by simpa using h1,ht,he⟩
  simp_all
 grind
theorem q9l{e:TypeId}(hg:o.guard=none)(hd:o.dst=some t)(ho:o.op=.alloc e)(s:St):runOp E f r ops (n+1) o s=match q3d E.P e with|some z=>some {env:=putE s.env t (.ptr s.heap.length 0),heap:=s.heap++[(q0j z).cells]}|none=>none:=by simp only[runOp,q17,hg,ho,q01,q4f];cases q3d E.P e with|none=>simp|some z=>simp only[mS,q5x,St.del,St.put,hd,Option.getD_some];cases E.an.flag f t<;>simp[q4d]
theorem q43{e:Env}{u o b:Nat}(h:get e t=.undef):get (putE e t (.ptr o b)) u=if t=u then .ptr o b else get e u:=by rw[q1i,h];rfl
theorem y0t(v:Value):q05 (q08 v)=[]:=by unfold q08;split<;>rfl
theorem qpt(z:Value):∀c∈(q0j z).cells,q05 c=[]:=by
 intro c hc;unfold q0j at hc;split at hc;·simp only[AV.cells]at hc;obtain⟨x,_,rfl⟩:=List.mem_map.1 hc;exact y0t x
 .rename_i hz;have:∀v:Value,(∀cs,v≠.agg cs)->∀c∈(q08 v).cells,q05 c=[]:=by intro v hv c hc;unfold q08 at hc;split at hc;all_goals first|(simp only[AV.cells,List.mem_singleton]at hc;subst hc;rfl)|(exact absurd rfl (hv _))
  grind
theorem y3p(h:Rel E X s a w){ti tj:Nat}(hne:ti≠tj)(hui:get s.env ti=.undef)(huj:get s.env tj=.undef){zi zj:List AV}(hzi:∀c∈zi,q05 c=[])(hzj:∀c∈zj,q05 c=[]){X2:Cx}(hR:Rel E X2 {env:=putE (putE s.env tj (.ptr s.heap.length 0)) ti (.ptr (s.heap.length+1) 0),heap:=s.heap++[zj]++[zi]} a2 w2)(hmu:∃more,X2.mu=X.mu++more)(hE:Ext X w X2 w2):∃X3,(∃more,X3.mu=X.mu++more)/\Ext X w X3 w2/\Rel E X3 {env:=putE (putE s.env ti (.ptr s.heap.length 0)) tj (.ptr (s.heap.length+1) 0),heap:=s.heap++[zi]++[zj]} a2 w2:=by
 have hget:∀u,get (putE (putE s.env tj (.ptr s.heap.length 0)) ti (.ptr (s.heap.length+1) 0)) u=if ti=u then .ptr (s.heap.length+1) 0 else if tj=u then .ptr s.heap.length 0 else get s.env u:=fun u=>by rw[q43 (by rw[q43 huj,if_neg (fun e=>hne e.symm)];omega),q43 huj]
 have hget2:∀u,get (putE (putE s.env ti (.ptr s.heap.length 0)) tj (.ptr (s.heap.length+1) 0)) u=if tj=u then .ptr (s.heap.length+1) 0 else if ti=u then .ptr s.heap.length 0 else get s.env u:=fun u=>by rw[q43 (by rw[q43 hui,if_neg hne];omega),q43 hui]
 have hx:=hR.exch (k:=s.heap.length) (by simp) (fun t o ho hp=>by
  have e:get (putE (putE s.env tj (.ptr s.heap.length 0)) ti (.ptr (s.heap.length+1) 0)) t=_:=hget t;have ho':qa6 (get (putE (putE s.env tj (.ptr s.heap.length 0)) ti (.ptr (s.heap.length+1) 0)) t)=some o:=ho;have hp':(get (putE (putE s.env tj (.ptr s.heap.length 0)) ti (.ptr (s.heap.length+1) 0)) t).placed=true:=hp;rw[e]at ho' hp';split at hp';·cases hp'
  .split at hp';·cases hp'
   .rename_i h1 h2;rw[if_neg h1,if_neg h2]at ho';have ht:=h.env t;generalize get s.env t=v at ht ho' hp';cases v with
    |loc p=>cases p with|slot u=>cases ho'|cell o' off=>cases ho';exact ht.1 _ off rfl
    |elt p i off=>cases p with|slot u=>cases ho'|cell o' off'=>cases ho';exact ht.1 _ off' rfl
    |seg p i off=>cases p with|slot u=>cases ho'|cell o' off'=>cases ho';exact ht.1 _ off' rfl
    |_=>cases hp');obtain⟨more,hm⟩:=hmu;have hml:X.mu.length=s.heap.length:=h.mu;refine⟨X2.exch s.heap.length,⟨[X2.mu.getD (s.heap.length+1) (.blk 0),X2.mu.getD s.heap.length (.blk 0)],?_⟩,Ext.trans h.gdom hE (qdn X2 w2 _),?_⟩;·show X2.mu.take _++_=_;grind
 .refine hx.same ⟨fun u _=>?_,fun u hu=>by grind,fun u hu=>by grind,?_⟩
  .show get (qgk _ _) u=_;rw[qd6,hget2,hget];by_cases e1:ti=u;·rw[if_pos e1,if_neg (fun e=>hne (e1.trans e.symm)),if_pos e1];simp[q6y,renAV,πx]
   .rw[if_neg e1,if_neg e1];by_cases e2:tj=u;·rw[if_pos e2,if_pos e2];simp[q6y,renAV,πx]
    .rw[if_neg e2,if_neg e2];exact qxa hml (h.env u)
  .show((s.heap++[zj]++[zi]).take s.heap.length++[(s.heap++[zj]++[zi]).getD (s.heap.length+1) [],(s.heap++[zj]++[zi]).getD s.heap.length []]).map _=_;have t1:(s.heap++[zj]++[zi]).take s.heap.length=s.heap:=by simp
   have t2:(s.heap++[zj]++[zi]).getD (s.heap.length+1) []=zi:=by simp
   have t3:(s.heap++[zj]++[zi]).getD s.heap.length []=zj:=by simp
   rw[t1,t2,t3,List.map_append];have z:∀l:List AV,(∀c∈l,q05 c=[])->l.map (renAV (πx s.heap.length))=l:=fun l hl=>by rw[List.map_congr_left (g:=id),List.map_id];intro c hc;exact qm4 fun o ho=>by simp_all
   have hs:s.heap.map (fun cs=>cs.map (renAV (πx s.heap.length)))=s.heap:=by rw[List.map_congr_left (g:=id),List.map_id];intro cs hcs;obtain⟨o,ho⟩:=List.getElem?_of_mem hcs;exact y6j hml (h.heap o cs ho)
   simp_all
theorem y0j{an:An}{f mode:Nat}{fr:Option Nat}(h:orderFrom an f mode fr ops N (i::l') listed=true)(hi:i∈Region.ready .any ops listed):∃N',N=N'+1/\orderFrom an f mode fr ops N' l' (listed.setIfInBounds i true)=true:=by cases N with|zero=>simp only[orderFrom,aT]at h;grind|succ N=>
  refine⟨N,rfl,?_⟩;rw[orderFrom.eq_def]at h;simp only[Bool.or_eq_true,aT]at h;rcases h with(h|⟨_,h⟩)|h;·grind
  .have h1:=List.all_eq_true.1 h i hi;simp only[qdj,if_true]at h1;grind
  grind
def qhe(E:Env0)(X:Cx)(s:St)(a:Act)(w:World)(r:Rule)(f:FuncId)(ops:Array Oper)(B:Nat->Nat->Nat->Prop):Prop:=∀j b o,B j b o->(1<=r.mode/\Kept X s a w r.mode E.an f ops b o/\∀oj,ops[j]?=some oj->q3g ops oj=true)\/∀oj,ops[j]?=some oj->(isNew oj.op=true\/stirs oj.op=false)
theorem qp8(hdr:r.draws=true)(hsel:Region.noSelect ops=true){K:Act->World->Prop}{B:Nat->Nat->Nat->Prop}(ho:ops[k]?=some o)(hmem:k∈Region.ready .any ops listed)(hk:q7s r.mode ops listed k=true)(hsole:qik ops k=true)(hfk:qpg r.free ops k=false)(hro:runOp E f r ops n o s=some s2)(h:Rel E X s a w)(hd:∀o∈ops,∀t,o.dst=some t->t<a.tmps.size)(hB:qhe E X s a w r f ops B)(cont:∀(a2:Act)(w2:World)(B2:Nat->Nat->Nat->Prop),After E X w a.tmps.size s2 a2 w2->(∃val,a2=a.put o.dst val)->qhe E X s a w r f ops B2->q6b E.P .any ops (fun e a' w'=>e=.normal/\K a' w') N B2 (listed.setIfInBounds k true) a2 w2):q6b E.P .any ops (fun e a' w'=>e=.normal/\K a' w') (N+1) B listed a w:=by
 have hod:∀t,o.dst=some t->t<a.tmps.size:=fun t ht=>hd o (Array.mem_of_getElem? ho) t ht;have hcl:=qok ho hk;have hsim:q3q o.op=true:=qt4 (by grind);have free:∀(R:World->World->Prop)(B':Nat->Nat->Nat->Prop),(∀j oj,ops[j]?=some oj->(∀e∈oj.after,Region.binds .any e=true->e.on≠k)->qq9 r.mode o.op oj.op=true->∀w w',UU (B' j) oj.op w w'->R w w')->∀j oj,ops[j]?=some oj->j≠k->listed.getD j true=false->(∀e∈oj.after,Region.binds .any e=true->e.on≠k)->o.apart ops oj=true/\∀w w',UU (B' j) oj.op w w'->R w w':=by intro R B' hR j oj hj hne hun hno;obtain⟨h1,h2⟩:=qaf ho hk j oj hj hne hun hno;grind
 have selspec:=Region.noSelect_spec hsel;have top:∀val,Region.wanted o (yielded ops a.tmps)=true/\(∀w',(execOp a.eval o).run E.P w'=.ok (.value val) w')\/(Region.wanted o (yielded ops a.tmps)=false/\val=undef)->(∀op,qq9 r.mode o.op op=true->True)->After E X w a.tmps.size s2 (a.put o.dst val) w->q6b E.P .any ops (fun e a' w'=>e=.normal/\K a' w') (N+1) B listed a w:=by
  intro val hv _ haft;refine qbo (R:=fun _ _=>True) (fun _=>trivial) (fun _ _ _ _ _=>trivial) ho selspec (fun c a w hc=>by grind) (B':=B) (fun _ _ _ hb=>hb) (fun w=>UU.refl (B k) _ w) N listed a w (free _ B (fun _ _ _ _ _ _ _ _=>trivial)) hmem ?_ (cont _ _ B haft ⟨_,rfl⟩ hB);rcases hv with⟨h1,h2⟩|⟨h1,h2⟩;·exact .inl ⟨h1,fun w' _=>h2 w'⟩
  .exact .inr ⟨h1,h2⟩
 rcases q5t h hod hsim hro with⟨hw,haft⟩|⟨hw,hreads,fl,q,v,s3,hst,val,w1,hr,haft⟩;·grind
 .cases hpu:q7u o.op with|true=>obtain⟨val',hv⟩:=qxj h o hst hpu;have hrw:=hv w;rw[hr]at hrw;cases hrw;grind|false=>
   have hlo:q7i o.op=true:=by grind
   have hw1:w1=w:=qzb o hlo _ w _ w1 hr;subst hw1;by_cases hm1:1<=r.mode/\qhi ops o=true
   .obtain⟨hm0,hnl⟩:=hm1;cases hop:o.op with|load t x=>
     have hx:((∃ob off,ev E s x=.ptr ob off/\above r.mode ob=true)\/(∃cs,ev E s x=.view cs)\/∃t i off,ev E s x=.elt (.slot t) i off)/\∀t i off,ev E s x=.elt (.slot t) i off->qga E.an f ops t=true:=by
      rw[hop]at hreads;have hfk':freeB r.free o=false:=by simpa[qpg,ho]using hfk
      simp only[q4f,qao,hdr,hnl,hfk',Bool.not_false,Bool.and_self,nT,Bool.false_or,Bool.or_eq_true,beq_iff_eq]at hreads;grind
     have hst':q3p E fl q t (ev E s x) s=some (v,s3):=by rw[hop]at hst;exact hst
     obtain⟨val',C,hC,hrun⟩:=y2o h o hop hst' hx.1;have hrw:=hrun w1 (fun _ _ _ _ hc=>hc);rw[hr]at hrw;cases hrw;let B':Nat->Nat->Nat->Prop:=fun j b o=>B j b o\/(C b o/\∀oj,ops[j]?=some oj->∀e∈oj.after,Region.binds .any e=true->e.on≠k);have hBC:∀j b o,B' j b o->(1<=r.mode/\Kept X s a w1 r.mode E.an f ops b o/\∀oj,ops[j]?=some oj->q3g ops oj=true)\/∀oj,ops[j]?=some oj->(isNew oj.op=true\/stirs oj.op=false):=fun j b o' e=>e.elim (hB j b o') (fun e=>.inl ⟨hm0,(hC b o' e.1).imp id (fun⟨t,i,off,h1,h2⟩=>⟨t,hx.2 t i off h1,h2⟩),fun oj hoj=>y5q ho hlo (e.2 oj hoj)⟩);refine qbo (R:=Pres C) (fun _ _ _ _ _ hc=>hc) (fun _ _ _ h1 h2 b o u hb hc=>h2 b o u hb (h1 b o u hb hc)) ho selspec (fun c a w hc=>by grind) (B':=B') (fun _ _ _ hb=>.inl hb) (fun w=>UU.refl (B k) _ w) N listed a w1 (free _ _ (fun j oj hj hno hmix w w' hu=>?_)) hmem (.inl ⟨hw,hrun⟩) (cont _ _ _ haft ⟨_,rfl⟩ hBC);have hmix':((q7u oj.op||q7i oj.op)=true)\/((q5z oj.op||q1n oj.op||q19 oj.op)=true):=by
      simp only[qq9,hpu,Bool.false_or,aT,Bool.or_eq_true]at hmix;simp only[Bool.or_eq_true];rcases hmix.2 with((e|e)|e)|e;·exact .inl (.inl e)
      .exact .inl (.inr e)
      .exact .inr (.inl (.inl (by simp[q5z,e])))
      grind
     rcases hmix' with e|e;·rw[hu.1 e];exact fun _ _ _ _ hc=>hc
     .exact fun b o u hb hc=>hu.2 e b o u (.inr ⟨hb,fun oj' hoj'=>by grind⟩) hc|_=>rw[hop]at hlo;cases hlo
   .cases hop:o.op with|load t x=>
     have hst':q3p E fl q t (ev E s x) s=some (v,s3):=by rw[hop]at hst;exact hst
     obtain⟨val',C,hrun⟩:=y73 h o hop hst';have hrw:=hrun w1 (fun _ _ _ _ hc=>hc);rw[hr]at hrw;cases hrw;let B':Nat->Nat->Nat->Prop:=fun j b o=>B j b o\/(C b o/\∀oj,ops[j]?=some oj->(isNew oj.op=true\/stirs oj.op=false));have hBC:∀j b o,B' j b o->(1<=r.mode/\Kept X s a w1 r.mode E.an f ops b o/\∀oj,ops[j]?=some oj->q3g ops oj=true)\/∀oj,ops[j]?=some oj->(isNew oj.op=true\/stirs oj.op=false):=fun j b o' e=>e.elim (hB j b o') (fun e=>.inr e.2);refine qbo (R:=Pres C) (fun _ _ _ _ _ hc=>hc) (fun _ _ _ h1 h2 b o u hb hc=>h2 b o u hb (h1 b o u hb hc)) ho selspec (fun c a w hc=>by grind) (B':=B') (fun _ _ _ hb=>.inl hb) (fun w=>UU.refl (B k) _ w) N listed a w1 (fun j oj hj hne hun hno=>⟨(qaf ho hk j oj hj hne hun hno).1,fun w w' hu=>?_⟩) hmem (.inl ⟨hw,hrun⟩) (cont _ _ _ haft ⟨_,rfl⟩ hBC);have hmix:=(qaf ho hk j oj hj hne hun hno).2;have hnew:(q7u oj.op||q7i oj.op)=true\/isNew oj.op=true:=by
      simp only[qq9,hpu,Bool.false_or,aT,Bool.or_eq_true,dT']at hmix;simp only[Bool.or_eq_true];rcases hmix.2 with((e|e)|e)|e;·grind
      .grind
      .grind
      .by_cases hnl:qhi ops o=true;·grind
       .rcases y9o ho hlo hsole (by simpa using hnl) hmem hj hun hno with e'|e';·have hst:stirs oj.op=true:=y6a (by simpa only[Bool.or_eq_true]using e.2);rw[e']at hst;cases hst
        grind
     rcases hnew with e|e;·rw[hu.1 e];exact fun _ _ _ _ hc=>hc
     .exact fun b o u hb hc=>hu.2 (by simp[q5z,e]) b o u (.inr ⟨hb,fun oj' hoj'=>by grind⟩) hc|_=>rw[hop]at hlo;cases hlo
theorem qt2(hcall:∀m,m<n->q4h E m)(hb:q9g E)(hdr:r.draws=true){K:Act->World->Prop}{B:Nat->Nat->Nat->Prop}(ho:ops[i]?=some o)(hro:runOp E f r ops n o s=some s2)(h:Rel E X s a w)(hd:∀o∈ops,∀t,o.dst=some t->t<a.tmps.size)(hB:qhe E X s a w r f ops B)(cont:∀(a2:Act)(w2:World)(B2:Nat->Nat->Nat->Prop),After E X w a.tmps.size s2 a2 w2->(∃val,a2=a.put o.dst val)->qhe E X s a w r f ops B2->q6b E.P .any ops (fun e a' w'=>e=.normal/\K a' w') N B2 (listed.setIfInBounds i true) a2 w2):wpOp E.P ops (fun e a' w'=>e=.normal/\K a' w') i (fun a' w'=>(∀o',ops[i]?=some o'->UU (B i) o'.op w w')/\q6b E.P .any ops (fun e a' w'=>e=.normal/\K a' w') N B (listed.setIfInBounds i true) a' w') a w:=by
 have hod:∀t,o.dst=some t->t<a.tmps.size:=fun t ht=>hd o (Array.mem_of_getElem? ho) t ht;have step:∀a2 w2,After E X w a.tmps.size s2 a2 w2->(∃val,a2=a.put o.dst val)->UU (B i) o.op w w2->(∀o',ops[i]?=some o'->UU (B i) o'.op w w2)/\q6b E.P .any ops (fun e a' w'=>e=.normal/\K a' w') N B (listed.setIfInBounds i true) a2 w2:=
  fun a2 w2 haft hput hu=>⟨fun o' ho'=>by grind,cont a2 w2 B haft hput hB⟩;cases hs:q3q o.op with|true=>
  rcases q5t h hod hs hro with⟨hw,haft⟩|⟨hw,_,fl,q,v,s3,hst,val,w1,hr,haft⟩;·exact qhf ho hw (step _ _ haft ⟨_,rfl⟩ (UU.refl (B i) _ w))
  .have kc:∀b o',B i b o'->Safe X w r.mode b o'\/(q1n o.op=true\/isNew o.op=true\/stirs o.op=false):=fun b o' hb=>by
    rcases hB i b o' hb with⟨_,h1|⟨t,hc,xs,n',c,h1,h2,_⟩,hgd⟩|hnew;·exact .inl h1
    .rcases(qii hdr (Array.mem_of_getElem? ho) hc h1 h2 hro).2.2 with e|e|e|e;·exact .inr (.inl e)
     .exact .inr (.inr (.inl e))
     .exact .inr (.inr (.inr e))
     .rw[hgd o ho]at e;cases e
    grind
   exact qd4 ho hw hr (step _ _ haft ⟨_,rfl⟩ (by obtain⟨_,X',_,hE,_⟩:=haft;exact y4k kc h hs hst hr hE))|false=>cases hg:q17 ops s o with|none=>cases n<;>simp[runOp,hg]at hro|some b=>cases b with|false=>obtain⟨hw,haft⟩:=qoe h hod hg hro;exact qhf ho hw (step _ _ haft ⟨_,rfl⟩ (UU.refl (B i) _ w))|true=>
    refine q7e (fun m' hm'=>hcall m' (by omega)) hb ho h hod hro _ _ (fun a' w' haft hq=>step _ _ haft (hq hg).1 ⟨fun hc=>?_,fun hc=>?_⟩);·rw[qt4 hc]at hs;grind
    .have hcv:q1n o.op=true\/q19 o.op=true:=by revert hs hc;cases o.op with|call c=>obtain⟨callee,args,ts⟩:=c;cases callee<;>simp[q3q,q1n,q19]|store t x y=>simp[q5z,q1n,q19]|_=>simp[q3q]
     intro b off u hbb hc;rcases hB i b off hbb with⟨hmode,hsafe,hgd⟩|hnew;case inr=>
      exfalso;rcases hnew o ho with e|e;·revert hs e;cases o.op with|call c=>obtain⟨callee,args,ts⟩:=c;cases callee<;>simp[q3q,isNew]|_=>simp[q3q,isNew]
      .rcases hcv with e'|e';·revert e e';cases o.op with|call c=>obtain⟨callee,args,ts⟩:=c;cases callee<;>simp[q1n,stirs]|_=>simp[q1n,stirs]
       .revert e e';cases o.op<;>simp[q19,stirs]
     rcases hsafe with(⟨h1,_⟩|⟨o',h1,h2⟩)|⟨t,hcs,hsc⟩;·obtain⟨_,X',_,hE,_⟩:=haft;exact(hE.point hc h1).1
     .rw[cell?_of_heap ((hq hg).2.2 hdr (hcv.imp id fun e=>⟨e,hmode,hgd o ho⟩) o' b h2 h1)];omega
     .obtain⟨xs,n',c,g1,g2,g3⟩:=hsc;have hcl:=(qii hdr (Array.mem_of_getElem? ho) hcs g1 g2 hro).2.2;obtain⟨j,k,hlab⟩:=SlotCell.lab h ⟨xs,n',c,g1,g2,g3⟩;have hcv':q1n o.op=true:=by
       rcases hcl with e|e|e|e;·exact e
       .exfalso;revert hs e;cases o.op with|call c=>obtain⟨callee,args,ts⟩:=c;cases callee<;>simp[q3q,isNew]|_=>simp[q3q,isNew]
       .rcases hcv with e'|e';·exact e'
        .exfalso;revert e e';cases o.op<;>simp[q19,stirs]
       grind
      rw[cell?_of_heap ((hq hg).2.1 hdr hcv' b t j k hlab)];omega
theorem qnq(hdr:r.draws=true)(ho:ops[k]?=some o)(hro:runOp E f r ops n o s=some s2)(h:Rel E X s a w)(hd:∀o∈ops,∀t,o.dst=some t->t<a.tmps.size){a2:Act}{w2:World}{B2:Nat->Nat->Nat->Prop}(haft:After E X w a.tmps.size s2 a2 w2)(hput:∃val,a2=a.put o.dst val)(hB2:qhe E X s a w r f ops B2):∃X',Rel E X' s2 a2 w2/\(∀o∈ops,∀t,o.dst=some t->t<a2.tmps.size)/\qhe E X' s2 a2 w2 r f ops B2/\∀sx a' w',After E X' w2 a2.tmps.size sx a' w'->After E X w a.tmps.size sx a' w':=by obtain⟨hsz,X',hm',hE,hR⟩:=haft;refine⟨X',hR,fun o' ho' t ht=>by grind,fun j b o' hb2=>(hB2 j b o' hb2).imp (fun g=>⟨g.1,g.2.1.next hdr (Array.mem_of_getElem? ho) hro hE hm' hput (fun t ht=>hd _ (Array.mem_of_getElem? ho) t ht),g.2.2⟩) (fun g=>g),fun sx a' w' h2=>?_⟩;rw[hsz]at h2;exact After.trans h.gdom hm' hE h2
theorem qa8 {n : Nat} (hcall : ∀ m, m < n -> q4h E m) (hb : q9g E) {f : FuncId} {r : Rule} (hdr : r.draws = true) {ops : Array Oper} (hsel : Region.noSelect ops = true) {K : Act -> World -> Prop} :
  ∀ (N : Nat) (l : List Nat) (B : Nat -> Nat -> Nat -> Prop) (listed : Array Bool) (X : Cx) (s s1 : St) (a : Act) (w : World), orderFrom E.an f r.mode r.free ops N l listed = true -> runOps E f r ops n (q0e ops l) s = some s1 -> FreshL E f ops s l -> Rel E X s a w ->
   (∀ o ∈ ops, ∀ t, o.dst = some t -> t < a.tmps.size) -> qhe E X s a w r f ops B -> (∀ a' w', After E X w a.tmps.size s1 a' w' -> K a' w') ->
   q6b E.P .any ops (fun e a' w' => e = .normal /\ K a' w') N B listed a w
 | 0, l, B, listed, X, s, s1, a, w, hord, hp, hfr, h, hd, hB, hK => by
  simp only [orderFrom, aT] at hord;have hl : l = [] := by grind
  subst hl;simp only [q0e, q6x, sI] at hp;subst hp;exact ⟨by grind, rfl, hK _ _ ⟨rfl, X, ⟨[], by simp⟩, Ext.refl X w, h⟩⟩
 | N + 1, l, B, listed, X, s, s1, a, w, hord, hp, hfr, h, hd, hB, hK => by
  have prep : ∀ k p q, l = p ++ k :: q -> k ∈ Region.ready .any ops listed -> (∀ o, ops[k]? = some o -> (p.isEmpty || qri E.an f ops (q0e ops p) o) = true) ->
    ∃ o s2 sf, ops[k]? = some o /\ runOp E f r ops n o s = some s2 /\ runOps E f r ops n (q0e ops (p ++ q)) s2 = some sf /\ Same s1 sf := by
   intro k p q hl hmem hfo;obtain ⟨_, o, ho, _⟩ := mem_ready.1 hmem;have hord2 : q0e ops l = q0e ops p ++ o :: q0e ops q := by rw [hl, q5p]; simp only [q0e, ho]
   rw [hord2] at hp;have hex : ∃ sf, runOps E f r ops n (o :: (q0e ops p ++ q0e ops q)) s = some sf /\ Same s1 sf := by
    have hfo := hfo o ho;simp only [Bool.or_eq_true] at hfo;rcases hfo with hpe | hfo
    .have : p = [] := by grind
     subst this;exact ⟨s1, hp, Same.refl _⟩
    .unfold qri at hfo;split at hfo
     .rename_i t ht;simp only [List.all_eq_true, aT, Bool.or_eq_true, Bool.not_eq_true'] at hfo;refine swap hdr ht (hfr k (by rw [hl]; simp) o ho t ht) (fun x hx => ?_) (fun x hx u hu => ?_) (fun hn x hx => ?_) hp
      .have := (hfo x hx).1.1; simpa using this
      .have := (hfo x hx).1.2 u hu; simpa using this
      .rcases (hfo x hx).2 with e | e
       .rw [hn] at e; cases e
       .exact e
     grind
   obtain ⟨sf, h1, h2⟩ := hex;rw [q0q] at h1;cases hro : runOp E f r ops n o s with
   | none => grind
   | some s2 =>
    rw [hro] at h1;exact ⟨o, s2, sf, ho, hro, by rw [q5p]; omega, h2⟩
  have contk : ∀ k l' o s2 sf, ops[k]? = some o -> runOp E f r ops n o s = some s2 -> orderFrom E.an f r.mode r.free ops N l' (listed.setIfInBounds k true) = true -> q66 E.an f ops k l' = true -> (∀ j ∈ l', j ∈ l) -> runOps E f r ops n (q0e ops l') s2 = some sf -> Same s1 sf ->
    ∀ (a2 : Act) (w2 : World) (B2 : Nat -> Nat -> Nat -> Prop), After E X w a.tmps.size s2 a2 w2 -> (∃ val, a2 = a.put o.dst val) -> qhe E X s a w r f ops B2 ->
    q6b E.P .any ops (fun e a' w' => e = .normal /\ K a' w') N B2 (listed.setIfInBounds k true) a2 w2 := by
   intro k l' o s2 sf ho hro hrest hlat hsub hps hsame a2 w2 B2 haft hput hB2;obtain ⟨X', hR, hd', hB', hA⟩ := qnq hdr ho hro h hd haft hput hB2;refine qa8 hcall hb hdr hsel N l' B2 _ X' s2 sf a2 w2 hrest hps (hfr.next hdr ho hro hlat hsub) hR hd' hB' (fun a' w' h2 => hK _ _ ?_);obtain ⟨g1, X2, g2, g3, g4⟩ := hA _ _ _ h2;exact ⟨g1, X2, g2, g3, g4.same hsame⟩
  rw [orderFrom.eq_def] at hord;simp only [Bool.or_eq_true, aT] at hord;rcases hord with (hord | ⟨hnn, hall⟩) | htw
  .-- one comes first
   have hsplit : ∃ k l', l = k :: l' /\ k ∈ Region.ready .any ops listed /\ q7s r.mode ops listed k = true /\ qik ops k = true /\ qpg r.free ops k = false /\ q66 E.an f ops k l' = true /\ orderFrom E.an f r.mode r.free ops N l' (listed.setIfInBounds k true) = true := by
    grind
   obtain ⟨k, l', hl, hmem, hk, hsole, hfk, hlat, hrest⟩ := hsplit;obtain ⟨o, s2, sf, ho, hro, hps, hsame⟩ := prep k [] l' hl hmem (fun _ _ => rfl);rw [List.nil_append] at hps;have cont := contk k l' o s2 sf ho hro hrest hlat (fun j hj => by grind) hps hsame;exact qp8 hdr hsel ho hmem hk hsole hfk hro h hd hB cont
  .-- each that may come next may come ahead of those before it
   refine ⟨fun e => (by grind), fun i hi => ?_⟩;have hi1 := List.all_eq_true.1 hall i hi;have hi2 : ∃ p q ok, qdj i l = some (p, q) /\ ops[i]? = some ok /\ (p.isEmpty || qri E.an f ops (q0e ops p) ok) = true /\ q66 E.an f ops i (p ++ q) = true /\ orderFrom E.an f r.mode r.free ops N (p ++ q) (listed.setIfInBounds i true) = true := by
    grind
   obtain ⟨p, q, ok, hs0, hok, hfo, hlat, hrest⟩ := hi2;have hl := qlr hs0;obtain ⟨o, s2, sf, ho, hro, hps, hsame⟩ := prep i p q hl hi (fun o' ho' => by grind);have cont := contk i (p ++ q) o s2 sf ho hro hrest hlat (fun j hj => by
    grind) hps hsame
   exact qt2 hcall hb hdr ho hro h hd hB cont
  .-- two variables laid in any order
   split at htw
   .rename_i i j l';simp only [aT] at htw;obtain ⟨⟨⟨⟨htk, hla1⟩, hla2⟩, hro1⟩, hro2⟩ := htw;simp only [y2s, aT, bne_iff_ne, ne_eq, Bool.not_eq_true', List.isEmpty_eq_false_iff, List.all_eq_true, Bool.or_eq_true, beq_iff_eq] at htk;obtain ⟨⟨⟨⟨⟨⟨⟨⟨hij, hpi⟩, hpj⟩, hdne⟩, hnn⟩, hall⟩, hci⟩, hnn2⟩, hall2⟩ := htk;obtain ⟨oi, ti, ei, hoi, hgi, hdi, hopi⟩ := qbs hpi;obtain ⟨oj, tj, ej, hoj, hgj, hdj, hopj⟩ := qbs hpj;have hri2 : i ∈ Region.ready .any ops (listed.setIfInBounds j true) := by
     obtain ⟨x, hx⟩ := List.exists_mem_of_ne_nil _ hnn2
     grind
    obtain ⟨n', rfl, hro3⟩ := y0j hro2 hri2;have hne : ti ≠ tj := fun e => hdne (by simp_all)
    have hfd : ∀ o t e, o.dst = some t -> o.op = .alloc e -> q7p E.an f o = some t := fun o t e h1 h2 => by simp [q7p, h1, h2, qaa]
    have hui : get s.env ti = .undef := hfr i (by simp) oi hoi ti (hfd oi ti ei hdi hopi);have huj : get s.env tj = .undef := hfr j (by simp) oj hoj tj (hfd oj tj ej hdj hopj);have hord2 : q0e ops (i :: j :: l') = oi :: oj :: q0e ops l' := by simp only [q0e, hoi, hoj]
    rw [hord2, q0q] at hp;cases n with
    | zero => simp [runOp] at hp
    | succ n =>
    rw [q9l hgi hdi hopi] at hp;cases hzi : q3d E.P ei with
    | none => grind
    | some zi =>
    rw [hzi] at hp;simp only at hp;rw [q0q, q9l hgj hdj hopj] at hp;cases hzj : q3d E.P ej with
    | none => grind
    | some zj =>
    rw [hzj] at hp;simp only [List.length_append, List.length_cons, List.length_nil, Nat.zero_add] at hp;have hri : runOp E f r ops (n + 1) oi s = some { env := putE s.env ti (.ptr s.heap.length 0), heap := s.heap ++ [(q0j zi).cells] } := by rw [q9l hgi hdi hopi, hzi]
    have hrj : runOp E f r ops (n + 1) oj s = some { env := putE s.env tj (.ptr s.heap.length 0), heap := s.heap ++ [(q0j zj).cells] } := by rw [q9l hgj hdj hopj, hzj]
    have hrij : runOp E f r ops (n + 1) oj { env := putE s.env ti (.ptr s.heap.length 0), heap := s.heap ++ [(q0j zi).cells] } = some { env := putE (putE s.env ti (.ptr s.heap.length 0)) tj (.ptr (s.heap.length + 1) 0), heap := s.heap ++ [(q0j zi).cells] ++ [(q0j zj).cells] } := by
     rw [q9l hgj hdj hopj, hzj]; simp
    have hrji : runOp E f r ops (n + 1) oi { env := putE s.env tj (.ptr s.heap.length 0), heap := s.heap ++ [(q0j zj).cells] } = some { env := putE (putE s.env tj (.ptr s.heap.length 0)) ti (.ptr (s.heap.length + 1) 0), heap := s.heap ++ [(q0j zj).cells] ++ [(q0j zi).cells] } := by
     rw [q9l hgi hdi hopi, hzi]; simp
    have hnew : ∀ {o : Oper} {e : TypeId}, o.op = .alloc e -> isNew o.op = true /\ q3q o.op = true := fun h => by rw [h]; exact ⟨rfl, rfl⟩
    have hodi : ∀ t, oi.dst = some t -> t < a.tmps.size := fun t ht => hd oi (Array.mem_of_getElem? hoi) t ht
    have hodj : ∀ t, oj.dst = some t -> t < a.tmps.size := fun t ht => hd oj (Array.mem_of_getElem? hoj) t ht
    have hfr1 := hfr.next hdr hoi hri hla1 (fun q hq => List.mem_cons_of_mem _ hq);have hfr2 := hfr1.next hdr hoj hrij hla2 (fun q hq => List.mem_cons_of_mem _ hq);have hwi : ∀ (a : Act), Region.wanted oi (yielded ops a.tmps) = true := fun a => by simp [Region.wanted, hgi]
    have hwj : ∀ (a : Act), Region.wanted oj (yielded ops a.tmps) = true := fun a => by simp [Region.wanted, hgj]
    refine ⟨fun e => absurd e hnn, fun q hq => ?_⟩;rcases hall q hq with rfl | rfl
    .-- in this order
     rcases q5t h hodi (hnew hopi).2 hri with ⟨hw, _⟩ | ⟨_, _, fl, q', v, s3, hst, val, w1, hr, haft⟩
     .grind
     .refine qd4 hoi (hwi a) hr ⟨fun o' ho' => by rw [hoi] at ho'; cases ho'; exact y34 (hnew hopi).1 (by simp [hopi]) hr, ?_⟩;refine contk q (j :: l') oi _ s1 hoi hri hro1 hla1 (fun x hx => List.mem_cons_of_mem _ hx) ?_ (Same.refl _) _ _ B haft ⟨_, rfl⟩ hB;have : q0e ops (j :: l') = oj :: q0e ops l' := by simp only [q0e, hoj]
      rw [this, q0q, hrij]; omega
    .-- the other one ahead
     rcases q5t h hodj (hnew hopj).2 hrj with ⟨hw, _⟩ | ⟨_, _, fl, q', v, s3, hst, val, w1, hr, haft⟩
     .grind
     .refine qd4 hoj (hwj a) hr ⟨fun o' ho' => by rw [hoj] at ho'; cases ho'; exact y34 (hnew hopj).1 (by simp [hopj]) hr, ?_⟩;obtain ⟨hsz1, X1, hm1, hE1, hR1⟩ := haft;refine ⟨fun e => absurd e hnn2, fun q2 hq2 => ?_⟩;have hq2i := hall2 q2 hq2;subst hq2i;rcases q5t hR1 (fun t ht => by grind) (hnew hopi).2 hrji with ⟨hw, _⟩ | ⟨_, _, fl2, q2', v2, s4, hst2, val2, w2, hr2, haft2⟩
      .grind
      .refine qd4 hoi (hwi _) hr2 ⟨fun o' ho' => by rw [hoi] at ho'; cases ho'; exact y34 (hnew hopi).1 (by simp [hopi]) hr2, ?_⟩;obtain ⟨hsz2, X2, hm2, hE2, hR2⟩ := haft2;have hm12 : ∃ more, X2.mu = X.mu ++ more := by
        grind
       obtain ⟨X3, hm3, hE3, hR3⟩ := y3p h hne hui huj (qpt zi) (qpt zj) hR2 hm12 (Ext.trans h.gdom hE1 hE2);refine qa8 hcall hb hdr hsel n' l' B _ X3 _ s1 _ w2 hro3 hp hfr2 hR3 (fun o' ho' t ht => by grind) (fun q b o' hb2 => (hB q b o' hb2).imp (fun hg => ⟨hg.1, ?_, hg.2.2⟩) (fun hg => hg)) (fun a' w' h2 => hK _ _ ?_)
       .rcases hg.2.1 with h3 | ⟨t, hc, xs, m', c, h4, h5, h6⟩
        .exact .inl (h3.ext hE3 hm3)
        .have hti : ti ≠ t := fun e => by grind
         have htj : tj ≠ t := fun e => by grind
         refine .inr ⟨t, hc, xs, m', c, ?_, h5, ?_⟩
         .show get (putE (putE s.env ti (.ptr s.heap.length 0)) tj (.ptr (s.heap.length + 1) 0)) t = _;rw [q43 (by rw [q43 hui, if_neg hne]; exact huj), if_neg htj, q43 hui, if_neg hti]; omega
         .rw [hdi, hdj, q6d _ ti t val2 (by rw [q4z]; exact hodi ti hdi), if_neg hti, q6d a tj t val (hodj tj hdj), if_neg htj]; omega
       .rw [hsz2, hsz1] at h2;exact After.trans h.gdom hm3 hE3 h2
   grind
theorem qpx{n:Nat}(hcall:∀m,m<n->q4h E m)(hb:q9g E){f:FuncId}{r:Rule}(hdr:r.draws=true){ops:Array Oper}(hsel:Region.noSelect ops=true){K:Act->World->Prop}:∀(N:Nat)(l l':List Nat)(B:Nat->Nat->Nat->Prop)(listed:Array Bool)(X:Cx)(s s1 s1':St)(a:Act)(w:World),q9z E.an f r.mode r.free ops N l l' listed=true->runOps E f r ops n (q0e ops l) s=some s1->runOps E f r ops n (q0e ops l') s=some s1'->FreshL E f ops s l->FreshL E f ops s l'->Rel E X s a w->(∀o∈ops,∀t,o.dst=some t->t<a.tmps.size)->qhe E X s a w r f ops B->(∀a' w',After E X w a.tmps.size s1 a' w'\/After E X w a.tmps.size s1' a' w'->K a' w')->q6b E.P .any ops (fun e a' w'=>e=.normal/\K a' w') N B listed a w
 |0,l,l',B,listed,X,s,s1,s1',a,w,hord,hp,hp',hfr,hfr',h,hd,hB,hK=>by simp[q9z]at hord|N+1,[],l',B,listed,X,s,s1,s1',a,w,hord,hp,hp',hfr,hfr',h,hd,hB,hK=>by simp[q9z]at hord|N+1,i::l,[],B,listed,X,s,s1,s1',a,w,hord,hp,hp',hfr,hfr',h,hd,hB,hK=>by simp[q9z]at hord|N+1,i::l,j::l',B,listed,X,s,s1,s1',a,w,hord,hp,hp',hfr,hfr',h,hd,hB,hK=>by
  unfold q9z at hord;simp only[aT,List.contains_iff_mem]at hord;obtain⟨⟨⟨hmem,hlat⟩,hlat'⟩,hord⟩:=hord;have head:∀k q sx,k<ops.size->runOps E f r ops n (q0e ops (k::q)) s=some sx->∃o s2,ops[k]?=some o/\runOp E f r ops n o s=some s2/\runOps E f r ops n (q0e ops q) s2=some sx:=fun k q sx hk hpx=>by have ho:ops[k]?=some ops[k]:=Array.getElem?_eq_getElem hk;simp only[q0e,ho]at hpx;rw[q0q]at hpx;cases hs:runOp E f r ops n ops[k] s with|none=>rw[hs]at hpx;cases hpx|some s2=>rw[hs]at hpx;exact⟨_,s2,ho,hs,hpx⟩
  have size:∀k,k∈Region.ready .any ops listed->k<ops.size:=fun k hk=>by obtain⟨_,o,ho,_⟩:=mem_ready.1 hk;exact(Array.getElem?_eq_some_iff.1 ho).1
  by_cases e:i=j
  .subst e;rw[if_pos rfl]at hord;simp only[aT]at hord;obtain⟨⟨⟨hk,hsole⟩,hfk⟩,hrest⟩:=hord;have hfk:qpg r.free ops i=false:=by simpa using hfk
   obtain⟨o,s2,ho,hro,hps⟩:=head i l s1 (size i hmem) hp;obtain⟨o',s2',ho',hro',hps'⟩:=head i l' s1' (size i hmem) hp';rw[ho]at ho';cases ho';rw[hro]at hro';cases hro';refine qp8 hdr hsel ho hmem hk hsole hfk hro h hd hB fun a2 w2 B2 haft hput hB2=>?_;obtain⟨X',hR,hd',hB',hA⟩:=qnq hdr ho hro h hd haft hput hB2;exact qpx hcall hb hdr hsel N l l' B2 _ X' s2 s1 s1' a2 w2 hrest hps hps' (hfr.next hdr ho hro hlat fun j hj=>List.mem_cons_of_mem _ hj) (hfr'.next hdr ho hro hlat' fun j hj=>List.mem_cons_of_mem _ hj) hR hd' hB' (fun a' w' h2=>hK _ _ (h2.imp (hA _ _ _) (hA _ _ _)))
  .rw[if_neg e]at hord;simp only[aT,List.all_eq_true,Bool.or_eq_true,beq_iff_eq]at hord;obtain⟨⟨hall,hr1⟩,hr2⟩:=hord;have go:∀k q sx,k∈Region.ready .any ops listed->runOps E f r ops n (q0e ops (k::q)) s=some sx->FreshL E f ops s (k::q)->q66 E.an f ops k q=true->orderFrom E.an f r.mode r.free ops N q (listed.setIfInBounds k true)=true->(∀a' w',After E X w a.tmps.size sx a' w'->K a' w')->wpOp E.P ops (fun e a' w'=>e=.normal/\K a' w') k (fun a' w'=>(∀o',ops[k]?=some o'->UU (B k) o'.op w w')/\q6b E.P .any ops (fun e a' w'=>e=.normal/\K a' w') N B (listed.setIfInBounds k true) a' w') a w:=fun k q sx hk hpx hf hl hor hKx=>by obtain⟨o,s2,ho,hro,hps⟩:=head k q sx (size k hk) hpx;refine qt2 hcall hb hdr ho hro h hd hB fun a2 w2 B2 haft hput hB2=>?_;obtain⟨X',hR,hd',hB',hA⟩:=qnq hdr ho hro h hd haft hput hB2;exact qa8 hcall hb hdr hsel N q B2 _ X' s2 sx a2 w2 hor hps (hf.next hdr ho hro hl fun j hj=>List.mem_cons_of_mem _ hj) hR hd' hB' (fun a' w' h2=>hKx _ _ (hA _ _ _ h2))
   refine⟨fun e=>absurd hmem (by rw[e];exact List.not_mem_nil),fun k hk=>?_⟩;rcases hall k hk with rfl|rfl;·exact go k l s1 hk hp hfr hlat hr1 (fun a' w' h2=>hK _ _ (.inl h2))
   .exact go k l' s1' hk hp' hfr' hlat' hr2 (fun a' w' h2=>hK _ _ (.inr h2))
theorem qtr{n:Nat}(hcall:∀m,m<n->q4h E m)(hb:q9g E){f:FuncId}{r:Rule}{ops:Array Oper}{K:Act->World->Prop}:∀(N:Nat)(l:List Nat)(listed:Array Bool)(X:Cx)(s s1:St)(a:Act)(w:World),qbb ops N l listed=true->runOps E f r ops n (q0e ops l) s=some s1->Rel E X s a w->(∀o∈ops,∀t,o.dst=some t->t<a.tmps.size)->(∀a' w',After E X w a.tmps.size s1 a' w'->K a' w')->wpAny E.P .any ops (fun e a' w'=>e=.normal/\K a' w') N listed a w
 |0,l,listed,X,s,s1,a,w,hord,hp,h,hd,hK=>by
  simp only[qbb,aT]at hord;have hl:l=[]:=by simp_all
  subst hl;simp only[q0e,q6x,sI]at hp;subst hp;exact⟨by simp_all,rfl,hK _ _ ⟨rfl,X,⟨[],by simp⟩,Ext.refl X w,h⟩⟩|N+1,[],listed,X,s,s1,a,w,hord,hp,h,hd,hK=>by simp[qbb]at hord|N+1,k::l,listed,X,s,s1,a,w,hord,hp,h,hd,hK=>by simp only[qbb,aT,beq_iff_eq]at hord;obtain⟨hr,hord⟩:=hord;obtain⟨_,o,ho,_⟩:=mem_ready.1 (show k∈Region.ready .any ops listed by simp_all);simp only[q0e,ho]at hp;rw[q0q]at hp;cases hs:runOp E f r ops n o s with|none=>simp_all|some s2=>
   simp only[hs]at hp;refine wpAny_all hr (by simp) fun i hi=>?_;have hi:i=k:=by simp_all
   subst hi;refine q7e hcall hb ho h (fun t ht=>hd o (Array.mem_of_getElem? ho) t ht) hs _ _ (fun a' w' haft _=>?_);obtain⟨hsz,X',hm,hE,hR⟩:=haft;exact qtr hcall hb N l _ X' s2 s1 a' w' hord hp hR (fun o' ho' t ht=>by grind) (fun a2 w2 h2=>hK _ _ (by rw[hsz]at h2;exact After.trans h.gdom hm hE h2))
theorem qo5{n:Nat}(hcall:∀m,m<n->q4h E m)(hb:q9g E){f:FuncId}{r:Rule}{ops:Array Oper}{K:Act->World->Prop}:∀(N:Nat)(l l':List Nat)(listed:Array Bool)(X:Cx)(s s1 s1':St)(a:Act)(w:World),qeg ops N l l' listed=true->runOps E f r ops n (q0e ops l) s=some s1->runOps E f r ops n (q0e ops l') s=some s1'->Rel E X s a w->(∀o∈ops,∀t,o.dst=some t->t<a.tmps.size)->(∀a' w',After E X w a.tmps.size s1 a' w'\/After E X w a.tmps.size s1' a' w'->K a' w')->wpAny E.P .any ops (fun e a' w'=>e=.normal/\K a' w') N listed a w
 |0,l,l',listed,X,s,s1,s1',a,w,hord,hp,hp',h,hd,hK=>by simp[qeg]at hord|N+1,[],l',listed,X,s,s1,s1',a,w,hord,hp,hp',h,hd,hK=>by simp[qeg]at hord|N+1,i::l,[],listed,X,s,s1,s1',a,w,hord,hp,hp',h,hd,hK=>by simp[qeg]at hord|N+1,i::l,j::l',listed,X,s,s1,s1',a,w,hord,hp,hp',h,hd,hK=>by
  unfold qeg at hord;by_cases e:i=j;·subst e;rw[if_pos rfl]at hord;simp only[aT,beq_iff_eq]at hord;obtain⟨hr,hord⟩:=hord;obtain⟨_,o,ho,_⟩:=mem_ready.1 (show i∈Region.ready .any ops listed by simp_all);simp only[q0e,ho]at hp hp';rw[q0q]at hp hp';cases hs:runOp E f r ops n o s with|none=>simp_all|some s2=>
    simp only[hs]at hp hp';refine wpAny_all hr (by simp) fun k hk=>?_;have hk:k=i:=by simp_all
    subst hk;refine q7e hcall hb ho h (fun t ht=>hd o (Array.mem_of_getElem? ho) t ht) hs _ _ (fun a' w' haft _=>?_);obtain⟨hsz,X',hm,hE,hR⟩:=haft;refine qo5 hcall hb N l l' _ X' s2 s1 s1' a' w' hord hp hp' hR (fun o' ho' t ht=>by grind) (fun a2 w2 h2=>hK _ _ ?_);rw[hsz]at h2;exact h2.imp (fun g=>After.trans h.gdom hm hE g) (fun g=>After.trans h.gdom hm hE g)
  .rw[if_neg e]at hord;simp only[aT,beq_iff_eq]at hord;obtain⟨hr,ho1,ho2⟩:=hord;have step:∀(k:Nat)(q:List Nat)(sx:St),k∈Region.ready .any ops listed->qbb ops N q (listed.setIfInBounds k true)=true->runOps E f r ops n (q0e ops (k::q)) s=some sx->(∀a' w',After E X w a.tmps.size sx a' w'->K a' w')->wpOp E.P ops (fun e a' w'=>e=.normal/\K a' w') k (wpAny E.P .any ops (fun e a' w'=>e=.normal/\K a' w') N (listed.setIfInBounds k true)) a w:=fun k q sx hk ho1 hpx hKx=>by obtain⟨_,o,ho,_⟩:=mem_ready.1 hk;simp only[q0e,ho]at hpx;rw[q0q]at hpx;cases hs:runOp E f r ops n o s with|none=>simp[hs]at hpx|some s2=>simp only[hs]at hpx;refine q7e hcall hb ho h (fun t ht=>hd o (Array.mem_of_getElem? ho) t ht) hs _ _ (fun a' w' haft _=>?_);obtain⟨hsz,X',hm,hE,hR⟩:=haft;exact qtr hcall hb N q _ X' s2 sx a' w' ho1 hpx hR (fun o' ho' t ht=>by rw[hsz];exact hd o' ho' t ht) (fun a2 w2 h2=>hKx _ _ (by rw[hsz]at h2;exact After.trans h.gdom hm hE h2))
   refine wpAny_all hr (by simp) fun k hk=>?_;grind
theorem qzl(hm:E.P.follows .mixedOrders=true)(hb:q9g E):qy5 E (q8q E.an):=by
 constructor
 .intro n hcall f id ops s s1 hck hfb hp X a w h hd K hK;simp only[q8q,aT]at hck;obtain⟨hsel,hord⟩:=hck;have hfr:∀l,FreshL E f ops s l:=fun l j _ o ho t ht=>by
   simp only[q9d,List.all_eq_true]at hfb;have:=hfb o (by simpa using Array.mem_of_getElem? ho);rw[ht]at this;simp only at this;split at this;·assumption
   .cases this
  have fin:∀{s2 a' w'},clr E f id s2=s1->After E X w.drew a.tmps.size s2 a' w'->K a' w':=fun{s2 a' w'}hs haft=>by subst hs;exact hK a' w' ((After.trans h.gdom ⟨[],by simp⟩ (Ext.drew X w) haft).clear _)
  split at hord;·rename_i l hl;rw[hl]at hp;simp only[List.map_cons,List.map_nil,agree,Option.map_eq_some_iff]at hp;obtain⟨s2,hp,hs⟩:=hp;refine wp_region_any hm (qid _ (fun _ _ _=>False) _ _ _ ?_);exact qa8 (K:=K) hcall hb (r:=q3k E.an f id ops) rfl hsel ops.size l (fun _ _ _=>False) (Array.replicate ops.size false) X s s2 a w.drew hord hp (hfr l) h.drew hd (fun _ _ _ e=>e.elim) (fun a' w' haft=>fin hs haft)
  .rename_i l l' hl;have hall:=qiu hp;rw[hl]at hall;obtain⟨s2,hp2,hs2⟩:=Option.map_eq_some_iff.1 (hall _ (List.mem_map.2 ⟨l,by simp,rfl⟩));obtain⟨s3,hp3,hs3⟩:=Option.map_eq_some_iff.1 (hall _ (List.mem_map.2 ⟨l',by simp,rfl⟩));split at hord;·refine wp_region_any hm ?_;exact qo5 (K:=K) hcall hb (r:=q3k E.an f id ops) ops.size l l' (Array.replicate ops.size false) X s s2 s3 a w.drew hord hp2 hp3 h.drew hd (fun a' w' haft=>haft.elim (fin hs2) (fin hs3))
   .refine wp_region_any hm (qid _ (fun _ _ _=>False) _ _ _ ?_);exact qpx (K:=K) hcall hb (r:=q3k E.an f id ops) rfl hsel ops.size l l' (fun _ _ _=>False) (Array.replicate ops.size false) X s s2 s3 a w.drew hord hp2 hp3 (hfr l) (hfr l') h.drew hd (fun _ _ _ e=>e.elim) (fun a' w' haft=>haft.elim (fin hs2) (fin hs3))
  .cases hord
 .intro n hcall f id ops l l' s s1 s2 hck hl hm0 hp hp' X a w h hd K hK;simp only[q8q,aT,hl,if_pos hm0]at hck;refine wp_region_any hm ?_;exact qo5 (K:=K) hcall hb (r:=rule0) ops.size l l' (Array.replicate ops.size false) X s s1 s2 a w.drew hck.2 hp hp' h.drew hd (fun a' w' haft=>hK a' w' (haft.imp (fun g=>After.trans h.gdom ⟨[],by simp⟩ (Ext.drew X w) g) (fun g=>After.trans h.gdom ⟨[],by simp⟩ (Ext.drew X w) g)))
theorem sound(hm:E.P.follows .mixedOrders=true)(hb:qrq E (q8q E.an))(hsk:qrt E)(n:Nat):q8s E n:=(y4f hb (qzl hm fun h hk=>let⟨fn,c,g1,g2,g3,_⟩:=hb h hk;⟨fn,c,g1,g2,g3⟩) hsk n).2
end Go.Ab

namespace Go.Ab
variable {E : Env0} {W : World}
def Cx.top:Cx:={mu:=[],G:=fun _=>none,amb:=fun _ _=>True}
def qgn:Nat->Nat->Prop:=fun _ _=>True
theorem Rep.top{d:D}{v:Value}(h:Rep W qgn d v):Rep W Cx.top.imm d v:=h.mono fun _ _ _ hc _=>⟨hc,trivial,fun _ _ e=>by cases e⟩
def y83(E:Env0)(W:World):Prop:=∀g cs,E.glob g=some cs->∀(j:Nat)c,cs[j]?=some c->∃u,W.cell? ⟨g,j,none⟩=some u/\Rep W qgn c u
theorem top_H(hg:y83 E W):HRel E Cx.top [] W:=by
 refine⟨fun t=>trivial,fun t ht=>?_,rfl,fun o cs hcs=>by simp_all,fun b l k e=>(by cases e),fun _ _ _=>trivial,fun b l k e=>(by cases e),fun g cs hgc j c hj=>?_,rfl⟩;·obtain⟨v,hv,hne⟩:=ht;exact absurd hv.symm hne
 .obtain⟨u,h1,h2⟩:=hg g cs hgc j c hj;exact⟨u,h1,⟨trivial,fun _ _ e=>by cases e⟩,h2.top⟩
theorem top{n:Nat}(hc:q8s E n)(hg:y83 E W){f:FuncId}{ds:List D}{args:Array Value}{r:Value}{h':Heap}(hcall:call E n f (ds.map .d) []=some (.d (.v r),h'))(hs:args.size=ds.length)(ha:∀(i:Nat)d,ds[i]?=some d->Rep W qgn d (args.getD i undef)):Calls E.P f args W fun e w'=>e=.returned r/\RowKit.Below W.heap.size W w':=by
 refine(hc f _ [] _ h' hcall Cx.top W args (top_H hg) ⟨by simp_all,fun i v hi=>?_⟩).mono ?_;·rw[List.getElem?_map]at hi;cases hd:ds[i]? with|none=>simp_all|some d=>rw[hd]at hi;simp only[mS,sI]at hi;subst hi;exact⟨rfl,(ha i d hd).top⟩
 .rintro e w'⟨val,rfl,X1,_,hE,_,hr⟩;obtain⟨_,_,_,hr⟩:=hr.plain rfl;have hv:val=r:=q0t (show Rep w' X1.imm (.v r) val from hr);subst hv;exact⟨rfl,hE.os,hE.tape,hE.output,hE.size,fun k hk=>(hE.free k hk rfl).2⟩
def ints(k:IntKind)(zs:List Int):D:=.list (zs.map fun z=>.v (.int k z))
theorem qtb(k:IntKind)(a:Option Addr)(c:Nat):Rep W qgn (ints k []) (.slice a 0 c):=.empty a c
theorem y6e{k:IntKind}{a:Addr}{len cap:Nat}{zs:List Int}(hz:len<=zs.length)(hc:len<=cap)(hcell:∀i,i<zs.length->W.cell? (a.add i)=some (.int k (zs.getD i 0))):Rep W qgn (ints k (zs.take len)) (.slice (some a) len cap):=by
 by_cases h0:len=0;·subst h0;exact .empty _ _
 .have hsp:a.spot=none:=by
   have:=hcell 0 (by omega);simp only[Addr.add,if_true,World.cell?]at this;split at this
   .split at this;·cases this
    .rename_i h;simpa using h
   simp_all
  obtain⟨b,off,sp⟩:=a;simp only at hsp;subst hsp;have hlen:((zs.take len).map fun z=>D.v (.int k z)).length=len:=by simp_all
  have key:=Rep.list (w:=W) (I:=qgn) ((zs.take len).map fun z=>D.v (.int k z)) b off cap 1 (fun i _=>.int k (zs.getD i 0)) (fun x hx=>by obtain⟨z,_,rfl⟩:=List.mem_map.1 hx;rfl) (by omega) (fun i x hx j c hj=>by
    have hi:i<len:=by grind
    rw[List.getElem?_map]at hx;cases hz':(zs.take len)[i]? with|none=>simp_all|some z=>rw[hz']at hx;simp only[mS,sI]at hx;subst hx;cases j with|zero=>refine⟨?_,trivial⟩;have:=hcell i (by omega);rw[WideShapes.add_plain]at this;simp_all|succ j=>simp[D.cells]at hj) (fun i x hx j c hj=>by
    have hi:i<len:=by grind
    have hil:i<zs.length:=by omega
    rw[List.getElem?_map,List.getElem?_take,if_pos hi,List.getElem?_eq_getElem hil]at hx;simp only[mS,sI]at hx;subst hx;cases j with
    |zero=>
     simp only[D.cells,List.getElem?_cons_zero,sI]at hj;subst hj;have:zs.getD i 0=zs[i]:=by simp_all
     show Rep W qgn (.v (.int k zs[i])) (.int k (zs.getD i 0));rw[this];exact .v _ rfl|succ j=>simp[D.cells]at hj);rw[hlen]at key;exact key
end Go.Ab

namespace Go.Ab
variable {s : St} {m n : Nat}
variable {E : Env0}
theorem qsx:∀{l:List (Option St)}{s:St},l≠[]->(∀x∈l,x=some s)->agree l=some s|[],s,hn,_=>absurd rfl hn|[x],s,_,h=>by simp only[agree];simp_all|x::y::r,s,_,h=>by have h1:=h x (by simp);have h2:=qsx (l:=y::r) (s:=s) (by simp) (fun z hz=>h z (by grind));simp only[agree,h1,h2,if_true]
theorem y5g{l:List (Option St)}(h:agree l=some s):l≠[]:=by rintro rfl;simp[agree]at h
theorem qg7(f:FuncId)(k n:Nat)(a b:Code)(s:St)(ht:twoOf E.an f a=none):exec E f k (n+1) (.seq a b) s=match exec E f k n a s with|some (.normal,s1)=>exec E f k n b s1|r=>r:=by simp only[exec,ht];rfl
theorem qz2(f:FuncId)(k n:Nat)(a b:Code)(s:St){id:Nat}{ops:Array Oper}{l1 l2:List Nat}(ht:twoOf E.an f a=some (id,ops,l1,l2)):exec E f k (n+1) (.seq a b) s=match runOps E f rule0 ops n (q0e ops l1) s,runOps E f rule0 ops n (q0e ops l2) s with|some s1,some s2=>joinQ s.heap.length (exec E f k n b {s1 with env:=q59 s1.env (E.an.clear f id)}) (exec E f k n b {s2 with env:=q59 s2.env (E.an.clear f id)})|_,_=>none:=by simp only[exec,ht];rfl
theorem qbn(f:FuncId)(k n:Nat)(x:Operand)(a b:Code)(s:St):exec E f k (n+1) (.cond x a b) s=match ev E s x with|.d (.v (.bool t))=>exec E f k n (if t then a else b) s|_=>none:=rfl
theorem q8l(f:FuncId)(k n id:Nat)(b:Code)(s:St):exec E f k (n+1) (.block id b) s=match exec E f k n b s with|some (.exit id',s1)=>if id'=id then some (.normal,trim s.heap.length s1)else some (.exit id',s1)|some (.normal,s1)=>some (.normal,trim s.heap.length s1)|r=>r:=rfl
theorem qhc(f:FuncId)(k n:Nat)(b:Code)(s:St):exec E f k (n+1) (.loop b) s=match exec E f k n b s with|some (.normal,s1)=>exec E f k n (.loop b) (endRound k s.heap.length s1)|r=>r:=rfl
theorem qdl{step step':Int->Heap->Option (AV×Heap)}(hs:∀x hp q,step x hp=some q->step' x hp=some q):∀{xs:List Int}{hp:Heap}{q:AV×Heap},seekA step xs hp=some q->seekA step' xs hp=some q
 |[],_,_,h=>h|x::r,hp,q,h=>by
  simp only[seekA]at h⊢;split at h;·grind
  .rename_i h1;rw[hs _ _ _ h1];exact qdl hs h
  grind
theorem qa0{step step':Int->Option (AV×Heap)}(hs:∀x q,step x=some q->step' x=some q):∀{xs:List Int},q9j step xs=true->q9j step' xs=true|[],_=>rfl|[x],h=>by simp only[q9j]at h⊢;grind|x::y::r,h=>by simp only[q9j,aT]at h⊢;refine⟨?_,qa0 hs h.2⟩;grind
structure Mono(E:Env0)(n:Nat):Prop where
 exec:∀f k c s r,exec E f k n c s=some r->exec E f k (n+1) c s=some r
 ops:∀f r ops l s s1,runOps E f r ops n l s=some s1->runOps E f r ops (n+1) l s=some s1
 op:∀f r ops o s s1,runOp E f r ops n o s=some s1->runOp E f r ops (n+1) o s=some s1
 callA:∀r h vs dst s s1,callA E r n h vs dst s=some s1->callA E r (n+1) h vs dst s=some s1
 call:∀h vs hp q,call E n h vs hp=some q->call E (n+1) h vs hp=some q
theorem qts{n m:Nat}{f:FuncId}{r:Rule}{ops:Array Oper}(hop:∀o s s1,runOp E f r ops n o s=some s1->runOp E f r ops m o s=some s1):∀(l:List Oper)(s s1:St),runOps E f r ops n l s=some s1->runOps E f r ops m l s=some s1|[],_,_,h=>h|o::l,s,s1,h=>by rw[q0q]at h⊢;cases hr:runOp E f r ops n o s with|none=>grind|some s2=>rw[hop _ _ _ hr];rw[hr]at h;exact qts hop l s2 s1 h
theorem mono:∀n,Mono E n
 |0=>by refine⟨fun f k c s r h=>by simp[exec]at h,fun f r ops l s s1 h=>?_,fun f r ops o s s1 h=>by simp[runOp]at h,fun r h vs dst s s1 hh=>by simp[callA]at hh,fun h vs hp q hh=>by simp[call]at hh⟩;cases l with|nil=>exact h|cons o l=>simp[q0q,runOp]at h
 |n+1=>by
  have ih:=mono n;have hopAll:∀f r ops o s s1,runOp E f r ops (n+1) o s=some s1->runOp E f r ops (n+1+1) o s=some s1:=by intro f r ops o s s1 h;simp only[runOp]at h⊢;cases hg:q17 ops s o with|none=>grind|some b=>cases b with|false=>grind|true=>
     simp only[hg]at h⊢;split at h;·exact h
     .rename_i g args ts ho;by_cases hs:q4y s args.toList=true
      .rw[if_pos hs]at h⊢;by_cases hd:r.draws=true;·simp_all
       .rw[if_neg hd]at h⊢;split at h;·rename_i hf caps vs s1' l hev hsh;cases hc:callA E (q5o E.an f r o) n hf (vs++caps.map fun(o,a)=>.ptr o a) o.dst s1' with|none=>rw[hc]at h;cases h|some s2=>rw[hc]at h;rw[ih.callA _ _ _ _ _ _ hc];exact h
        omega
      .rw[if_neg hs]at h⊢;split at h;·exact ih.callA _ _ _ _ _ _ h
       omega
     omega
  refine⟨fun f k c s r h=>?_,fun f r ops l s s1 h=>qts (hopAll f r ops) l s s1 h,hopAll,fun r h vs dst s s1 hh=>?_,fun h vs hp q hh=>?_⟩;·cases c with
   |region id ops draw=>rw[q4n]at h⊢;cases draw with
    |true=>
     simp only[if_true]at h⊢;have hfr:q9d E.an f ops s=true:=by grind
     simp only[hfr,Bool.true_eq_false,if_false]at h⊢;cases hr:agree ((E.an.order f id).map fun l=>(runOps E f (q3k E.an f id ops) ops n (q0e ops l) s).map (clr E f id))with|none=>grind|some s1=>have hs:=qiu hr;have h2:agree ((E.an.order f id).map fun l=>(runOps E f (q3k E.an f id ops) ops (n+1) (q0e ops l) s).map (clr E f id))=some s1:=qsx (by have:=y5g hr;simpa using this) (fun x hx=>by obtain⟨l,hl,rfl⟩:=List.mem_map.1 hx;obtain⟨s0,g1,g2⟩:=Option.map_eq_some_iff.1 (hs _ (List.mem_map.2 ⟨l,hl,rfl⟩));rw[ih.ops _ _ _ _ _ _ g1,mS,g2]);grind
    |false=>simp only[fT,if_false]at h⊢;cases hr:runOps E f {draws:=false,mode:=E.an.mode f id} ops n (q5i E f ops s).1 (q5i E f ops s).2 with|none=>grind|some s1=>rw[ih.ops _ _ _ _ _ _ hr];grind
   |seq a b=>cases ht:twoOf E.an f a with
    |some q=>
     obtain⟨id,ops,l1,l2⟩:=q;rw[qz2 f k _ a b s ht]at h⊢;split at h;·rename_i t1 t2 h1 h2;rw[ih.ops _ _ _ _ _ _ h1,ih.ops _ _ _ _ _ _ h2];obtain⟨e,s1⟩:=r;obtain⟨q1,q2,e1,e2,_,_⟩:=qpz h;simp only;rw[e1,e2]at h;rw[ih.exec _ _ _ _ _ e1,ih.exec _ _ _ _ _ e2];exact h
     grind|none=>rw[qg7 f k _ a b s ht]at h⊢;cases hr:exec E f k n a s with|none=>grind|some q=>obtain⟨e,s1⟩:=q;rw[ih.exec _ _ _ _ _ hr];rw[hr]at h;cases e with|normal=>exact ih.exec _ _ _ _ _ h|exit id=>exact h|ret=>exact h
   |cond x a b=>rw[qbn]at h⊢;generalize ev E s x=c at h⊢;cases c with
    |d y=>cases y with
     |v u=>cases u with|bool t=>exact ih.exec _ _ _ _ _ h|_=>exact h
     |_=>exact h
    |_=>exact h
   |block id b=>rw[q8l]at h⊢;cases hr:exec E f k n b s with|none=>grind|some q=>rw[ih.exec _ _ _ _ _ hr];grind
   |loop b=>rw[qhc]at h⊢;cases hr:exec E f k n b s with|none=>grind|some q=>obtain⟨e,s1⟩:=q;rw[ih.exec _ _ _ _ _ hr];rw[hr]at h;cases e with|normal=>exact ih.exec _ _ _ _ _ h|exit id=>exact h|ret=>exact h
   |_=>exact h
  .obtain⟨objs,hs,v,h',h1,h2,h3,h4,h5,rfl⟩:=q5g hh;simp only[Ab.callA,h1];have h6:(!r.draws||objs.all (fun o=>!above r.mode o))=true:=by grind
   have h7:(r.draws&&decide (objs.length<h'.length))=false:=by grind
   obtain⟨q,hq1,hq2⟩:=Option.map_eq_some_iff.1 h4;simp only[h6,if_true,h3,ih.call _ _ _ _ hq1,mS,hq2,h7,fT,if_false]
  .simp only[Ab.call]at hh⊢;split at hh;·rename_i hok;simp only[hok,if_true];cases hlb:E.lib h with
    |some m=>simp only[hlb]at hh⊢;cases hpr:E.pre h with|none=>simp only[hpr]at hh⊢;exact hh|some gk=>
      simp only[hpr]at hh⊢;split at hh;·rename_i v1 hg;have e:=ih.call _ _ _ _ hg;simp only[Ab.call]at e;rw[e];exact hh
      .cases hh
    |none=>simp only[hlb]at hh⊢;cases hsk:E.seek h with
    |some xs=>
     simp only[hsk]at hh⊢;split at hh
     .split at hh;·rename_i ht;rw[aT]at ht;rw[if_pos (by rw[aT];exact⟨ht.1,qa0 (fun x q hq=>ih.call _ _ _ _ hq) ht.2⟩)];exact qdl (fun x hp q hq=>ih.call _ _ _ _ hq) hh
      .cases hh
     .cases hh|none=>simp only[hsk]at hh⊢;cases hf:E.P.funcs[h]? with|none=>simp[hf]at hh|some fn=>cases hb:fn.body with|none=>simp[hf,hb]at hh|some c=>
      simp only[hf,hb]at hh⊢;split at hh;·rename_i hle;simp only[hle,if_true];cases hr:exec E h hp.length n (qe0 E.P fn c) {env:=q2o 0 vs,heap:=hp}with|none=>simp[hr]at hh|some q=>rw[ih.exec _ _ _ _ _ hr];rw[hr]at hh;exact hh
      .cases hh
   grind
theorem qcd{h:FuncId}{vs:List AV}{hp:Heap}{q:AV×Heap}(hc:call E n h vs hp=some q)(hle:n<=m):call E m h vs hp=some q:=by induction hle with|refl=>omega|step _ ih=>exact(mono _).call _ _ _ _ ih
theorem qae{k:Nat}{f:FuncId}{c:Code}{q:Ex×St}(hc:exec E f k n c s=some q)(hle:n<=m):exec E f k m c s=some q:=by induction hle with|refl=>omega|step _ ih=>exact(mono _).exec _ _ _ _ _ ih
end Go.Ab
