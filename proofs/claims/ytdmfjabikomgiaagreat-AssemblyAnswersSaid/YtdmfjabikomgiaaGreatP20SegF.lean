/- Laws of the printed functions. -/
import Derived.Test.YtdmfjabikomgiaaGreatP20SegD
import Derived.OrdersHeld
import Derived.Deep.RegionHeld
import Derived.WalkKit
import Derived.Lib.SmallJoins
import Derived.Deep.RegionHeld3
import Derived.Deep.RegionLaw
import Derived.Deep.DrawnRows
import Derived.Deep.AppendLies
import Derived.OwnWalk
import Derived.Laws.OwnMore
import Derived.Test.YtdmfjabikomgiaaGreatP20SegA
import Derived.Test.YtdmfjabikomgiaaGreatP20SegE
import Derived.Test.YtdmfjabikomgiaaGreatP20Fchk
namespace Go.Proofs.YtdmfjabikomgiaaGreat
open Go Go.Ab Go.RowKit
variable {l : List D} {b : Nat}
theorem y0w{g f:Nat}(h:ybi env f g qar):PreOk env f (qbe g):=by
 intro C hC vs hp v hp' hk X w args hH hA;simp only[qbe]at hk;split at hk;·rename_i v1 hg;exact h vs hp v1 v hp' hk X w args hH hA fun w' h1 h2=>hC g vs hp v1 [] hg X w' args h1 h2
 simp_all
structure St(X1:Cx)(w1:World)(S:Nat->Prop)(X:Cx)(w:World):Prop where
 mu:∃more,X.mu=X1.mu++more
 ext:Ext X1 w1 {X with amb:=X1.amb} w
 rel:HRel env X [] w
 own:∀b,S b->w1.heap.size<=b/\b<w.heap.size/\X.G b=none/\∀o,¬X.amb b o
 amb:∀b o,X.amb b o->X1.amb b o
 old:∀b o,b<w1.heap.size->X1.amb b o->X.amb b o
 dom:∀b l k,X1.G b=some (l,k)->b<w1.heap.size
variable {X1 X : Cx} {w1 w w' : World} {S : Nat -> Prop}
theorem St.start(h:HRel env X1 [] w1):St X1 w1 (fun _=>False) X1 w1:=⟨⟨[],by simp⟩,Ext.refl X1 w1,h,fun _ h=>h.elim,fun _ _ h=>h,fun _ _ _ h=>h,h.gdom⟩
theorem St.frame(h:St X1 w1 S X w)(h1:w'.os=w.os)(h2:w'.tape=w.tape)(h3:w'.output=w.output)(hsz:w.heap.size<=w'.heap.size)(hb:∀b,b<w.heap.size->¬S b->w'.heap[b]?=w.heap[b]?):∃X',St X1 w1 (fun b=>S b\/w.heap.size<=b/\b<w'.heap.size) X' w'/\∀d v,Rep w X.imm d v->Rep w' X'.imm d v:=by
 have hs1:=h.ext.size;have hlow:∀b,b<w1.heap.size->w'.heap[b]?=w.heap[b]?:=fun b hlt=>hb b (Nat.lt_of_lt_of_le hlt hs1) fun hs=>by have:=(h.own b hs).1;omega
 have hG:∀b,w.heap.size<=b->X.G b=none:=fun b hge=>by cases hx:X.G b with|none=>rfl|some lk=>have:=h.rel.gdom _ _ _ (show X.G b=some (lk.1,lk.2)from hx);omega
 refine⟨{X with amb:=fun b o=>X.amb b o/\¬(w.heap.size<=b/\b<w'.heap.size)},⟨h.mu,⟨rfl,Nat.le_trans hs1 hsz,h1.trans h.ext.os,h2.trans h.ext.tape,h3.trans h.ext.output,fun b hlt hn=>?_,fun b l k hk=>?_⟩,?_,fun b hs=>?_,fun b o hx=>h.amb b o hx.1,fun b o hlt hx=>⟨h.old b o hlt hx,by omega⟩,h.dom⟩,fun d v hr=>hr.mono fun b o u hc hi=>?_⟩;·obtain⟨g1,g2⟩:=h.ext.free b hlt hn;simp_all
 .obtain⟨g1,g2⟩:=h.ext.own b l k hk;exact⟨g1,fun o ho=>(cell?_of_heap (hlow b (h.dom b l k hk)) o).trans (g2 o ho)⟩
 .have hr:=h.rel;refine⟨fun t=>trivial,hr.bound,hr.mu,fun o cs hcs=>by simp_all,fun b l k hk=>Nat.lt_of_lt_of_le (hr.gdom b l k hk) hsz,fun b o hge=>⟨hr.amb b o (Nat.le_trans hsz hge),by omega⟩,fun b l k hk o=>⟨hr.oamb b l k hk o,by grind⟩,(fun g cs hg=>by cases hg),hr.defers⟩
 .rcases hs with hs|hs;·obtain⟨g1,g2,g3,g4⟩:=h.own b hs;exact⟨g1,Nat.lt_of_lt_of_le g2 hsz,g3,fun o hx=>g4 o hx.1⟩
  grind
 .have hlt:b<w.heap.size:=World.block_lt_of_cell? w ⟨b,o,none⟩ hc;exact⟨(cell?_of_heap (hb b hlt fun hs=>(h.own b hs).2.2.2 o hi.1) o).trans hc,⟨hi.1,by omega⟩,hi.2⟩
theorem St.src(h:St X1 w1 S X w){d:D}{v:Value}(hr:Rep w1 X1.imm d v):Rep w X.imm d v:=hr.mono fun b o u hc hi=>by obtain⟨g1,g2⟩:=h.ext.point hc hi;exact⟨g1,h.old b o (World.block_lt_of_cell? w1 ⟨b,o,none⟩ hc) hi.1,g2.2⟩
theorem St.call{m:List AV->Heap->Option (AV×Heap)}(hC:LibOk env 96 m){t:T3}(hl:m [.d (.agg l)] []=some (.d (.agg l),[]))(h:St X1 w1 S X w)(ht:RepT w X.imm l t):Calls Tryz.prog 96 #[.agg #[.int .i64 t.1,.slice t.2.1.1 t.2.1.2.1 t.2.1.2.2,.slice t.2.2.1 t.2.2.2.1 t.2.2.2.2]] w fun e w'=>∃t':T3,e=.returned (.agg #[.int .i64 t'.1,.slice t'.2.1.1 t'.2.1.2.1 t'.2.1.2.2,.slice t'.2.2.1 t'.2.2.2.1 t'.2.2.2.2])/\w.heap.size<=w'.heap.size/\(∀b,S b->w'.heap[b]?=w.heap[b]?)/\∃X',St X1 w1 S X' w'/\RepT w' X'.imm l t'/\∀d v,Rep w X.imm d v->Rep w' X'.imm d v:=by
 obtain⟨y,z,rfl,r1,r2⟩:=ht;refine Calls.mono (hC _ _ _ _ hl X w _ h.rel ⟨rfl,fun i u hu=>?_⟩) ?_
 .rcases(by have:=(List.getElem?_eq_some_iff.1 hu).1;simp at this;omega:i=0)with rfl;cases hu;refine⟨rfl,.agg _ _ rfl fun j c hj=>?_⟩;rcases(by have:=(List.getElem?_eq_some_iff.1 hj).1;simp at this;omega:j=0\/j=1\/j=2)with rfl|rfl|rfl<;>cases hj;·exact .v _ rfl
  .exact r1
  simp_all
 .rintro e w'⟨val,rfl,X',⟨more,hmu⟩,hE,hH,hres⟩;obtain⟨_,_,_,hrep⟩:=hres.plain rfl;obtain⟨va,e0,hva,hvr⟩:=q5y (show Rep w' X'.imm (.agg [.v (.int .i64 t.1),.list y,.list z]) val from hrep);obtain⟨s1,e1,_⟩:=q13 (hvr 1 _ rfl);obtain⟨s2,e2,_⟩:=q13 (hvr 2 _ rfl);have q1:=hvr 1 _ rfl;have q2:=hvr 2 _ rfl;rw[e1]at q1;rw[e2]at q2;refine⟨(t.1,s1,s2),by rw[e0,arr3 hva,q0y (hvr 0 _ rfl),e1,e2],hE.size,fun b hs=>(hE.free b (h.own b hs).2.1 (h.own b hs).2.2.1).2,X',⟨?_,?_,hH,fun b hs=>?_,fun b o hx=>h.amb b o (by rw[<-hE.amb];omega),fun b o hlt hx=>by rw[hE.amb];exact h.old b o hlt hx,h.dom⟩,⟨y,z,rfl,q1,q2⟩,fun d v hr=>hE.rep hr⟩;·obtain⟨m0,h0⟩:=h.mu;simp_all
  .exact Ext.trans h.dom h.ext ⟨rfl,hE.size,hE.os,hE.tape,hE.output,hE.free,hE.own⟩
  .obtain⟨g1,g2,g3,g4⟩:=h.own b hs;exact⟨g1,Nat.lt_of_lt_of_le g2 hE.size,(hE.free b g2 g3).1,by rw[hE.amb];omega⟩
def Jw(X1:Cx)(w1:World)(S:Nat->Prop)(w:World)(es:List (List (List D)))(ds:List (List T3)):Prop:=∃X,St X1 w1 S X w/\All2 (All2 (RepT w X.imm)) es ds
variable {es : List (List (List D))} {ds : List (List T3)}
theorem RepT.up{I I':Nat->Nat->Prop}(h:∀d v,Rep w I d v->Rep w' I' d v){t:T3}(hr:RepT w I l t):RepT w' I' l t:=by obtain⟨y,z,rfl,r1,r2⟩:=hr;exact⟨y,z,rfl,h _ _ r1,h _ _ r2⟩
theorem Jw.frame(h:Jw X1 w1 S w es ds)(h1:w'.os=w.os)(h2:w'.tape=w.tape)(h3:w'.output=w.output)(hsz:w.heap.size<=w'.heap.size)(hb:∀b,b<w.heap.size->¬S b->w'.heap[b]?=w.heap[b]?):Jw X1 w1 (fun b=>S b\/w.heap.size<=b/\b<w'.heap.size) w' es ds:=by obtain⟨X,h,hr⟩:=h;obtain⟨X',g,hg⟩:=h.frame h1 h2 h3 hsz hb;exact⟨X',g,hr.imp fun _ _ h=>h.imp fun _ _ h=>h.up hg⟩
theorem Jw.sub{S':Nat->Prop}(h:Jw X1 w1 S w es ds)(hs:∀b,S' b->S b):Jw X1 w1 S' w es ds:=by obtain⟨X,h,hr⟩:=h;exact⟨X,⟨h.mu,h.ext,h.rel,fun b hb=>h.own b (hs b hb),h.amb,h.old,h.dom⟩,hr⟩
theorem Jw.grown(h:Jw X1 w1 S w es ds)(hg:w.grownBy w' none):Jw X1 w1 (fun b=>S b\/w.heap.size<=b/\b<w'.heap.size) w' es ds:=h.frame hg.os hg.tape hg.output hg.size fun b hb _=>hg.block b hb (by simp)
theorem Jw.call{m:List AV->Heap->Option (AV×Heap)}(hC:LibOk env 96 m){t:T3}(hl:m [.d (.agg l)] []=some (.d (.agg l),[]))(h:Jw X1 w1 S w es ds)(ht:RepT w1 X1.imm l t):Calls Tryz.prog 96 #[.agg #[.int .i64 t.1,.slice t.2.1.1 t.2.1.2.1 t.2.1.2.2,.slice t.2.2.1 t.2.2.2.1 t.2.2.2.2]] w fun e w'=>∃t':T3,e=.returned (.agg #[.int .i64 t'.1,.slice t'.2.1.1 t'.2.1.2.1 t'.2.1.2.2,.slice t'.2.2.1 t'.2.2.2.1 t'.2.2.2.2])/\w.heap.size<=w'.heap.size/\(∀b,S b->w'.heap[b]?=w.heap[b]?)/\Jw X1 w1 S w' ([l]::es) ([t']::ds):=by obtain⟨X,h,hr⟩:=h;refine Calls.mono (h.call hC hl (ht.up fun _ _ hr=>h.src hr)) ?_;rintro e w'⟨t',he,h1,h2,X',g,g1,g2⟩;exact⟨t',he,h1,h2,X',g,.cons (.cons g1 .nil) (hr.imp fun _ _ h=>h.imp fun _ _ h=>h.up g2)⟩
theorem Jw.push{t:T3}(h:Jw X1 w1 S w ([l]::es) ([t]::ds))(k:Nat):Jw X1 w1 S w (es.modify k (·++[l])) (ds.modify k (·++[t])):=by obtain⟨X,h,hr⟩:=h;cases hr with|cons h1 h2=>cases h1 with|cons h3 _=>exact⟨X,h,h2.mod (fun _ _ h=>h.app h3) k⟩
theorem Jw.point(h:Jw X1 w1 S w es ds){o:Nat}{u:Value}(hc:w1.cell? ⟨b,o,none⟩=some u)(hi:X1.imm b o):w.cell? ⟨b,o,none⟩=some u:=by obtain⟨X,h,_⟩:=h;exact(h.ext.point hc hi).1
theorem RowsC.keep{cur:Array Value}(h:RowsC b w ds cur)(hk:∀c,(c=b\/∃j,(cur.getD j undef).ownBlock=some c)->w'.heap[c]?=w.heap[c]?):RowsC b w' ds cur:=by
 refine⟨(hk b (.inl rfl)).trans h.blk,h.size,fun j d hj=>?_,h.sep⟩;obtain⟨g1,g2⟩:=h.row j d hj;refine⟨g1,?_⟩;rcases g2 with g2|⟨g,cap,c,e,hb,hg,rest⟩;·simp_all
 .exact .inr ⟨g,cap,c,e,hb,(hk g (.inr ⟨j,by rw[e];rfl⟩)).trans hg,rest⟩
end Go.Proofs.YtdmfjabikomgiaaGreat
namespace Go.Proofs.YtdmfjabikomgiaaGreat
open Go
variable {fuel i : Nat} {o oi : Oper} {listed : Array Bool} {a : Act} {w : World}
section
variable {P : Program} {ops : Array Oper} {Q : Exit -> Act -> World -> Prop} {md : Region.Mode} {S : World -> Prop} {late : Nat -> Bool}
def q75(P:Program)(md:Region.Mode)(ops:Array Oper)(Q:Exit->Act->World->Prop)(S:World->Prop)(late:Nat->Bool):Nat->Array Bool->Act->World->Prop|0,listed,a,w=>Region.ready md ops listed=[]/\Q .normal a w|fuel+1,listed,a,w=>(Region.ready md ops listed=[]->Q .normal a w)/\∀i∈Region.ready md ops listed,wpOp P ops Q i (fun a' w'=>(late i=false->S w')/\q75 P md ops Q S late fuel (listed.setIfInBounds i true) a' w') a w
theorem qfk:∀(fuel:Nat)(listed:Array Bool)(a:Act)(w:World),q75 P md ops Q S late fuel listed a w->wpAny P md ops Q fuel listed a w|0,_,_,_,h=>h|fuel+1,_,_,_,h=>⟨h.1,fun i hi=>wpOp_mono (fun a' w' h'=>qfk fuel _ a' w' h'.2) (h.2 i hi)⟩
theorem qsi{v:Value}(hi:ops[i]?=some oi)(hsel:∀(j:Nat)(o:Oper)cs b,ops[j]?=some o->o.op≠.select cs b)(hQ:∀c a w,Q (.panic c) (a.put oi.dst v) w->Q (.panic c) a w)(hlate:∀j oj,ops[j]?=some oj->late j=true->∃e∈oj.after,Region.binds md e=true/\e.on=i):∀(fuel:Nat)(listed:Array Bool)(a:Act)(w:World),(∀j oj,ops[j]?=some oj->j≠i->listed.getD j true=false->(∀e∈oj.after,Region.binds md e=true->e.on≠i)->oi.apart ops oj=true)->i∈Region.ready md ops listed->YieldsIf P ops S oi v a->S w->q75 P md ops Q S late fuel (listed.setIfInBounds i true) (a.put oi.dst v) w->q75 P md ops Q S late (fuel+1) listed a w:=by
 intro fuel;induction fuel with|zero=>
  intro listed a w _ hr hy hS H;refine⟨fun h=>(by simp_all),fun j hj=>?_⟩;by_cases hji:j=i;·subst hji;exact hy.wpOp hi hS ⟨fun _=>hS,H⟩
  .have:=ready_mono hj hji;rw[H.1]at this;grind|succ fuel ih=>
  intro listed a w hfree hr hy hS H;refine⟨fun h=>(by simp_all),fun j hj=>?_⟩;by_cases hji:j=i;·subst hji;exact hy.wpOp hi hS ⟨fun _=>hS,H⟩
  .have h1:=H.2 j (ready_mono hj hji);obtain⟨hjun,oj,hoj,hall⟩:=mem_ready.1 hj;have hnot:∀e∈oj.after,Region.binds md e=true->e.on≠i:=fun e he hb heq=>by
    have h1:=hall e he hb;have h0:=(mem_ready.1 hr).1;rw[heq]at h1;rcases Nat.lt_or_ge i listed.size with h'|h';·simp[h']at h0 h1;rw[h0]at h1;cases h1
    .simp[Array.getElem?_eq_none h']at h1
   have hlj:late j=false:=by cases hx:late j with|false=>rfl|true=>obtain⟨e,he,hb,heq⟩:=hlate j oj hoj hx;exact absurd heq (hnot e he hb)
   have h2:=wpOp_putIf hoj (hfree j oj hoj hji hjun hnot) (fun cs b=>hsel i oi cs b hi) (fun cs b=>hsel j oj cs b hoj) hQ hy h1;have hfree':∀k ok,ops[k]?=some ok->k≠i->(listed.setIfInBounds j true).getD k true=false->(∀e∈ok.after,Region.binds md e=true->e.on≠i)->oi.apart ops ok=true:=fun k ok hk hki hun hno=>by
    refine hfree k ok hk hki ?_ hno;by_cases hjk:j=k;·subst hjk;exact hjun
    .rw[getD_set_ne true hjk]at hun;exact hun
   refine wpOp_mono (fun a' w' h3=>⟨h3.2.1,ih (listed.setIfInBounds j true) a' w' hfree' (ready_mono hr (Ne.symm hji)) h3.1 (h3.2.1 hlj) ?_⟩) h2;rw[Array.setIfInBounds_comm _ _ hji];grind
def yit(md:Region.Mode)(ops:Array Oper)(late:Nat->Bool)(i:Nat):Bool:=(List.range ops.size).all fun j=>!late j||(match ops[j]? with|some o=>o.after.any fun e=>Region.binds md e&&e.on==i|none=>true)
theorem q15(i:Nat)(v:Value)(hi:ops[i]?=some oi)(hc:(Region.noSelect ops&&Region.free md ops listed i&&((Region.ready md ops listed).contains i&&yit md ops late i))=true)(hQ:∀c a w,Q (.panic c) (a.put oi.dst v) w->Q (.panic c) a w)(hw:Region.wanted oi (yielded ops a.tmps)=true)(hy:∀w,S w->(execOp a.eval oi).run P w=.ok (.value v) w)(hS:S w)(h:q75 P md ops Q S late fuel (listed.setIfInBounds i true) (a.put oi.dst v) w):q75 P md ops Q S late (fuel+1) listed a w:=by simp only[Bool.and_eq_true]at hc;obtain⟨⟨hs,hf⟩,hr,hl⟩:=hc;exact qsi hi (Region.noSelect_spec hs) hQ (fun j oj hj hx=>by have:=List.all_eq_true.1 hl j (List.mem_range.2 (Array.getElem?_eq_some_iff.1 hj).1);grind) fuel listed a w (Region.free_spec hi hf) (by simp_all) (.inl ⟨hw,hy⟩) hS h
theorem qm3{rs:List Nat}(hr:Region.ready md ops listed=rs)(hne:rs≠[])(h:∀i∈rs,wpOp P ops Q i (fun a' w'=>(late i=false->S w')/\q75 P md ops Q S late fuel (listed.setIfInBounds i true) a' w') a w):q75 P md ops Q S late (fuel+1) listed a w:=⟨fun h0=>absurd (hr▸h0) hne,hr▸h⟩
theorem qcw(hr:Region.ready md ops listed=[])(h:Q .normal a w):∀fuel,q75 P md ops Q S late fuel listed a w|0=>⟨hr,h⟩|_+1=>⟨fun _=>h,by simp_all⟩
theorem qcb{id:Nat}(hm:P.follows .mixedOrders=true)(h:q75 P .any ops Q S late ops.size (Array.replicate ops.size false) a w.drew):(Code.region id ops true).wp P Q a w:=wp_region_any hm (qfk _ _ _ _ h)
theorem q2d(hr:Region.ready md ops listed=[i])(ho:ops[i]?=some o)(h:∀K':Act->World->Prop,Shut (∀a w,(late i=false->S w)->q75 P md ops Q S late fuel (listed.setIfInBounds i true) a w->K' a w)->if Region.wanted o (yielded ops a.tmps)=true then Oper.wp P o a w K' Q else K' (a.put o.dst undef) w):q75 P md ops Q S late (fuel+1) listed a w:=qm3 hr (by simp) fun j hj=>by
  obtain rfl:j=i:=by simp_all
  exact wpOp_step ho (fun K' hK=>h K' (fun a w hS hW=>hK a w ⟨hS,hW⟩))
theorem y02{i':Nat}{o':Oper}(hr:Region.ready md ops listed=[i,i'])(ho:ops[i]?=some o)(ho':ops[i']?=some o')(h:∀K':Act->World->Prop,Shut (∀a w,(late i=false->S w)->q75 P md ops Q S late fuel (listed.setIfInBounds i true) a w->K' a w)->if Region.wanted o (yielded ops a.tmps)=true then Oper.wp P o a w K' Q else K' (a.put o.dst undef) w)(h':∀K':Act->World->Prop,Shut (∀a w,(late i'=false->S w)->q75 P md ops Q S late fuel (listed.setIfInBounds i' true) a w->K' a w)->if Region.wanted o' (yielded ops a.tmps)=true then Oper.wp P o' a w K' Q else K' (a.put o'.dst undef) w):q75 P md ops Q S late (fuel+1) listed a w:=qm3 hr (by simp) fun j hj=>by
  rcases List.mem_cons.1 hj with rfl|hj;·exact wpOp_step ho (fun K' hK=>h K' (fun a w hS hW=>hK a w ⟨hS,hW⟩))
  .obtain rfl:j=i':=by simp_all
   exact wpOp_step ho' (fun K' hK=>h' K' (fun a w hS hW=>hK a w ⟨hS,hW⟩))
end
end Go.Proofs.YtdmfjabikomgiaaGreat
namespace Go.Proofs.YtdmfjabikomgiaaGreat
open Go Go.Ab Go.RowKit
variable {X1 : Cx} {w1 w2 wa : World} {es : List (List (List D))} {cur : Array Value} {c cap g : Nat} {v : Value} {l : List D}
attribute [local go_sem ↓] Go.wp_at_zero Go.wp_at_succ
def Rws(X1:Cx)(w1:World)(b:Nat)(w:World)(es:List (List (List D))):Prop:=∃S cur ds,S b/\(∀(j:Nat)g,(cur.getD j undef).ownBlock=some g->S g)/\RowsC b w ds cur/\Jw X1 w1 S w es ds
theorem Jw.drew{w:World}{S:Nat->Prop}{ds:List (List T3)}(h:Jw X1 w1 S w es ds):Jw X1 w1 S w.drew es ds:=(h.grown (w':=w.drew) ⟨rfl,rfl,rfl,Nat.le_refl _,fun _ _ _=>rfl⟩).sub fun _ h=>.inl h
theorem Rws.grown{w w':World}{b:Nat}(h:Rws X1 w1 b w es)(hg:w.grownBy w' none):Rws X1 w1 b w' es:=by
 obtain⟨S,cur,ds,h1,h2,h3,h4⟩:=h;refine⟨_,cur,ds,.inl h1,fun j g e=>.inl (h2 j g e),h3.keep fun c hc=>hg.block c ?_ (by simp),h4.grown hg⟩;obtain⟨X,hs,_⟩:=h4;rcases hc with rfl|⟨j,e⟩;·exact(hs.own _ h1).2.1
 .exact(hs.own _ (h2 j c e)).2.1
theorem Rws.at{w:World}{b k:Nat}{S:Nat->Prop}{ds:List (List T3)}(hC:RowsC b w ds cur)(hJ:Jw X1 w1 S w es ds){e:List (List D)}(he:es[k]?=some e):∃d,ds[k]?=some d/\Hid (d.length=e.length)/\w.ownsRow (b+1) 56 3 (cur.getD k undef) d.length (d.flatMap rowT)/\(∃ad cp,cur.getD k undef=.slice ad d.length cp)/\w.cell? ⟨b,k,none⟩=some (cur.getD k undef)/\w.frozen? ⟨b,k,none⟩=false:=by
 obtain⟨X,_,hr⟩:=hJ;have hl:=hr.len;have hk:k<es.length:=(List.getElem?_eq_some_iff.1 he).1;obtain⟨d,hd⟩:∃d,ds[k]?=some d:=⟨ds[k]'(by omega),by simp⟩;have hrow:=hC.row k d hd;have hsz:k<cur.size:=by rw[hC.size];omega
 refine⟨d,hd,(hr.get he hd).len.symm,hrow,?_,?_,frozen_of_row w b k cur 54 hC.blk⟩
 .rcases hrow.2 with⟨h,h0⟩|⟨g,cap,c,h,_⟩;·exact⟨none,0,by rw[h,h0]⟩
  .exact⟨_,cap,h⟩
 .rw[cell_of_row w b k _ _ _ hC.blk];simp[Array.getD_eq_getD_getElem?,hsz]
theorem Rws.push{w:World}{b k:Nat}{S:Nat->Prop}{ds:List (List T3)}{d:List T3}{t:T3}(hSb:S b)(hSr:∀(j:Nat)g,(cur.getD j undef).ownBlock=some g->S g)(hJ:Jw X1 w1 S w ([l]::es) ([t]::ds))(hC:RowsC b w ds cur)(hk:ds[k]?=some d)(hc:c=d.length)(hv:cur.getD k undef=v)(hgr:w.grownBy w2 v.ownBlock)(hgb:b+1<=g)(hat:v.ownBlock=some g\/g=w.heap.size)(hgl:g<wa.heap.size)(hga:w2.grownBy wa (some g))(s3:wa.ownsRow (b+1) 56 3 (.slice (some ⟨g,0,none⟩) (c+1) cap) (c+1) ((d++[t]).flatMap rowT)):Rws X1 w1 b (wa.setCell ⟨b,k,none⟩ (.slice (some ⟨g,0,none⟩) (c+1) cap)) (es.modify k (·++[l])):=by
 have hR:=qnm hC hk hc hv hgr hgb (hat.imp_right fun e=>Nat.le_of_eq e.symm) hga s3;have hSg:S g\/w.heap.size<=g/\g<wa.heap.size:=hat.elim (fun e=>.inl (hSr k g (by rw[hv];exact e))) fun e=>.inr ⟨by omega,hgl⟩;have hF:=hJ.frame (w':=wa.setCell ⟨b,k,none⟩ (.slice (some ⟨g,0,none⟩) (c+1) cap)) (hga.os.trans hgr.os) (hga.tape.trans hgr.tape) (hga.output.trans hgr.output) (by simpa using Nat.le_trans hgr.size hga.size) fun j hj hs=>by
  have h1:j≠b:=fun e=>hs (e▸hSb);have h2:some j≠v.ownBlock:=fun e=>hs (hSr k j (by rw[hv,e]));have h3:some j≠some g:=fun e=>by
   cases e;rcases hSg with h|h;·exact hs h
   .omega
  exact(heap_setCell_other wa ⟨b,k,none⟩ j _ (fun e=>h1 e)).trans ((hga.block j (Nat.lt_of_lt_of_le hj hgr.size) h3).trans (hgr.block j hj h2))
 refine⟨_,_,_,.inl hSb,fun j g' e=>?_,hR,hF.push k⟩;have hkl:k<cur.size:=by rw[hC.size];exact(List.getElem?_eq_some_iff.1 hk).1
 simp only[Array.getD_eq_getD_getElem?,Array.getElem?_setIfInBounds]at e;by_cases h:k=j
 .subst h;rw[if_pos rfl,if_pos hkl]at e;cases e;rcases hSg with h|h;·exact .inl h
  .exact .inr ⟨h.1,by simpa using h.2⟩
 .rw[if_neg h]at e;exact .inl (hSr j g' (by simpa[Array.getD_eq_getD_getElem?]using e))
theorem Rws.lit{w:World}{b k cp:Nat}{ad:Option Addr}{S:Nat->Prop}{ds:List (List T3)}{t:T3}(hSb:S b)(hSr:∀(j:Nat)g,(cur.getD j undef).ownBlock=some g->S g)(hJ:Jw X1 w1 S w ([l]::es) ([t]::ds))(hC:RowsC b w ds cur)(hk:ds[k]?=some [])(hv:cur.getD k undef=.slice ad 0 cp):Rws X1 w1 b ((w.alloc (.cells #[.int .i64 t.1,.slice t.2.1.1 t.2.1.2.1 t.2.1.2.2,.slice t.2.2.1 t.2.2.2.1 t.2.2.2.2] 56)).setCell ⟨b,k,none⟩ (.slice (some ⟨w.heap.size,0,none⟩) 1 1)) (es.modify k (·++[l])):=by have hb:b<w.heap.size:=(Array.getElem?_eq_some_iff.1 hC.blk).1;refine Rws.push (c:=0) (g:=w.heap.size) (cap:=1) (w2:=w.alloc _) (wa:=w.alloc _) hSb hSr hJ hC hk rfl hv (World.grownBy_alloc _ _ _) hb (.inr rfl) (by simp) (World.grownBy.refl _ _) ⟨by simp[rowT],.inr ⟨_,1,_,rfl,hb,heap_alloc_new w _,Nat.le_refl _,by decide,by simp,by simp[rowT]⟩⟩
theorem Rws.app{w:World}{o:Obj}{b k:Nat}{S:Nat->Prop}{ds:List (List T3)}{d:List T3}{t:T3}(hSb:S b)(hSr:∀(j:Nat)g,(cur.getD j undef).ownBlock=some g->S g)(hJ:Jw X1 w1 S w ([l]::es) ([t]::ds))(hC:RowsC b w ds cur)(hk:ds[k]?=some d)(hc:c=d.length)(hv:cur.getD k undef=v)(hgr:(w.alloc o).grownBy w2 v.ownBlock)(hgb:b+1<=g)(hat:v.ownBlock=some g\/g=w.heap.size+1)(hga:w2.grownBy wa (some g))(s3:wa.ownsRow (b+1) 56 3 (.slice (some ⟨g,0,none⟩) (c+1) cap) (c+1) ((d++[t]).flatMap rowT)):Rws X1 w1 b (wa.setCell ⟨b,k,none⟩ (.slice (some ⟨g,0,none⟩) (c+1) cap)) (es.modify k (·++[l])):=by
 obtain⟨X,hs,_⟩:=id hJ;refine Rws.push (.inl hSb) (fun j g e=>.inl (hSr j g e)) (hJ.grown (World.grownBy_alloc w o none)) (hC.keep fun c hc=>heap_alloc_old w o ?_) hk hc hv hgr hgb (by simpa using hat) (s3.lt g rfl).2 hga s3;rcases hc with rfl|⟨j,e⟩;·exact(hs.own _ hSb).2.1
 .exact(hs.own _ (hSr j c e)).2.1
abbrev At5(w:World)(b k p:Nat)(x0 x1 x5 x6 x7:Value):Prop:=w.cell? ⟨b,k,none⟩=some x0/\w.cell? ⟨p,1,none⟩=some x1/\w.cell? ⟨p,5,none⟩=some x5/\w.cell? ⟨p,6,none⟩=some x6/\w.cell? ⟨p,7,none⟩=some x7
section
variable {w w' : World} {b k p : Nat} {x0 x1 x5 x6 x7 : Value} (h : At5 w b k p x0 x1 x5 x6 x7)
include h
theorem At5.heap(e1:w'.heap[b]?=w.heap[b]?)(e2:w'.heap[p]?=w.heap[p]?):At5 w' b k p x0 x1 x5 x6 x7:=⟨(cell?_of_heap e1 k).trans h.1,(cell?_of_heap e2 1).trans h.2.1,(cell?_of_heap e2 5).trans h.2.2.1,(cell?_of_heap e2 6).trans h.2.2.2.1,(cell?_of_heap e2 7).trans h.2.2.2.2⟩
theorem At5.grown{r:Option Nat}(hg:w.grownBy w' r)(n1:some b≠r)(n2:some p≠r):At5 w' b k p x0 x1 x5 x6 x7:=⟨hg.cell h.1 n1,hg.cell h.2.1 n2,hg.cell h.2.2.1 n2,hg.cell h.2.2.2.1 n2,hg.cell h.2.2.2.2 n2⟩
end
set_option maxHeartbeats 40000000 in
set_option maxRecDepth 100000 in
theorem qsr(n m mc:Nat)(am al:Option Addr)(cm cl:Nat)(ill ec m1 m2:Int)(nv:Nat)(ms0:List (Bool×List D))(ms:List (Bool×T3))(ps0:List (Int×Int×List D))(ps:List (Int×Int×T3))(cs:LI)(out0:List (List (List D))){mT:List AV->Heap->Option (AV×Heap)}(hC:LibOk env 96 mT)(hT:∀l,(l∈ms0.map (·.2)\/l∈ps0.map (·.2.2))->mT [.d (.agg l)] []=some (.d (.agg l),[]))(hn:n=ms.length)(hn2:n<=1000)(hm:m=ps.length)(hm2:m<=1000)(hmc:mc=cs.length)(W:World)(Q:Cx->World->Option Addr->Prop)(hRun:Calls Tryz.prog 13 #[.agg #[.slice am n cm],.int .i64 ill,.slice al m cl] (W.alloc (.cells #[.slice am n cm] 27)) fun e w1=>∃av cv ac cc X1,e=.returned (.tuple #[.agg #[.slice av nv cv,.int .i64 m1,.int .i64 m2],.slice ac mc cc,.int .i64 ec])/\Q X1 w1 ac/\w1.cell? ⟨W.heap.size,0,none⟩=some (.slice am n cm))(hQ:∀X1 w1 ac,Q X1 w1 ac->HRel env X1 [] w1/\All2 (fun a b=>a.1=b.1/\RepT w1 X1.imm a.2 b.2) ms0 ms/\All2 (fun a b=>a.1=b.1/\a.2.1=b.2.1/\RepT w1 X1.imm a.2.2 b.2.2) ps0 ps/\∀w':World,(∀b o u,w1.cell? ⟨b,o,none⟩=some u->X1.imm b o->w'.cell? ⟨b,o,none⟩=some u)->(∀(j:Nat)p,ms[j]?=some p->∃b o,am=some ⟨b,o,none⟩/\MemAt w' b (o+j*4) p)/\(∀(j:Nat)p,ps[j]?=some p->∃b o,al=some ⟨b,o,none⟩/\qy7 w' b (o+j*15) p)/\∀(j:Nat)c,cs[j]?=some c->∃b o,ac=some ⟨b,o,none⟩/\w'.cell? ⟨b,o+j,none⟩=some (.int .i64 c))(hO:ec=0->q1e ps0 cs (ms0.map q5b)=some out0):Calls Tryz.prog 44 #[.agg #[.slice am n cm],.int .i64 ill,.slice al m cl] W fun e w2=>∃X1 w1 ac,Q X1 w1 ac/\((ec≠0/\e=.returned (.tuple #[.slice none 0 0,.int .i64 ec])/\w1.grownBy w2 none)\/(ec=0/\e=.returned (.tuple #[.slice (some ⟨w1.heap.size+1,0,none⟩) n n,.int .i64 0])/\Rws X1 w1 (w1.heap.size+1) w2 out0)):=by
 obtain⟨i54,hi54,hz0,hz1,hz2⟩:∃i,Tryz.prog.info? 54=some i/\i.zero=some (.slice none 0 0)/\i.size=1/\i.bytes=24:=⟨_,rfl,rfl,rfl,rfl⟩;have hmk:∀w,(Instr.makeSlice 86 (.int .i64 n) (.int .i64 n)).run Tryz.prog w=.ok (.slice (some ⟨w.heap.size,0,none⟩) n n) (w.alloc (.cells (madeCells #[.slice none 0 0] n) 54)):=fun w=>by have:=run_make (P:=Tryz.prog) w 86 54 i54 _ Tryz.underlying86 hi54 hz0 .i64 .i64 n n (by omega) (Int.le_refl _) (by rw[hz2];omega) (by omega);simp only[tN,hz1,Nat.mul_one]at this;exact this
 clear hi54 hz0 hz1 hz2;replace hn:Hid (n=ms.length):=hn;replace hn2:Hid (n<=1000):=hn2;replace hQ:=hidOf hQ;replace hC:=hidOf hC;replace hT:=hidOf hT;replace hO:=hidOf hO;replace hm:=hidOf hm;replace hm2:=hidOf hm2;replace hmc:=hidOf hmc;by_cases he:ec=0;case neg=>
  have he2:(ec !=0)=true:=by simp[he]
  clear hmk;go_enter Tryz.func44,Tryz.ntmps44;go_wp2_with(go_at_call 13;refine hRun.mono ?_;rintro e w1⟨av,cv,ac,cc,X1,rfl,hQ1,hbox⟩);go_ret2;exact⟨X1,w1,_,hQ1,.inl ⟨he,rfl,World.grownBy_alloc _ _ _⟩⟩
 subst he;go_enter Tryz.func44,Tryz.ntmps44;go_wp2_with(go_at_call 13;refine hRun.mono ?_;rintro e w1⟨av,cv,ac,cc,X1,rfl,hQ1,hbox⟩;have hb2:=fun o=>(World.grownBy_alloc w1 o none).cell hbox (by simp);have hb3:=fun o o'=>(World.grownBy_alloc (w1.alloc o) o' none).cell (hb2 o) (by simp));obtain⟨hH1,hMs,hPs,hAt⟩:=hQ.out _ _ _ hQ1;replace hMs:=hidOf hMs;replace hPs:=hidOf hPs;replace hAt:=hidOf hAt;generalize hw3:(w1.alloc (Obj.cells #[Value.slice av nv cv,Value.int IntKind.i64 m1,Value.int IntKind.i64 m2] 33)).alloc (Obj.cells (madeCells #[Value.slice none 0 0] n) 54)=w3;clear hmk;have hL0:Rws X1 w1 (w1.heap.size+1) w3 (begT ms0 0):=by
  have hJ0:Jw X1 w1 (fun _=>False) w1 (begT ms0 0) (List.replicate n []):=⟨X1,St.start hH1,by
   rw[qs0,<-hMs.out.len.trans hn.out.symm];exact All2.of (by simp) fun j a b ha hb=>by
    rw[List.getElem?_replicate]at ha hb;split at ha;·cases ha;rw[if_pos (by assumption)]at hb;cases hb;exact .nil
    .cases ha⟩;obtain⟨cur,hCr⟩:=qmg (w:=w1.alloc (Obj.cells #[Value.slice av nv cv,Value.int IntKind.i64 m1,Value.int IntKind.i64 m2] 33)) (n:=n);rw[<-hw3];have hsz:((w1.alloc (Obj.cells #[Value.slice av nv cv,Value.int IntKind.i64 m1,Value.int IntKind.i64 m2] 33)).alloc (Obj.cells (madeCells #[Value.slice none 0 0] n) 54)).heap.size=w1.heap.size+2:=by simp
  refine⟨_,cur,_,?_,fun j g e=>?_,by simpa using hCr,hJ0.grown (w':=(w1.alloc _).alloc _) ⟨rfl,rfl,rfl,by simp;omega,fun k hk _=>(heap_alloc_old _ _ (by simp;omega)).trans (heap_alloc_old _ _ hk)⟩⟩;·exact .inr ⟨by omega,by rw[hsz];omega⟩
  .exfalso;have hj:j<cur.size:=Decidable.byContradiction fun h=>by rw[Array.getD_eq_getD_getElem?,Array.getElem?_eq_none (by omega)]at e;cases e
   rw[hCr.size,List.length_replicate]at hj;have hr:=(hCr.row j [] (by rw[List.getElem?_replicate,if_pos hj])).2;rcases hr with⟨h,_⟩|⟨g',cap,c,h,hb,hg,_⟩;·rw[h]at e;cases e
   .rw[h]at e;cases e;have:=(Array.getElem?_eq_some_iff.1 hg).1;rw[hsz]at this;simp at hb;omega
 go_loopw [34](fun i wr=>∃k:Nat,k<=n/\i=.int .i64 k/\Rws X1 w1 (w1.heap.size+1) wr (begT ms0 k))(fun i _=>n-(intOf i).toNat);case atStart=>exact⟨0,Nat.zero_le _,rfl,hL0⟩
 case round=>
  obtain⟨k,hk,rfl,hL⟩:=hrel;have hn2':=hn2.out;obtain⟨hM,hP,hD⟩:=hAt.out wr (by obtain⟨_,_,_,_,_,_,hJ⟩:=hL;exact fun b o u hc hi=>hJ.point hc hi);replace hP:=hidOf hP;replace hD:=hidOf hD;by_cases hlt:k<n
  .obtain⟨p,hp⟩:∃p,ms[k]?=some p:=by have:=hn.out;exact⟨ms[k]'(by omega),by simp[<-this,hlt]⟩
   obtain⟨b,o,rfl,c0,c1,c2,c3⟩:=hM k p hp;obtain⟨p0,hp0⟩:∃p0,ms0[k]?=some p0:=⟨ms0[k]'(by rw[hMs.out.len];exact(List.getElem?_eq_some_iff.1 hp).1),by simp⟩;obtain⟨hpe,hpr⟩:=hMs.out.get hp0 hp;obtain⟨dcl,thr,sa,sb⟩:=p;obtain⟨dcl0,l0⟩:=p0;replace hpe:dcl0=dcl:=hpe;subst hpe;clear hM;replace hpr:=hidOf hpr;cases dcl0 with
   |false=>
    go_wp2;go_roundw;case rel=>exact⟨k+1,by omega,by go_num,by rw[qrq hp0];exact hL.grown (World.grownBy_alloc _ _ none)⟩
    case measure=>simp[intOf];omega|true=>
    obtain⟨S,cur,ds,hSb,hSr,hCr,hJ⟩:=hL;have hkm:k<ms0.length:=(List.getElem?_eq_some_iff.1 hp0).1;obtain⟨d,hd,hdl,hrow,⟨ad,cp,hv⟩,hcell,hfz⟩:=Rws.at hCr hJ (y5q hkm);have hd0:d=[]:=List.length_eq_zero_iff.1 hdl.out;subst hd0;rw[hv]at hrow hcell;have hl:mT [.d (.agg l0)] []=some (.d (.agg l0),[]):=hT.out l0 (.inl (List.mem_map.2 ⟨_,List.mem_of_getElem? hp0,rfl⟩));have hJq:=fun o=>(hJ.grown (World.grownBy_alloc wr o none)).sub (S':=fun c=>S c\/c=wr.heap.size) (fun c hc=>by
     rcases hc with hc|rfl;·exact .inl hc
     .exact .inr ⟨Nat.le_refl _,by simp⟩);have hlt2:(0:Int)<=(k:Int):=by omega
    have hlt3:(k:Int)<(n:Int):=by omega
    have hcq:∀o,(wr.alloc o).heap[w1.heap.size+1]?=wr.heap[w1.heap.size+1]?:=fun o=>heap_alloc_old wr o (Array.getElem?_eq_some_iff.1 hCr.blk).1;have hkp:∀c,(c=w1.heap.size+1\/∃j,(cur.getD j undef).ownBlock=some c)->∀{o:Obj}(w':World),(∀b,S b\/b=wr.heap.size->w'.heap[b]?=(wr.alloc o).heap[b]?)->w'.heap[c]?=wr.heap[c]?:=fun c hc o w' hfr=>by
     have hSc:S c:=by
      rcases hc with rfl|⟨j,e⟩;·exact hSb
      .exact hSr j c e
     exact(hfr c (.inl hSc)).trans (heap_alloc_old wr _ (by obtain⟨X,hs,_⟩:=hJ;exact(hs.own c hSc).2.1))
    go_wp2_with(go_at_call 96;refine((hJq _).call hC.out hl (t:=(thr,sa,sb)) hpr.out).mono ?_;rintro e w'⟨t',rfl,hsz,hfr,hJ'⟩;have hcl:=(hfr (w1.heap.size+1) (.inl hSb)).trans (hcq _);have hCw:RowsC (w1.heap.size+1) w' ds cur:=hCr.keep (fun c hc=>hkp c hc w' hfr);have q0:w'.cell? ⟨w1.heap.size+1,k,none⟩=some (.slice ad 0 cp):=(cell?_of_heap hcl k).trans hcell;have q0a:=fun o=>(World.grownBy_alloc w' o none).cell q0 (by simp);have f0:∀o,(w'.alloc o).frozen? ⟨w1.heap.size+1,k,none⟩=false:=fun o=>(World.frozen?_of_block (w:=w') (heap_alloc_old w' o (World.block_lt_of_cell? w' _ q0))).trans ((World.frozen?_of_block (w:=wr) hcl).trans hfz));go_roundw;case rel=>exact⟨k+1,by omega,by go_num,by rw[qkg hp0];exact Rws.lit (.inl hSb) (fun j g e=>.inl (hSr j g e)) hJ' hCw hd hv⟩
    case measure=>simp[intOf];omega
  .have hke:k=n:=by omega
   subst hke;have hO':q1e ps0 cs (ms0.map q5b)=some out0:=by first|exact hO.out trivial|exact hO.out rfl
   have hbl:begT ms0 k=ms0.map q5b:=by rw[show k=ms0.length from hn.out.trans hMs.out.len.symm,qi7]
   rw[hbl]at hL;have hel0:(ms0.map q5b).length=k:=by rw[List.length_map,hMs.out.len,hn.out]
   replace hO':=hidOf hO';clear hM;go_wp2;go_loopw [51](fun i wq=>∃j:Nat,j<=m/\i=.int .i64 j/\∃es,Rws X1 w1 (w1.heap.size+1) wq es/\q1e (ps0.drop j) (cs.drop j) es=some out0/\es.length=k/\∀e∈es,e.length<=j+1)(fun i _=>m-(intOf i).toNat);case atStart=>exact⟨0,Nat.zero_le _,rfl,_,hL,by simpa using hO'.out,hel0,fun d hd=>by obtain⟨p,_,rfl⟩:=List.mem_map.1 hd;unfold q5b;split<;>simp⟩
   case round=>
    obtain⟨j,hj,rfl,es,hL2,hrest,hel,hlen⟩:=hrel;obtain⟨_,hP2,hD2⟩:=hAt.out wr (by obtain⟨_,_,_,_,_,_,hJ⟩:=hL2;exact fun b o u hc hi=>hJ.point hc hi);have hm2':=hm2.out;have hmp:=hm.out;by_cases hjm:j<m
    .obtain⟨p,hp⟩:∃p,ps[j]?=some p:=⟨ps[j]'(by omega),by simp[<-hmp,hjm]⟩;clear hmp;obtain⟨bp,op,rfl,z2,z3,z4,z8,z9,z10,s11,s12,s13,s14,d0,d1,d2,d3,d4,d5,d6,d7,d8,d9,d10,d11,d12,d13,d14⟩:=hP2 j p hp;obtain⟨p0,hp0⟩:∃p0,ps0[j]?=some p0:=⟨ps0[j]'(by rw[hPs.out.len];exact(List.getElem?_eq_some_iff.1 hp).1),by simp⟩;obtain⟨hpe,hpf,hpr⟩:=hPs.out.get hp0 hp;obtain⟨kd,fr,thr,sa,sb⟩:=p;obtain⟨kd0,fr0,l0⟩:=p0;replace hpe:kd0=kd:=hpe;replace hpf:fr0=fr:=hpf;subst hpe hpf;replace hpr:=hidOf hpr;clear hP2;have hpd:ps0.drop j=(kd0,fr0,l0)::ps0.drop (j+1):=by obtain⟨h1,h2⟩:=List.getElem?_eq_some_iff.1 hp0;rw[List.drop_eq_getElem_cons h1,h2]
     obtain⟨cd,hcd⟩:∃cd,cs[j]?=some cd:=by cases h:cs[j]? with|some cd=>exact⟨cd,rfl⟩|none=>rw[hpd,List.drop_eq_nil_of_le (List.getElem?_eq_none_iff.1 h)]at hrest;simp[q1e]at hrest
     obtain⟨bc,oc,rfl,g0⟩:=hD2 j cd hcd;clear hD2;have hjc:j<cs.length:=(List.getElem?_eq_some_iff.1 hcd).1;have hcdr:cs.drop j=cd::cs.drop (j+1):=by obtain⟨h1,h2⟩:=List.getElem?_eq_some_iff.1 hcd;rw[List.drop_eq_getElem_cons h1,h2]
     rw[hpd,hcdr]at hrest;have hl:mT [.d (.agg l0)] []=some (.d (.agg l0),[]):=hT.out l0 (.inr (List.mem_map.2 ⟨_,List.mem_of_getElem? hp0,rfl⟩));have hmc':=hmc.out;have hj0:(0:Int)<=(j:Int):=by omega
     have hj1:(j:Int)<(mc:Int):=by omega
     have hgc:∀o,(wr.alloc o).cell? ⟨bc,oc+j,none⟩=some (.int .i64 cd):=fun o=>(World.grownBy_alloc wr o none).cell g0 (by simp);clear hmc';by_cases hkd:kd0=3
     .subst hkd;by_cases hcd0:cd=0
      .subst hcd0;go_wp2;generalize hwq:wr.alloc (Obj.cells #[Value.int IntKind.i64 3,Value.int IntKind.i64 fr0,Value.int IntKind.i64 z2,Value.int IntKind.i64 z3,Value.int IntKind.i64 z4,Value.int IntKind.i64 thr,Value.slice sa.1 sa.2.1 sa.2.2,Value.slice sb.1 sb.2.1 sb.2.2,Value.int IntKind.i64 z8,Value.int IntKind.i64 z9,Value.int IntKind.i64 z10,Value.slice s11.1 s11.2.1 s11.2.2,Value.slice s12.1 s12.2.1 s12.2.2,Value.slice s13.1 s13.2.1 s13.2.2,Value.slice s14.1 s14.2.1 s14.2.2] 70)=wq;have hgq:wr.grownBy wq none:=by rw[<-hwq];exact World.grownBy_alloc _ _ _
       have hbq:wq.heap[wr.heap.size]?=some (.cells #[.int .i64 3,.int .i64 fr0,.int .i64 z2,.int .i64 z3,.int .i64 z4,.int .i64 thr,.slice sa.1 sa.2.1 sa.2.2,.slice sb.1 sb.2.1 sb.2.2,.int .i64 z8,.int .i64 z9,.int .i64 z10,.slice s11.1 s11.2.1 s11.2.2,.slice s12.1 s12.2.1 s12.2.2,.slice s13.1 s13.2.1 s13.2.2,.slice s14.1 s14.2.1 s14.2.2] 70 (0,0)):=by rw[<-hwq];exact heap_alloc_new wr _
       clear hwq d0 d1 d2 d3 d4 d5 d6 d7 d8 d9 d10 d11 d12 d13 d14 g0 hgc;have hcnd:0<=fr0/\fr0<es.length:=by
        rw[q1e,if_pos ⟨rfl,rfl⟩]at hrest;split at hrest;·assumption
        .cases hrest
       rw[q1e,if_pos ⟨rfl,rfl⟩,if_pos hcnd]at hrest;obtain⟨kf,rfl⟩:=Int.eq_ofNat_of_zero_le hcnd.1;rw[tN]at hrest;have hkf:kf<es.length:=by omega
       obtain⟨S,cur,ds,hSb,hSr,hCr,hJ⟩:=hL2;have hes:es[kf]?=some es[kf]:=by simp[hkf]
       obtain⟨d,hd,hdl,hrow,⟨ad,cp,hv⟩,hcell,hfz⟩:=Rws.at hCr hJ hes;have hdl1:d.length<=j+1:=by rw[hdl.out];exact hlen _ (List.mem_of_getElem? hes)
       rw[hv]at hrow hcell;have hk0:(0:Int)<=(kf:Int):=by omega
       have hk1:(kf:Int)<(k:Int):=by omega
       obtain⟨i56,hi56,hy0,hy1,hy2⟩:∃i,Tryz.prog.info? 56=some i/\i.zero=some (.agg #[.int .i64 0,.slice none 0 0,.slice none 0 0])/\i.size=3/\i.bytes=56:=⟨_,rfl,rfl,rfl,rfl⟩;have hkp:∀c,(c=w1.heap.size+1\/∃j,(cur.getD j undef).ownBlock=some c)->S c:=fun c hc=>by
        rcases hc with rfl|⟨j,e⟩;·exact hSb
        .exact hSr j c e
       have hSl:∀c,S c->c<wr.heap.size:=fun c hc=>by obtain⟨X,hs,_⟩:=hJ;exact(hs.own c hc).2.1
       have hbne:w1.heap.size+1≠wr.heap.size:=fun e=>by have:=hSl _ hSb;omega
       have pre:∀(o:Obj)(ws:World),(wq.alloc o).drew=ws->wr.grownBy ws none/\wr.heap.size<ws.heap.size/\At5 ws (w1.heap.size+1) kf wr.heap.size (.slice ad d.length cp) (.int .i64 kf) (.int .i64 thr) (.slice sa.1 sa.2.1 sa.2.2) (.slice sb.1 sb.2.1 sb.2.2):=fun o ws hws=>by
        have hgs:wr.grownBy ws none:=by rw[<-hws];exact⟨hgq.os,hgq.tape,hgq.output,Nat.le_trans hgq.size (by simp),fun j hj _=>(heap_alloc_old wq _ (Nat.lt_of_lt_of_le hj hgq.size)).trans (hgq.block j hj (by simp))⟩
        have hbs:=(show ws.heap[wr.heap.size]?=wq.heap[wr.heap.size]? by rw[<-hws];exact heap_alloc_old wq _ (Array.getElem?_eq_some_iff.1 hbq).1).trans hbq;have r1:=cell_of_row ws _ 1 _ _ _ hbs;have r5:=cell_of_row ws _ 5 _ _ _ hbs;have r6:=cell_of_row ws _ 6 _ _ _ hbs;have r7:=cell_of_row ws _ 7 _ _ _ hbs;simp only[List.size_toArray,List.length_cons,List.length_nil,Nat.zero_add,Nat.reduceAdd,Nat.reduceLT,getElem?_pos,List.getElem_toArray,List.getElem_cons_zero,List.getElem_cons_succ]at r1 r5 r6 r7;exact⟨hgs,(Array.getElem?_eq_some_iff.1 hbs).1,hgs.cell hcell (by simp),r1,r5,r6,r7⟩
       go_region;all_goals go_wp2
       .generalize hws:(wq.alloc (Obj.cells #[Value.bool false] 4)).drew=ws;obtain⟨hgs,hbx,hr5⟩:=pre _ ws hws;clear hws;have r0:=hr5.1;have hJs:=(hJ.grown hgs).drew;refine qcb (S:=fun w'=>At5 w' (w1.heap.size+1) kf wr.heap.size (.slice ad d.length cp) (.int .i64 kf) (.int .i64 thr) (.slice sa.1 sa.2.1 sa.2.2) (.slice sb.1 sb.2.1 sb.2.2)) (late:=fun j=>decide (13<=j)) (by kernel_rfl) ?_;refine q15 0 ?_ rfl (by kernel_rfl) (fun _ _ _ h=>h) (by rfl) ?_ hr5 ?_;rotate_left;·(intro w hSw;obtain⟨x0,x1,x5,x6,x7⟩:=hSw;go_simp;try with_reducible rfl)
        simp only[Act.put,List.setIfInBounds_toArray];refine q15 1 ?_ rfl (by kernel_rfl) (fun _ _ _ h=>h) (by rfl) ?_ hr5 ?_;rotate_left;·(intro w hSw;obtain⟨x0,x1,x5,x6,x7⟩:=hSw;go_simp;try with_reducible rfl)
        simp only[Act.put];refine q15 2 ?_ rfl (by kernel_rfl) (fun _ _ _ h=>h) (by rfl) ?_ hr5 ?_;rotate_left;·(intro w hSw;obtain⟨x0,x1,x5,x6,x7⟩:=hSw;go_simp;try with_reducible rfl)
        simp only[Act.put];refine q15 3 ?_ rfl (by kernel_rfl) (fun _ _ _ h=>h) (by rfl) ?_ hr5 ?_;rotate_left;·(intro w hSw;obtain⟨x0,x1,x5,x6,x7⟩:=hSw;go_simp;try with_reducible rfl)
        simp only[Act.put];refine q15 4 ?_ rfl (by kernel_rfl) (fun _ _ _ h=>h) (by rfl) ?_ hr5 ?_;rotate_left;·(intro w hSw;obtain⟨x0,x1,x5,x6,x7⟩:=hSw;go_simp;try with_reducible rfl)
        simp only[Act.put];refine q15 5 ?_ rfl (by kernel_rfl) (fun _ _ _ h=>h) (by rfl) ?_ hr5 ?_;rotate_left;·(intro w hSw;obtain⟨x0,x1,x5,x6,x7⟩:=hSw;go_simp;try with_reducible rfl)
        simp only[Act.put];refine q15 6 ?_ rfl (by kernel_rfl) (fun _ _ _ h=>h) (by rfl) ?_ hr5 ?_;rotate_left;·(intro w hSw;obtain⟨x0,x1,x5,x6,x7⟩:=hSw;go_simp;try with_reducible rfl)
        simp only[Act.put];refine q15 7 ?_ rfl (by kernel_rfl) (fun _ _ _ h=>h) (by rfl) ?_ hr5 ?_;rotate_left;·(intro w hSw;obtain⟨x0,x1,x5,x6,x7⟩:=hSw;go_simp;try with_reducible rfl)
        simp only[Act.put];refine q15 8 ?_ rfl (by kernel_rfl) (fun _ _ _ h=>h) (by rfl) ?_ hr5 ?_;rotate_left;·(intro w hSw;obtain⟨x0,x1,x5,x6,x7⟩:=hSw;go_simp;try with_reducible rfl)
        simp only[Act.put];refine q15 9 ?_ rfl (by kernel_rfl) (fun _ _ _ h=>h) (by rfl) ?_ hr5 ?_;rotate_left;·(intro w hSw;obtain⟨x0,x1,x5,x6,x7⟩:=hSw;go_simp;try with_reducible rfl)
        simp only[Act.put];refine q2d (i:=10) (by kernel_rfl) rfl (fun K hK=>?_);go_simp;go_at_call 96;refine(hJs.call hC.out hl (t:=(thr,sa,sb)) hpr.out).mono ?_;rintro e w'⟨t',rfl,hsz,hfr,hJ'⟩;dsimp only;have hcl:∀c,(S c\/c=wr.heap.size)->w'.heap[c]?=ws.heap[c]?:=fun c hc=>hfr c (hc.elim .inl fun e=>.inr ⟨by omega,by omega⟩);have k5:=At5.heap hr5 (hcl (w1.heap.size+1) (.inl hSb)) (hcl _ (.inr rfl));have k0:=k5.1;have k5a:=fun o=>At5.grown k5 (World.grownBy_alloc w' o none) (by simp) (by simp);have k0a:=fun o=>(k5a o).1;have hCw:RowsC (w1.heap.size+1) w' ds cur:=hCr.keep (fun c hc=>(hcl c (.inl (hkp c hc))).trans (hgs.block c (hSl c (hkp c hc)) (by simp)));have hownw:w'.ownsRow (w1.heap.size+2) 56 3 (.slice ad d.length cp) d.length (d.flatMap rowT):=hv▸hCw.row kf d hd;have hbw:w1.heap.size+2<=w'.heap.size:=Nat.lt_of_lt_of_le (hSl _ hSb) (Nat.le_trans hgs.size hsz);refine hK.out _ _ (fun _=>k5) ?_;clear hK K;try simp only[Act.put,List.setIfInBounds_toArray,List.set_cons_zero,List.set_cons_succ]
        refine q2d (i:=11) (by kernel_rfl) rfl (fun K hK=>?_);go_simp;refine hK.out _ _ (fun _=>k5a _) ?_;clear hK K;try simp only[Act.put,List.setIfInBounds_toArray,List.set_cons_zero,List.set_cons_succ]
        refine q2d (i:=12) (by kernel_rfl) rfl (fun K hK=>?_);refine step_append_lies _ (by rfl) _ _ _ (by rfl) (w1.heap.size+2) 56 i56 _ 3 56 Tryz.underlying54 hi56 hy0 hy1 hy2 rfl (by decide) (.slice ad d.length cp) d.length _ (by rfl) (hownw.alloc _) ⟨w'.heap.size,0,none⟩ 1 1 (rowT t') (by rfl) (by rfl) (World.news_of_block (cs:=#[.int .i64 t'.1,.slice t'.2.1.1 t'.2.1.2.1 t'.2.1.2.2,.slice t'.2.2.1 t'.2.2.2.1 t'.2.2.2.2]) (t:=56) (fr:=(0,0)) (heap_alloc_new w' _)) (by simp[Value.oneCell',rowT]) (by omega) (by unfold maxLen;omega) (by omega) (by simp;omega) (w'.heap.size+1) (by simp) ?_;intro g cap w2 hown2 hgrow hat hlt;have kne:some wr.heap.size≠(Value.slice ad d.length cp).ownBlock:=fun e=>Nat.lt_irrefl _ (hrow.lt _ e.symm).2;have k5b:=At5.grown (k5a _) hgrow (fun e=>absurd (hownw.lt _ e.symm).1 (Nat.not_succ_le_self _)) kne;have k0b:=k5b.1;have f0:w2.frozen? ⟨w1.heap.size+1,kf,none⟩=false:=(hgrow.frozen_far _ (World.block_lt_of_cell? _ _ (k0a _)) (fun e=>absurd (hownw.lt _ e.symm).1 (Nat.not_succ_le_self _))).trans ((World.frozen?_of_block (w:=wr) ((heap_alloc_old w' _ (World.block_lt_of_cell? w' _ k0)).trans ((hcl _ (.inl hSb)).trans (hgs.block _ (hSl _ hSb) (by simp))))).trans hfz);refine hK.out _ _ (fun _=>k5b) ?_;clear hK K;try simp only[Act.put,List.setIfInBounds_toArray]
        refine q2d (i:=13) (by kernel_rfl) rfl (fun K hK=>?_);go_simp;refine hK.out _ _ (fun h=>by simp at h) ?_;clear hK K;try simp only[Act.put,List.setIfInBounds_toArray,List.set_cons_zero,List.set_cons_succ]
        refine q2d (i:=14) (by kernel_rfl) rfl (fun K hK=>?_);go_simp;refine hK.out _ _ (fun h=>by simp at h) ?_;clear hK K;try simp only[Act.put,List.setIfInBounds_toArray,List.set_cons_zero,List.set_cons_succ]
        refine qcw (by kernel_rfl) ?_ _;go_wp2;go_roundw;case rel=>exact⟨j+1,by omega,by go_num,_,Rws.app (t:=t') (.inl hSb) (fun j g e=>.inl (hSr j g e)) hJ' hCw hd rfl hv hgrow (hown2.lt g rfl).1 hat (World.grownBy.refl _ _) (by rw[List.flatMap_append];simpa using hown2),hrest,by rw[List.length_modify];exact hel,qj5 hlen hes⟩
        case measure=>simp[intOf];omega
       .generalize hws:(wq.alloc (Obj.cells #[Value.bool true] 4)).drew=ws;obtain⟨hgs,hbx,hr5⟩:=pre _ ws hws;clear hws;have r0:=hr5.1;have hJs:=(hJ.grown hgs).drew;refine qcb (S:=fun w'=>At5 w' (w1.heap.size+1) kf wr.heap.size (.slice ad d.length cp) (.int .i64 kf) (.int .i64 thr) (.slice sa.1 sa.2.1 sa.2.2) (.slice sb.1 sb.2.1 sb.2.2)) (late:=fun j=>decide (11<=j)) (by kernel_rfl) ?_;refine q15 0 ?_ rfl (by kernel_rfl) (fun _ _ _ h=>h) (by rfl) ?_ hr5 ?_;rotate_left;·(intro w hSw;obtain⟨x0,x1,x5,x6,x7⟩:=hSw;go_simp;try with_reducible rfl)
        simp only[Act.put,List.setIfInBounds_toArray];refine q15 1 ?_ rfl (by kernel_rfl) (fun _ _ _ h=>h) (by rfl) ?_ hr5 ?_;rotate_left;·(intro w hSw;obtain⟨x0,x1,x5,x6,x7⟩:=hSw;go_simp;try with_reducible rfl)
        simp only[Act.put];refine q15 2 ?_ rfl (by kernel_rfl) (fun _ _ _ h=>h) (by rfl) ?_ hr5 ?_;rotate_left;·(intro w hSw;obtain⟨x0,x1,x5,x6,x7⟩:=hSw;go_simp;try with_reducible rfl)
        simp only[Act.put];refine q15 3 ?_ rfl (by kernel_rfl) (fun _ _ _ h=>h) (by rfl) ?_ hr5 ?_;rotate_left;·(intro w hSw;obtain⟨x0,x1,x5,x6,x7⟩:=hSw;go_simp;try with_reducible rfl)
        simp only[Act.put];refine q15 4 ?_ rfl (by kernel_rfl) (fun _ _ _ h=>h) (by rfl) ?_ hr5 ?_;rotate_left;·(intro w hSw;obtain⟨x0,x1,x5,x6,x7⟩:=hSw;go_simp;try with_reducible rfl)
        simp only[Act.put];refine q15 5 ?_ rfl (by kernel_rfl) (fun _ _ _ h=>h) (by rfl) ?_ hr5 ?_;rotate_left;·(intro w hSw;obtain⟨x0,x1,x5,x6,x7⟩:=hSw;go_simp;try with_reducible rfl)
        simp only[Act.put];refine q15 6 ?_ rfl (by kernel_rfl) (fun _ _ _ h=>h) (by rfl) ?_ hr5 ?_;rotate_left;·(intro w hSw;obtain⟨x0,x1,x5,x6,x7⟩:=hSw;go_simp;try with_reducible rfl)
        simp only[Act.put];refine q15 8 ?_ rfl (by kernel_rfl) (fun _ _ _ h=>h) (by rfl) ?_ hr5 ?_;rotate_left;·(intro w hSw;obtain⟨x0,x1,x5,x6,x7⟩:=hSw;go_simp;try with_reducible rfl)
        simp only[Act.put];refine y02 (i:=7) (i':=9) (by kernel_rfl) rfl rfl (fun K hK=>?_) (fun K hK=>?_)
        .go_simp;go_at_call 96;refine(hJs.call hC.out hl (t:=(thr,sa,sb)) hpr.out).mono ?_;rintro e w'⟨t',rfl,hsz,hfr,hJ'⟩;dsimp only;have hcl:∀c,(S c\/c=wr.heap.size)->w'.heap[c]?=ws.heap[c]?:=fun c hc=>hfr c (hc.elim .inl fun e=>.inr ⟨by omega,by omega⟩);have k5:=At5.heap hr5 (hcl (w1.heap.size+1) (.inl hSb)) (hcl _ (.inr rfl));have k0:=k5.1;have hCw:RowsC (w1.heap.size+1) w' ds cur:=hCr.keep (fun c hc=>(hcl c (.inl (hkp c hc))).trans (hgs.block c (hSl c (hkp c hc)) (by simp)));have hownw:w'.ownsRow (w1.heap.size+2) 56 3 (.slice ad d.length cp) d.length (d.flatMap rowT):=hv▸hCw.row kf d hd;have fw:w'.frozen? ⟨w1.heap.size+1,kf,none⟩=false:=(World.frozen?_of_block (w:=wr) ((hcl _ (.inl hSb)).trans (hgs.block _ (hSl _ hSb) (by simp)))).trans hfz;have hbw:w1.heap.size+2<=w'.heap.size:=Nat.lt_of_lt_of_le (hSl _ hSb) (Nat.le_trans hgs.size hsz);have k5a:=fun o=>At5.grown k5 (World.grownBy_alloc w' o none) (by simp) (by simp);have k0a:=fun o=>(k5a o).1;have fwa:∀o,(w'.alloc o).frozen? ⟨w1.heap.size+1,kf,none⟩=false:=fun o=>(World.frozen?_of_block (w:=w') (heap_alloc_old w' o (World.block_lt_of_cell? w' _ k0))).trans fw;refine hK.out _ _ (fun _=>k5) ?_;clear hK K;try simp only[Act.put,List.setIfInBounds_toArray,List.set_cons_zero,List.set_cons_succ]
         refine q2d (i:=9) (by kernel_rfl) rfl (fun K hK=>?_);go_simp;refine hK.out _ _ (fun _=>k5a _) ?_;clear hK K;try simp only[Act.put,List.setIfInBounds_toArray,List.set_cons_zero,List.set_cons_succ]
         refine q2d (i:=10) (by kernel_rfl) rfl (fun K hK=>?_);refine step_append_lies _ (by rfl) _ _ _ (by rfl) (w1.heap.size+2) 56 i56 _ 3 56 Tryz.underlying54 hi56 hy0 hy1 hy2 rfl (by decide) (.slice ad d.length cp) d.length _ (by rfl) (hownw.alloc _) ⟨w'.heap.size,0,none⟩ 1 1 [.int .i64 0,.slice none 0 0,.slice none 0 0] (by rfl) (by rfl) (World.news_of_block (cs:=#[.int .i64 0,.slice none 0 0,.slice none 0 0]) (t:=56) (fr:=(0,0)) (heap_alloc_new w' _)) (by simp[Value.oneCell']) (by omega) (by unfold maxLen;omega) (by omega) (by first|omega|(simp;omega)) (w'.heap.size+1) (by first|rfl|simp) ?_;intro g cap w2 hown2 hgrow hat hlt;obtain⟨p0,p1,p2,p3,p4,p5,p6,p7,p8,p9,p10,p11⟩:=qd4 (x:=d.length*3) (y:=d.length*3+1) (z:=d.length*3+2) rfl rfl rfl (k0a _) (fwa _) (hownw.alloc _) hown2 hgrow;have kne:some wr.heap.size≠(Value.slice ad d.length cp).ownBlock:=fun e=>Nat.lt_irrefl _ (hrow.lt _ e.symm).2;refine hK.out _ _ (fun _=>At5.grown (k5a _) hgrow (fun e=>absurd (hownw.lt _ e.symm).1 (Nat.not_succ_le_self _)) kne) ?_;clear hK K;try simp only[Act.put,List.setIfInBounds_toArray]
         refine q2d (i:=11) (by kernel_rfl) rfl (fun K hK=>?_);go_simp;refine hK.out _ _ (fun h=>by simp at h) ?_;clear hK K;try simp only[Act.put,List.setIfInBounds_toArray,List.set_cons_zero,List.set_cons_succ]
         refine q2d (i:=12) (by kernel_rfl) rfl (fun K hK=>?_);go_simp;refine hK.out _ _ (fun h=>by simp at h) ?_;clear hK K;try simp only[Act.put,List.setIfInBounds_toArray,List.set_cons_zero,List.set_cons_succ]
         refine qcw (by kernel_rfl) ?_ _;go_wp2;go_roundw;case rel=>obtain⟨wa,_,he,hga,hs3⟩:=row3 (k:=kf) (t:=t') (x:=d.length*3) (y:=d.length*3+1) (z:=d.length*3+2) rfl rfl rfl hownw.1 hown2;exact⟨j+1,by omega,by go_num,_,by rw[he];exact Rws.app (t:=t') (.inl hSb) (fun j g e=>.inl (hSr j g e)) hJ' hCw hd rfl hv hgrow (hown2.lt g rfl).1 hat hga hs3,hrest,by rw[List.length_modify];exact hel,qj5 hlen hes⟩
         case measure=>simp[intOf];omega
        .go_simp;generalize hwv:(ws.alloc (Obj.cells #[Value.int IntKind.i64 0,Value.slice none 0 0,Value.slice none 0 0] 56)).drew=wv;have hgv:ws.grownBy wv none:=by rw[<-hwv];exact⟨rfl,rfl,rfl,by simp,fun j hj _=>heap_alloc_old ws _ hj⟩
         have hbv:wv.heap[ws.heap.size]?=some (.cells #[Value.int IntKind.i64 0,Value.slice none 0 0,Value.slice none 0 0] 56 (0,0)):=by rw[<-hwv];exact heap_alloc_new ws _
         have hvs:ws.heap.size<wv.heap.size:=by rw[<-hwv];simp
         clear hwv;have hgw:wr.grownBy wv none:=⟨hgv.os.trans hgs.os,hgv.tape.trans hgs.tape,hgv.output.trans hgs.output,Nat.le_trans hgs.size hgv.size,fun j hj _=>(hgv.block j (Nat.lt_of_lt_of_le hj hgs.size) (by simp)).trans (hgs.block j hj (by simp))⟩;have r5v:=At5.grown hr5 hgv (by simp) (by simp);have hJv:=hJ.grown hgw;refine hK.out _ _ (fun _=>r5v) ?_;clear hK K;try simp only[Act.put,List.setIfInBounds_toArray,List.set_cons_zero,List.set_cons_succ]
         refine q2d (i:=7) (by kernel_rfl) rfl (fun K hK=>?_);go_simp;go_at_call 96;refine(hJv.call hC.out hl (t:=(thr,sa,sb)) hpr.out).mono ?_;rintro e w'⟨t',rfl,hsz,hfr,hJ'⟩;dsimp only;have hcl:∀c,(S c\/c=wr.heap.size)->w'.heap[c]?=ws.heap[c]?:=fun c hc=>(hfr c (hc.elim .inl fun e=>.inr ⟨by omega,by omega⟩)).trans (hgv.block c (hc.elim (fun h=>Nat.lt_of_lt_of_le (hSl c h) hgs.size) fun e=>by omega) (by simp));have hzw:=(hfr ws.heap.size (.inr ⟨hgs.size,hvs⟩)).trans hbv;have k5:=At5.heap hr5 (hcl (w1.heap.size+1) (.inl hSb)) (hcl _ (.inr rfl));have k0:=k5.1;have hCw:RowsC (w1.heap.size+1) w' ds cur:=hCr.keep (fun c hc=>(hcl c (.inl (hkp c hc))).trans (hgs.block c (hSl c (hkp c hc)) (by simp)));have hownw:w'.ownsRow (w1.heap.size+2) 56 3 (.slice ad d.length cp) d.length (d.flatMap rowT):=hv▸hCw.row kf d hd;have fw:w'.frozen? ⟨w1.heap.size+1,kf,none⟩=false:=(World.frozen?_of_block (w:=wr) ((hcl _ (.inl hSb)).trans (hgs.block _ (hSl _ hSb) (by simp)))).trans hfz;have hbw:w1.heap.size+2<=w'.heap.size:=Nat.lt_of_lt_of_le (hSl _ hSb) (Nat.le_trans hgw.size hsz);refine hK.out _ _ (fun _=>k5) ?_;clear hK K;try simp only[Act.put,List.setIfInBounds_toArray,List.set_cons_zero,List.set_cons_succ]
         refine q2d (i:=10) (by kernel_rfl) rfl (fun K hK=>?_);refine step_append_lies _ (by rfl) _ _ _ (by rfl) (w1.heap.size+2) 56 i56 _ 3 56 Tryz.underlying54 hi56 hy0 hy1 hy2 rfl (by decide) (.slice ad d.length cp) d.length _ (by rfl) hownw ⟨ws.heap.size,0,none⟩ 1 1 [.int .i64 0,.slice none 0 0,.slice none 0 0] (by rfl) (by rfl) (World.news_of_block (cs:=#[.int .i64 0,.slice none 0 0,.slice none 0 0]) (t:=56) (fr:=(0,0)) hzw) (by simp[Value.oneCell']) (by omega) (by unfold maxLen;omega) (by omega) (by first|omega|(simp;omega)) w'.heap.size (by first|rfl|simp) ?_;intro g cap w2 hown2 hgrow hat hlt;obtain⟨p0,p1,p2,p3,p4,p5,p6,p7,p8,p9,p10,p11⟩:=qd4 (x:=d.length*3) (y:=d.length*3+1) (z:=d.length*3+2) rfl rfl rfl k0 fw hownw hown2 hgrow;have kne:some wr.heap.size≠(Value.slice ad d.length cp).ownBlock:=fun e=>Nat.lt_irrefl _ (hrow.lt _ e.symm).2;refine hK.out _ _ (fun _=>At5.grown k5 hgrow (fun e=>absurd (hownw.lt _ e.symm).1 (Nat.not_succ_le_self _)) kne) ?_;clear hK K;try simp only[Act.put,List.setIfInBounds_toArray]
         refine q2d (i:=11) (by kernel_rfl) rfl (fun K hK=>?_);go_simp;refine hK.out _ _ (fun h=>by simp at h) ?_;clear hK K;try simp only[Act.put,List.setIfInBounds_toArray,List.set_cons_zero,List.set_cons_succ]
         refine q2d (i:=12) (by kernel_rfl) rfl (fun K hK=>?_);go_simp;refine hK.out _ _ (fun h=>by simp at h) ?_;clear hK K;try simp only[Act.put,List.setIfInBounds_toArray,List.set_cons_zero,List.set_cons_succ]
         refine qcw (by kernel_rfl) ?_ _;go_wp2;go_roundw;case rel=>obtain⟨wa,_,he,hga,hs3⟩:=row3 (k:=kf) (t:=t') (x:=d.length*3) (y:=d.length*3+1) (z:=d.length*3+2) rfl rfl rfl hownw.1 hown2;exact⟨j+1,by omega,by go_num,_,by rw[he];exact Rws.push (t:=t') (.inl hSb) (fun j g e=>.inl (hSr j g e)) hJ' hCw hd rfl hv hgrow (hown2.lt g rfl).1 hat (hs3.lt g rfl).2 hga hs3,hrest,by rw[List.length_modify];exact hel,qj5 hlen hes⟩
         case measure=>simp[intOf];omega
      .have hcd1:(cd==0)=false:=by simp[hcd0]
       go_wp2;go_roundw;case rel=>exact⟨j+1,by omega,by go_num,es,hL2.grown (World.grownBy_alloc _ _ none),by simpa[q1e,hcd0]using hrest,hel,fun d hd=>by have:=hlen d hd;omega⟩
       case measure=>simp[intOf];omega
     .have hkd1:(kd0==3)=false:=by simp[hkd]
      go_wp2;go_roundw;case rel=>exact⟨j+1,by omega,by go_num,es,hL2.grown (World.grownBy_alloc _ _ none),by simpa[q1e,hkd]using hrest,hel,fun d hd=>by have:=hlen d hd;omega⟩
      case measure=>simp[intOf];omega
    .have hjm2:j=m:=by omega
     subst hjm2;go_wp2;go_ret2;rw[List.drop_eq_nil_of_le (by rw[hPs.out.len,<-hmp];exact Nat.le_refl _)]at hrest;simp only[q1e,sI]at hrest;exact⟨X1,w1,_,hQ1,.inr ⟨by trivial,rfl,hrest▸hL2⟩⟩
theorem qu6:PreOk env 44 (qda 13 96):=by
 intro C hC vs hp v hp' hk X w args hH hA;simp only[qda]at hk;split at hk;case isFalse=>cases hk
 rename_i hT;simp only[qbe]at hk;split at hk;case h_2=>cases hk
 rename_i v1 hg13;unfold qar at hk;split at hk;case h_2=>cases hk
 rename_i vD zs zi csD ec msD ill psD;split at hk;case h_2=>cases hk
 rename_i ms0 ps0 cs h1 h2 h3;split at hk;case isFalse=>cases hk
 rename_i hlen;have h0:=(hA.2 0 _ rfl).2;have g1:=q0y (show Rep w X.imm (.v (.int .i64 ill)) (args.getD 1 undef)from(hA.2 1 _ rfl).2);have g2:Rep w X.imm (.list psD) (args.getD 2 undef):=(hA.2 2 _ rfl).2;obtain⟨va,e0,hva,hvr⟩:=q5y (show Rep w X.imm (.agg [.list msD]) (args.getD 0 undef)from h0);have hrm:=hvr 0 _ rfl;obtain⟨sm,em,hml⟩:=q13 hrm;rw[em]at hrm;obtain⟨sl,el,hll⟩:=q13 g2;rw[el]at g2;have ha:args=#[.agg #[.slice sm.1 sm.2.1 sm.2.2],.int .i64 ill,.slice sl.1 sl.2.1 sl.2.2]:=by rw[arr3 hA.1,e0,arr1 hva,em,g1,el]
 obtain⟨ms,hms,hMat,hMrel⟩:=y1i hrm h1;obtain⟨ps,hps,hPat,hPrel⟩:=qx2 g2 h2;obtain⟨hcl,_⟩:=q3t h3;obtain⟨hml0,_⟩:=q3t h1;obtain⟨hpl0,_⟩:=q3t h2;obtain⟨hE0,hH0⟩:=hH.grown (World.grownBy_alloc w (.cells #[.slice sm.1 sm.2.1 sm.2.2] 27) none);have hA0:Ab.ArgRel (w.alloc (.cells #[.slice sm.1 sm.2.1 sm.2.2] 27)) X [.d (.agg [.list msD]),.d (.v (.int .i64 ill)),.d (.list psD)] args:=⟨hA.1,fun i u hu=>by have q:=hA.2 i u hu;refine⟨q.1,?_⟩;rcases(by have:=(List.getElem?_eq_some_iff.1 hu).1;simp at this;omega:i=0\/i=1\/i=2)with rfl|rfl|rfl<;>cases hu<;>exact hE0.rep q.2⟩;have hcall:=hC 13 _ _ _ _ hg13 X _ args hH0 hA0;rw[ha]at hcall⊢;have hne:ec≠0->v=.tup [.d (.list []),.d (.v (.int .i64 ec))]/\hp'=[]:=fun he=>by rw[if_neg he]at hk;cases hk;exact⟨rfl,rfl⟩
 have hout:ec=0->∃out0,v=.tup [.d (.list (out0.map fun l=>.list (l.map .agg))),.d (.v (.int .i64 0))]/\hp'=[]/\q1e ps0 cs (ms0.map q5b)=some out0:=fun he=>by
  rw[if_pos he]at hk;split at hk;·rename_i out0 ho;cases hk;exact⟨out0,rfl,rfl,ho⟩
  .cases hk
 obtain⟨out0,hout2⟩:∃out0,ec=0->v=.tup [.d (.list (out0.map fun l=>.list (l.map .agg))),.d (.v (.int .i64 0))]/\hp'=[]/\q1e ps0 cs (ms0.map q5b)=some out0:=by
  by_cases he:ec=0;·obtain⟨out0,h⟩:=hout he;exact⟨out0,fun _=>h⟩
  .exact⟨[],fun h=>absurd h he⟩
 refine(qsr sm.2.1 sl.2.1 csD.length sm.1 sl.1 sm.2.2 sl.2.2 ill ec zs zi vD.length ms0 ms ps0 ps cs out0 (hC 96) (fun l hl=>hT l (by simp only[qia,h1,h2,List.mem_append];exact hl)) (hml.trans hms.symm) (by rw[hml,<-hml0];exact hlen.1) (hll.trans hps.symm) (by rw[hll,<-hpl0];exact hlen.2) hcl.symm w (fun X1 w1 ac=>(∃more,X1.mu=X.mu++more)/\Ext X (w.alloc (.cells #[.slice sm.1 sm.2.1 sm.2.2] 27)) X1 w1/\HRel env X1 [] w1/\∃cc,Rep w1 X1.imm (.list csD) (.slice ac csD.length cc)) ?_ ?_ fun he=>(hout2 he).2.2).mono ?_
 .refine Calls.mono hcall ?_;rintro e w1⟨val,rfl,X1,hm1,hE1,hH1,hres⟩;obtain⟨_,_,_,vt,rfl,hvt,hvr⟩:=hres.plain rfl;obtain⟨_,q0⟩:=hvr 0 _ rfl;obtain⟨_,q1⟩:=hvr 1 _ rfl;obtain⟨_,q2⟩:=hvr 2 _ rfl;obtain⟨va',e0',hva',hvr'⟩:=q5y (show Rep w1 X1.imm (.agg [.list vD,.v (.int .i64 zs),.v (.int .i64 zi)]) (vt.getD 0 undef)from q0);obtain⟨sv,ev,hvl⟩:=q13 (hvr' 0 _ rfl);obtain⟨sc,esc,hcl2⟩:=q13 (show Rep w1 X1.imm (.list csD) (vt.getD 1 undef)from q1);have hq1:Rep w1 X1.imm (.list csD) (vt.getD 1 undef):=q1;rw[esc,hcl2]at hq1;refine⟨sv.1,sv.2.2,sc.1,sc.2.2,X1,?_,⟨hm1,hE1,hH1,_,hq1⟩,?_⟩;·rw[arr3 hvt,e0',arr3 hva',ev,q0y (hvr' 1 _ rfl),q0y (hvr' 2 _ rfl),esc,q0y (show Rep w1 X1.imm (.v (.int .i64 ec)) (vt.getD 2 undef)from q2),hvl,hcl2]
  .have hnone:X.G w.heap.size=none:=by cases hx:X.G w.heap.size with|none=>rfl|some lk=>have:=hH.gdom _ _ _ (show X.G w.heap.size=some (lk.1,lk.2)from hx);omega
   rw[cell?_of_heap (hE1.free w.heap.size (by simp) hnone).2 0];exact cell_of_row _ _ 0 _ _ _ (heap_alloc_new w _)
 .rintro X1 w1 ac⟨_,hE1,hH1,cc,hcc⟩;have hpt:∀b o u,w.cell? ⟨b,o,none⟩=some u->X.imm b o->w1.cell? ⟨b,o,none⟩=some u/\X1.imm b o:=fun b o u hc hi=>by obtain⟨c1,i1⟩:=hE0.point hc hi;exact hE1.point c1 i1
  have hup:∀d v,Rep w X.imm d v->Rep w1 X1.imm d v:=fun d v hr=>hr.mono hpt;refine⟨hH1,hMrel.imp fun a b h=>⟨h.1,h.2.up hup⟩,hPrel.imp fun a b h=>⟨h.1,h.2.1,h.2.2.up hup⟩,fun w' hw'=>⟨?_,?_,?_⟩⟩;·exact hMat w' (fun _ _=>True) fun b o u hc hi=>by obtain⟨c1,i1⟩:=hpt b o u hc hi;exact⟨hw' b o u c1 i1,trivial⟩
  .exact hPat w' (fun _ _=>True) fun b o u hc hi=>by obtain⟨c1,i1⟩:=hpt b o u hc hi;exact⟨hw' b o u c1 i1,trivial⟩
  .exact qx5 (I:=fun _ _=>True) (s:=(ac,csD.length,cc)) (hcc.mono fun b o u hc hi=>⟨hw' b o u hc hi,trivial⟩) h3
 .rintro e w2⟨X1,w1,ac,⟨⟨more,hm1⟩,hE1,hH1,_⟩,hfin⟩;have hE01:Ext X w X1 w1:=Ext.trans hH.gdom hE0 hE1;rcases hfin with⟨he,rfl,hg1⟩|⟨he,rfl,S,cur,ds,hSb,hSr,hCr,X2,hs,hr⟩;·obtain⟨rfl,rfl⟩:=hne he;obtain⟨hE2,hH2⟩:=hH1.grown hg1;exact⟨_,rfl,X1,⟨more,hm1⟩,Ext.trans hH.gdom hE01 hE2,hH2,.inl ⟨⟨rfl,rfl,(fun _ e=>by cases e),_,rfl,rfl,fun j c hj=>by
    rcases(by have:=(List.getElem?_eq_some_iff.1 hj).1;simp at this;omega:j=0\/j=1)with rfl|rfl<;>cases hj;·exact⟨rfl,.empty _ _⟩
    .exact⟨rfl,.v _ rfl⟩⟩,rfl⟩⟩
  .obtain⟨rfl,rfl,hpl⟩:=hout2 he;have himm:∀c,S c->∀o,Cx.imm {X2 with amb:=X1.amb} c o:=fun c hc o=>by obtain⟨q1,_,q3,_⟩:=hs.own c hc;exact⟨hH1.amb c o q1,fun l k e=>by rw[show X2.G c=none from q3]at e;cases e⟩
   have hr2:All2 (All2 (RepT w2 (Cx.imm {X2 with amb:=X1.amb}))) out0 ds:=hr.imp fun _ _ h=>h.imp fun _ _ h=>h.up fun d v hr=>hr.mono fun b o u hc hi=>⟨hc,hs.amb b o hi.1,hi.2⟩;obtain⟨more2,hm2⟩:=hs.mu;have q:=hs.rel;refine⟨_,rfl,{X2 with amb:=X1.amb},⟨more++more2,by show X2.mu=_;rw[hm2,hm1,List.append_assoc]⟩,Ext.trans hH.gdom hE01 hs.ext,⟨fun t=>trivial,q.bound,q.mu,fun o cs hcs=>by simp at hcs,q.gdom,fun b o hge=>hH1.amb b o (Nat.le_trans hs.ext.size hge),fun b l k hk o=>hs.amb b o (q.oamb b l k hk o),(fun g cs hg=>by cases hg),q.defers⟩,.inl ⟨⟨rfl,rfl,(fun _ e=>by cases e),_,rfl,rfl,fun j c hj=>?_⟩,rfl⟩⟩;rcases(by have:=(List.getElem?_eq_some_iff.1 hj).1;simp at this;omega:j=0\/j=1)with rfl|rfl<;>cases hj;·exact⟨rfl,qxa (himm _ hSb) (fun j g e=>himm g (hSr j g e)) hCr hr2 _ (by rw[<-hr.len,qa8 hpl,List.length_map,hml0,hml])⟩
   .exact⟨rfl,.v _ rfl⟩
end Go.Proofs.YtdmfjabikomgiaaGreat
namespace Go.Proofs.YtdmfjabikomgiaaGreat
open Go Go.Ab
theorem yim:∀f m,env.lib f=some m->LibOk env f m:=by
 intro f m h;have h':look1 none y32 f=some m:=h;simp only[y32,look1]at h';by_cases h00:44=f;·rw[if_pos h00]at h';cases h';rw[<-h00];exact fun vs hp v hp' h=>by cases h
 rw[if_neg h00]at h';by_cases h0:45=f;·rw[if_pos h0]at h';cases h';rw[<-h0];exact fun vs hp v hp' h=>by cases h
 rw[if_neg h0]at h';by_cases h1:148=f;·rw[if_pos h1]at h';cases h';rw[<-h1];exact qlq
 rw[if_neg h1]at h';by_cases h2:207=f;·rw[if_pos h2]at h';cases h';rw[<-h2];exact qzo
 rw[if_neg h2]at h';by_cases h3:242=f;·rw[if_pos h3]at h';cases h';rw[<-h3];exact qyo
 rw[if_neg h3]at h';by_cases h4:253=f;·rw[if_pos h4]at h';cases h';rw[<-h4];exact y7u
 rw[if_neg h4]at h';by_cases h5:254=f;·rw[if_pos h5]at h';cases h';rw[<-h5];exact qv9
 rw[if_neg h5]at h';cases h'
theorem yg8:∀f p,env.pre f=some p->PreOk env f p:=by
 intro f p h;have h':look1 none [(44,some (qda 13 96)),(45,some (qbe 43))] f=some p:=h;simp only[look1]at h';by_cases h0:44=f;·rw[if_pos h0]at h';cases h';rw[<-h0];exact qu6
 rw[if_neg h0]at h';by_cases h1:45=f;·rw[if_pos h1]at h';cases h';rw[<-h1];exact y0w qt9
 rw[if_neg h1]at h';cases h'
theorem y6a:qon env:=⟨yim,yg8⟩
end Go.Proofs.YtdmfjabikomgiaaGreat
