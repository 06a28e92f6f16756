/- Laws of the printed functions. -/
import Derived.Test.YtklhcnnpgkkjcaaGreatDoorTRSegB
import Derived.Test.YtklhcnnpgkkjcaaGreatDoorMachC
import Derived.Maps.OwnSet
import Derived.Maps.OwnOps
import Derived.Maps.Own
import Derived.WalkKit
import Derived.Test.YtklhcnnpgkkjcaaGreatDoorTREnv
import Derived.Test.YtklhcnnpgkkjcaaGreatDoorTRDf
import Derived.Lib.AppendZeros
import Derived.OwnWalk
import Derived.Deep.RegionHeld3
import Derived.Shelf.RegionOpenPlain
import Derived.Lib.AppendZerosOnto
import Derived.Shelf.Strconv.Itoa4
import Derived.OwnWalkIn
import Derived.TacticsInMore
import Derived.LoopNIn
import Derived.LoopIn
import Derived.RangeFuncBox
import Derived.RangeFuncLeaves
import Derived.Shelf.SlIterI.Nil
import Derived.Shelf.SortM.Plain
import Derived.Shelf.SortM.SortNone
import Derived.Shelf.SlSortCmp.NoneTotal
import Derived.Shelf.Strings.Search3
import Derived.Lib.SmallJoins
import Derived.Shelf.Strconv.Atoi
namespace Go.Proofs.YtklhcnnpgkkjcaaGreatDoor
open Go Go.Ab
set_option maxRecDepth 1000000
theorem ydb:(mir 3000).z60=some true:=by decide+kernel
theorem y9j:z60=some true:=(y80 3000).z60 _ ydb
end Go.Proofs.YtklhcnnpgkkjcaaGreatDoor
namespace Go.Proofs.YtklhcnnpgkkjcaaGreatDoor
open Go Go.Ab Go.RowKit Go.Maps
variable {k : Nat} {w wr : World}
theorem qxf:Keyed Tryz.prog 3:=int_keyed Tryz.underlying3
theorem y2e(w:World):(zeroValue 3).run Tryz.prog w=.ok (.int .i64 0) w:=by kernel_rfl
structure ConsD(zs:List (Int×Int))(k:Nat)(D:DataW Unit):Prop where
 map:IsMap D
 has:∀a,Maps.has D (.int .i64 a)=true↔∃p∈zs.take k,p.1=a
 at':∀p∈zs.take k,D.atKey (.int .i64 p.1) (.lit (.int .i64 0))=.lit (.int .i64 p.2)
theorem q7n(p:Int×Int):∀l:List (Int×Int),q3m (l++[p])=(q3m l&&l.all fun y=>!(decide (y.1=p.1)&&!decide (y.2=p.2)))|[]=>rfl|x::r=>by simp only[List.cons_append,q3m,q7n p r,List.all_append,List.all_cons,List.all_nil,Bool.and_true];cases r.all (fun y=>!(decide (x.1=y.1)&&!decide (x.2=y.2)))<;>cases q3m r<;>cases(!(decide (x.1=p.1)&&!decide (x.2=p.2)))<;>cases(r.all fun y=>!(decide (y.1=p.1)&&!decide (y.2=p.2)))<;>rfl
theorem qn9:∀(l r:List (Int×Int)),q3m (l++r)=true->q3m l=true|[],_,_=>rfl|x::l,r,h=>by simp only[List.cons_append,q3m,List.all_append,aT]at h⊢;exact⟨h.1.1,qn9 l r h.2⟩
theorem qbt{zs:List (Int×Int)}{p:Int×Int}(h:zs[k]?=some p):zs.take (k+1)=zs.take k++[p]:=by rw[List.take_add_one,h];rfl
theorem ConsD.put{zs:List (Int×Int)}{D:DataW Unit}{p:Int×Int}(h:ConsD zs k D)(hp:zs[k]?=some p)(hsame:∀q∈zs.take k,q.1=p.1->q.2=p.2):ConsD zs (k+1) (D.put (.int .i64 p.1) (.lit (.int .i64 p.2))):=by
 have hk:WideAt.IsKeyLit (.int .i64 p.1):=by first|trivial|exact .inl ⟨_,_,rfl⟩|simp[WideAt.IsKeyLit]
 refine⟨h.map.put _ _,fun a=>?_,fun q hq=>?_⟩
 .rw[qbt hp];by_cases he:a=p.1;·subst he;simp only[has_put_same h.map hk];exact⟨fun _=>⟨p,by simp,rfl⟩,fun _=>trivial⟩
  .rw[has_put_other (by intro e;injection e with _ e;exact he e),h.has a];constructor;·rintro⟨q,h1,h2⟩;exact⟨q,by simp[h1],h2⟩
   .rintro⟨q,h1,h2⟩;rcases List.mem_append.1 h1 with h1|h1;·exact⟨q,h1,h2⟩
    .simp at h1;subst h1;exact absurd h2.symm he
 .rw[qbt hp]at hq;by_cases he:q.1=p.1
  .rw[he,atKey_put_same h.map hk];rcases List.mem_append.1 hq with h1|h1;·rw[hsame q h1 he]
   .simp at h1;rw[h1]
  .rw[atKey_put_other (by intro e;injection e with _ e;exact he e)];rcases List.mem_append.1 hq with h1|h1;·exact h.at' q h1
   .simp at h1;subst h1;exact absurd rfl he
theorem qvj{w':World}(hg:wr.grownBy w' none)(h:Below w.heap.size w wr):w.grownBy w' none:=⟨hg.os.trans h.os,hg.tape.trans h.tape,hg.output.trans h.output,Nat.le_trans h.size hg.size,fun j hj _=>(hg.block j (Nat.lt_of_lt_of_le hj h.size) (by simp)).trans (h.block j hj)⟩
theorem qnh{w1:World}{o:Obj}(h:Below w.heap.size w wr)(hg:(wr.alloc o).grownBy w1 (some w.heap.size)):Below w.heap.size w w1:=(h.alloc h.size o).grown hg (by simpa using Nat.le_succ_of_le h.size) (fun j hj=>by cases hj;exact Nat.le_refl _)
set_option maxRecDepth 100000 in
theorem y6b(b off cap:Nat)(zs:List (Int×Int))(w:World)(hreach:zs.length<=1073741824)(hc:∀j p,zs[j]?=some p->w.cell? ⟨b,off+j*2,none⟩=some (.int .i64 p.1)/\w.cell? ⟨b,off+j*2+1,none⟩=some (.int .i64 p.2))(hw:∀p∈zs,(Lit.int .i64 p.1).wf=true/\(Lit.int .i64 p.2).wf=true):Calls Tryz.prog 156 #[.slice (some ⟨b,off,none⟩) zs.length cap] w fun e w'=>e=.returned (.bool (q3m zs))/\w.grownBy w' none:=by
 have hmm:=@run_makeMap Tryz.prog;go_enter Tryz.func156,Tryz.ntmps156;go_wp2;go_loopw [11](fun i wr=>∃(k:Nat)(D:DataW Unit),k<=zs.length/\i=.int .i64 k/\wr.ownsMap Tryz.prog 3 (plainElem Tryz.prog 3) w.heap.size k D/\Below w.heap.size w wr/\ConsD zs k D/\q3m (zs.take k)=true)(fun i _=>zs.length-(intOf i).toNat);case atStart=>exact⟨0,.map [],Nat.zero_le _,rfl,World.ownsMap_made _ _ _ _,(Below.refl _ _).alloc (Nat.le_refl _) _,⟨isMap_empty,fun a=>by simp[Maps.has_eq],fun p hp=>by simp at hp⟩,rfl⟩
 case round=>
  obtain⟨k,D,hk,rfl,hown,hnx,hD,hok⟩:=hrel;have hk2:k<zs.length->∃p,zs[k]?=some p/\wr.cell? ⟨b,off+k*2,none⟩=some (.int .i64 p.1)/\wr.cell? ⟨b,off+k*2+1,none⟩=some (.int .i64 p.2):=fun hlt=>by
   have hlz:k<zs.length:=by omega
   have hb:b<w.heap.size:=World.block_lt_of_cell? w ⟨b,off+k*2,none⟩ (hc k zs[k] (by simp[hlz])).1;exact⟨zs[k],by simp[hlz],(hnx.cell (by exact hb)).trans (hc k zs[k] (by simp[hlz])).1,(hnx.cell (by exact hb)).trans (hc k zs[k] (by simp[hlz])).2⟩
  by_cases hlt:k<zs.length
  .obtain⟨p,hp,c0,c1⟩:=hk2 hlt;have c0':wr.cell? ⟨b,off+k*2+0,none⟩=some (.int .i64 p.1):=c0;have hkey:keyOf Tryz.prog 3 (.int .i64 p.1)=some (.int .i64 p.1):=keyOf_int_mk Tryz.underlying3 (hw p (List.mem_of_getElem? hp)).1;go_wp2_with(first|(at_lookup;refine wpList_lookup_own_ok_int _ rfl _ _ 218 rfl 3 3 .i64 qxf Tryz.underlying218 Tryz.underlying3 (y2e _) w.heap.size k D rfl (hown.alloc _) _ _ rfl hkey ?_;intro c hat hwc)|(at_mapUpdate;refine wpList_mapUpdate_own _ rfl _ _ _ 218 rfl 3 3 qxf Tryz.underlying218 _ w.heap.size k _ rfl (hown.alloc _) (by unfold maxLen;omega) _ _ _ rfl rfl hkey _ [] (plainElem_int Tryz.underlying3 (hw p (List.mem_of_getElem? hp)).2) ?_;intro w1 hown1 hgrow1)|go_in)
   .rename_i hhas hne;go_ret;obtain⟨q,hq,hq1⟩:=(hD.has p.1).1 hhas;have hq2:=hD.at' q hq;rw[hq1,hat]at hq2;have hcq:c=q.2:=by injection hq2 with e;injection e
    have hf:q3m zs=false:=by cases hz2:q3m zs with|false=>rfl|true=>
      have h3:q3m (zs.take (k+1))=true:=qn9 _ (zs.drop (k+1)) (by rw[List.take_append_drop];exact hz2);rw[qbt hp,q7n,aT,List.all_eq_true]at h3;have h4:=h3.2 q hq;have h5:c≠p.2:=by simpa using hne
      simp[hq1,<-hcq,h5]at h4
    rw[hf];exact⟨rfl,qvj (World.grownBy_alloc _ _ _) hnx⟩
   .rename_i hhas hne;have hce:c=p.2:=by simpa using hne
    go_roundw;case rel=>exact⟨k+1,_,by omega,by go_num,hown1,qnh hnx hgrow1,hD.put hp (fun q hq h1=>by
      have hq2:=hD.at' q hq;rw[h1,hat]at hq2;have hcq:c=q.2:=by injection hq2 with e;injection e
      rw[<-hcq,hce]),by
     rw[qbt hp,q7n,hok,tA',List.all_eq_true];intro q hq;by_cases h1:q.1=p.1
     .have hq2:=hD.at' q hq;rw[h1,hat]at hq2;have hcq:c=q.2:=by injection hq2 with e;injection e
      simp[<-hcq,hce]
     .simp[h1]⟩
    case measure=>simp[intOf];omega
   .rename_i hhas;have hno:∀q∈zs.take k,q.1≠p.1:=fun q hq h1=>hhas ((hD.has p.1).2 ⟨q,hq,h1⟩);go_roundw;case rel=>exact⟨k+1,_,by omega,by go_num,hown1,qnh hnx hgrow1,hD.put hp (fun q hq h1=>absurd h1 (hno q hq)),by rw[qbt hp,q7n,hok,tA',List.all_eq_true];intro q hq;simp[hno q hq]⟩
    case measure=>simp[intOf];omega
  .go_wp2;go_ret;have hk3:zs.take k=zs:=List.take_of_length_le (by omega);rw[hk3]at hok;rw[hok];exact⟨rfl,hnx.os,hnx.tape,hnx.output,hnx.size,fun j hj _=>hnx.block j hj⟩
theorem qtk(a:Option Addr)(cap:Nat)(w:World):Calls Tryz.prog 156 #[.slice a 0 cap] w fun e w'=>e=.returned (.bool true)/\w.grownBy w' none:=by have hmm:=@run_makeMap Tryz.prog;go_enter Tryz.func156,Tryz.ntmps156;go_wp2;refine wp_loop_rounds 1 ?_;rw[rounds_succ];go_wp2;go_ret;exact⟨rfl,World.grownBy_alloc _ _ _⟩
theorem qbm:∀{xs:List D}{l:List (Int×Int)},q8a xs=some l->xs=l.map (fun p=>D.agg [.v (.int .i64 p.1),.v (.int .i64 p.2)])/\∀p∈l,(Lit.int .i64 p.1).wf=true/\(Lit.int .i64 p.2).wf=true
 |[],l,h=>by simp only[q8a,sI]at h;subst h;exact⟨rfl,fun p hp=>by cases hp⟩|x::r,l,h=>by
  unfold q8a at h;split at h;·rename_i he;cases he
  .rename_i a b r' he;cases he;split at h
   .rename_i hc;simp only[Option.map_eq_some_iff]at h;obtain⟨l',h1,rfl⟩:=h;obtain⟨g1,g2⟩:=qbm h1;refine⟨by rw[g1];rfl,fun p hp=>?_⟩;rcases List.mem_cons.1 hp with rfl|hp;·exact⟨WalkArith.wf_i64 (by omega),WalkArith.wf_i64 (by omega)⟩
    .exact g2 p hp
   .cases h
  .cases h
theorem qwi{X:Cx}{v:AV}{args:Array Value}(h:Ab.ArgRel w X [v] args):args=#[args.getD 0 undef]/\RVl w X (.res 0) v (args.getD 0 undef):=by
 refine⟨?_,(h.2 0 v rfl).2⟩;apply Array.ext;·exact h.1
 .intro i h1 h2;have hi:i=0:=by simp at h2;omega
  subst hi;simp[Array.getD_eq_getD_getElem?,h1]
theorem qox:LibOk env 156 q47:=by
 intro vs hp v hp' hm X w args hH hA;unfold q47 at hm;split at hm
 .rename_i xs;split at hm
  .rename_i l hl;split at hm
   .rename_i hlen;simp only[sI,pI]at hm;obtain⟨rfl,rfl⟩:=hm;obtain⟨hx,hwf⟩:=qbm hl;obtain⟨ha,hr⟩:=qwi hA;rw[ha];have hr':Rep w X.imm (.list xs) (args.getD 0 undef):=hr;generalize args.getD 0 undef=u at hr';have fin:∀(e:Ending)(w1:World),e=.returned (.bool (q3m l))/\w.grownBy w1 none->∃val,e=.returned val/\∃X1,(∃more,X1.mu=X.mu++more)/\Ext X w X1 w1/\HRel env X1 [] w1/\ResRel w1 X1 (.d (.v (.bool (q3m l)))) val:=fun e w1 h=>⟨_,h.1,qgp hH h.2 (.v _ rfl)⟩
    cases hr' with|empty a c=>
     have:l=[]:=by cases l with|nil=>rfl|cons p l=>cases hx
     subst this;exact(qtk a c w).mono fun e w1 h=>fin e w1 h|list _ b off cap sz V hs hc hh hrr=>
     subst hx;by_cases hne:l=[];·subst hne;exact(qtk _ cap w).mono fun e w1 h=>fin e w1 h
     .have hsz:sz=2:=by obtain⟨p,hp⟩:=List.exists_mem_of_ne_nil _ hne;rw[<-hs _ (List.mem_map.2 ⟨p,hp,rfl⟩)];rfl
      subst hsz;have hlm:(l.map fun p=>D.agg [.v (.int .i64 p.1),.v (.int .i64 p.2)]).length=l.length:=by simp
      rw[hlm];refine(y6b b off cap l w (by unfold q0a at hlen;exact hlen) (fun j p hj=>?_) hwf).mono fun e w1 h=>fin e w1 h;have hj':(l.map fun p=>D.agg [.v (.int .i64 p.1),.v (.int .i64 p.2)])[j]?=some (D.agg [.v (.int .i64 p.1),.v (.int .i64 p.2)]):=by rw[List.getElem?_map,hj];rfl
      have k0:=hh j _ hj' 0 _ rfl;have k1:=hh j _ hj' 1 _ rfl;have r0:=q0t (hrr j _ hj' 0 _ rfl);have r1:=q0t (hrr j _ hj' 1 _ rfl);rw[r0]at k0;rw[r1]at k1;exact⟨k0.1,k1.1⟩
   .cases hm
  .cases hm
 .cases hm
end Go.Proofs.YtklhcnnpgkkjcaaGreatDoor
namespace Go.Proofs.YtklhcnnpgkkjcaaGreatDoor
open Go Go.Ab Go.RowKit
set_option maxRecDepth 100000 in
theorem quy(w:World):Calls Tryz.prog 266 #[.slice none 0 0,.int .i64 0] w fun e w'=>e=.returned (.slice none 0 0)/\w'=w:=by go_enter Tryz.func266,Tryz.ntmps266;go_wp2;go_ret;exact⟨rfl,rfl⟩
set_option maxRecDepth 100000 in
theorem y41(n:Nat)(h0:0<n)(hn:n<=1073741824)(w:World):Calls Tryz.prog 266 #[.slice none 0 0,.int .i64 n] w fun e w'=>∃v,e=.returned v/\w.grownBy w' none/\w'.ownsRow w.heap.size 73 2 v 0 []:=by obtain⟨i,hi,hz0,hz1,hz2⟩:∃i,Tryz.prog.info? 73=some i/\i.zero=some (.agg #[.int .i64 0,.int .i64 0])/\i.size=2/\i.bytes=16:=⟨_,rfl,rfl,rfl,rfl⟩;go_enter Tryz.func266,Tryz.ntmps266;go_wp2_with(first|(at_builtin;refine Go.Lib.wpList_append_run _ rfl _ _ _ _ rfl _ _ rfl rfl _ _ (Go.Lib.run_append_nil_zeros (P:=Tryz.prog) _ 80 3 _ 73 i _ .i64 .i64 Tryz.underlying80 Tryz.underlying3 hi hz0 n h0 (by omega) (by omega) (by rw[hz2];omega)) ?_)|go_in);go_ret;have hge:=grownCap_ge w n 0 73;refine⟨_,rfl,⟨rfl,rfl,rfl,by simp,fun k hk _=>heap_alloc_old w _ hk⟩,by simp,.inr ⟨_,_,_,rfl,Nat.le_refl _,heap_alloc_new _ _,Nat.zero_le _,grownCap_le_maxLen _ _ _ _ (by unfold maxLen;omega),?_,by simp⟩⟩;simp only[Array.size_append,size_zeroCells];show n*2+(grownCap w n 0 73-n)*2=_;omega
set_option maxRecDepth 100000 in
theorem y0m(b off cap:Nat)(vs:List (Option Addr×Nat×Nat))(rows:List (List Value))(S:Nat->Nat)(w:World)(hl:rows.length=vs.length)(hS0:S 0=0)(hS:∀(j:Nat)p,vs[j]?=some p->S (j+1)=S j+p.2.1)(hlen:vs.length<=1073741824)(hSm:∀k,k<=vs.length->S k<=S vs.length)(hSt:S vs.length<=1073741824)(hc:∀(j:Nat)p,vs[j]?=some p->w.cell? ⟨b,off+j,none⟩=some (.slice p.1 p.2.1 p.2.2))(hr:∀(j:Nat)p(r:List Value),vs[j]?=some p->rows[j]?=some r->r.length=p.2.1*2/\(∀u∈r,u.oneCell'=true)/\(0<p.2.1->∃a:Addr,p.1=some a/\∀(k:Nat)u,r[k]?=some u->w.cell? (a.add k)=some u)):Calls Tryz.prog 251 #[.slice (some ⟨b,off,none⟩) vs.length cap] w fun e w'=>∃v,e=.returned v/\w.grownBy w' none/\w'.ownsRow w.heap.size 73 2 v (S vs.length) rows.flatten/\(S vs.length=0->v=.slice none 0 0):=by
 have hG:Calls Tryz.prog 266 #[.slice none 0 0,.int .i64 (S vs.length)] w fun e w'=>∃v,e=.returned v/\w.grownBy w' none/\w'.ownsRow w.heap.size 73 2 v 0 []/\(S vs.length=0->v=.slice none 0 0):=by
  by_cases h0:S vs.length=0;·rw[h0];refine(quy w).mono ?_;rintro e w'⟨rfl,rfl⟩;exact⟨_,rfl,⟨rfl,rfl,rfl,Nat.le_refl _,fun _ _ _=>rfl⟩,World.ownsRow_nil _ _ _ _,fun _=>rfl⟩
  .refine(y41 _ (by omega) hSt w).mono ?_;rintro e w'⟨v,rfl,h1,h2⟩;exact⟨v,rfl,h1,h2,fun e=>absurd e h0⟩
 obtain⟨i,hi,hz0,hz1,hz2⟩:∃i,Tryz.prog.info? 73=some i/\i.zero=some (.agg #[.int .i64 0,.int .i64 0])/\i.size=2/\i.bytes=16:=⟨_,rfl,rfl,rfl,rfl⟩;go_enter Tryz.func251,Tryz.ntmps251;go_wp2;go_loopw [3,11](fun s i wr=>∃k:Nat,k<=vs.length/\i=.int .i64 k/\s=.int .i64 (S k)/\w=wr)(fun _ i _=>vs.length-(intOf i).toNat);case atStart=>exact⟨0,Nat.zero_le _,rfl,by rw[hS0];rfl,rfl⟩
 case round=>
  obtain⟨k,hk,rfl,rfl,rfl⟩:=hrel;by_cases hlt:k<vs.length
  .have hp:vs[k]?=some vs[k]:=by simp[hlt]
   have c0:=hc k _ hp;have hs:=hS k _ hp;have hb1:=hSm (k+1) hlt;have hb0:=hSm k hk;go_wp2;go_roundw;case rel=>exact⟨k+1,by omega,by go_num,by rw[hs];go_num,trivial⟩
   case measure=>simp[intOf];omega
  .have hke:k=vs.length:=by omega
   subst hke;go_wp2_with(first|(go_at_call 266;refine hG.mono ?_;rintro e w1⟨v,rfl,hg1,ho1,hn1⟩)|go_in);go_loopw [6,27](fun v i wr=>∃k:Nat,k<=vs.length/\i=.int .i64 k/\w.grownBy wr none/\wr.ownsRow w.heap.size 73 2 v (S k) (rows.take k).flatten/\(S vs.length=0->v=.slice none 0 0))(fun _ i _=>vs.length-(intOf i).toNat);case atStart=>exact⟨0,Nat.zero_le _,rfl,hg1,by rw[hS0];exact ho1,hn1⟩
   case round=>
    obtain⟨k,hk,rfl,hgr,hor,hnr⟩:=hrel;by_cases hlt:k<vs.length
    .have hp:vs[k]?=some vs[k]:=by simp[hlt]
     have hq:rows[k]?=some rows[k]:=by simp[hl▸hlt]
     have c0:=hgr.cell (hc k _ hp) (by simp);have hs:=hS k _ hp;have hb1:=hSm (k+1) hlt;have hb0:=hSm k hk;obtain⟨r1,r2,r3⟩:=hr k _ _ hp hq;have hflat:(rows.take (k+1)).flatten=(rows.take k).flatten++rows[k]:=by rw[List.take_add_one,hq,List.flatten_append];simp
     have hsh:∃ad c,u6=.slice ad (S k) c/\S k<=c:=by
      rcases hor.2 with⟨h1,h2⟩|⟨g,cp,cur,h1,_,_,h2,_⟩;·exact⟨none,0,by rw[h1,h2],by omega⟩
      .exact⟨_,cp,h1,h2⟩
     by_cases hm:vs[k].2.1=0
     .obtain⟨ad,c,hv,hle⟩:=hsh;have hrk:rows[k]=[]:=List.length_eq_zero_iff.1 (by rw[r1,hm]);go_wp2_with(first|(at_builtin;refine Go.Lib.wpList_append_run _ rfl _ _ _ _ rfl _ _ rfl rfl _ _ (qxp Tryz.underlying80 hi u6 hv (m:=0) rfl hle) ?_)|go_in);go_roundw;case rel=>
       refine⟨k+1,by omega,by go_num,hgr,?_,fun h0=>?_⟩;·rw[hs,hm,Nat.add_zero,hflat,hrk,List.append_nil];first|exact hor|(rw[<-hv];exact hor)
       .first|exact hnr h0|(rw[<-hv];exact hnr h0)
      case measure=>simp[intOf];omega
     .obtain⟨a,ha,hcells⟩:=r3 (by omega);go_wp2_with(first|(at_builtin;refine wpList_append_own _ rfl _ _ 80 rfl w.heap.size 73 i _ 2 16 Tryz.underlying80 hi hz0 hz1 hz2 rfl (by decide) u6 (S k) _ rfl hor a vs[k].2.1 vs[k].2.2 rows[k] (by rw[<-ha];rfl) r1 (fun j u hj=>hgr.cell (hcells j u hj) (by simp)) r2 (by unfold maxLen;omega) (by omega) hgr.size ?_;intro v2 w2 ho2 hg2 hn2)|go_in);go_roundw;case rel=>refine⟨k+1,by omega,by go_num,⟨hg2.os.trans hgr.os,hg2.tape.trans hgr.tape,hg2.output.trans hgr.output,Nat.le_trans hgr.size hg2.size,fun j hj _=>(hg2.block j (Nat.lt_of_lt_of_le hj hgr.size) (fun e=>by have:=(hor.lt j e.symm).1;omega)).trans (hgr.block j hj (by simp))⟩,by rw[hs,hflat];exact ho2,fun h0=>by omega⟩
      case measure=>simp[intOf];omega
    .have hke:k=vs.length:=by omega
     subst hke;go_wp2;go_ret;exact⟨_,rfl,hgr,by rw[List.take_of_length_le (by omega)]at hor;exact hor,hnr⟩
theorem qjb:∀{xss:List D}{ls:List (List D)},qf7 xss=some ls->xss=ls.map D.list
 |[],ls,h=>by simp only[qf7,sI]at h;subst h;rfl|x::r,ls,h=>by
  unfold qf7 at h;split at h;·rename_i he;cases he
  .rename_i xs r' he;cases he;simp only[Option.map_eq_some_iff]at h;obtain⟨l',h1,rfl⟩:=h;rw[qjb h1];rfl
  .cases h
theorem q6g{sz:Nat}{x:D}(h:q5q sz x=true):x.cells.length=sz/\∀c∈x.cells,c.isAgg=false:=by simp only[q5q,aT,dT',List.all_eq_true,Bool.not_eq_true']at h;exact h
theorem y39{w:World}{I:Nat->Nat->Prop}{sz:Nat}(hz:0<sz):∀(ls:List (List D))(V:Nat->Value),(∀(j:Nat)l,ls[j]?=some l->Rep w I (.list l) (V j))->(∀l∈ls,∀x∈l,x.cells.length=sz/\∀c∈x.cells,c.isAgg=false)->∃(vs:List (Option Addr×Nat×Nat))(rows:List (List Value)),vs.length=ls.length/\rows.length=ls.length/\(∀(j:Nat)p,vs[j]?=some p->V j=.slice p.1 p.2.1 p.2.2)/\vs.map (·.2.1)=ls.map List.length/\(∀(j:Nat)p(r:List Value),vs[j]?=some p->rows[j]?=some r->r.length=p.2.1*sz/\(∀u∈r,u.oneCell'=true)/\(0<p.2.1->∃a:Addr,p.1=some a/\∀(k:Nat)u,r[k]?=some u->w.cell? (a.add k)=some u))/\RowRep w I sz ls.flatten rows.flatten
 |[],V,_,_=>⟨[],[],rfl,rfl,fun j p h=>by simp at h,rfl,fun j p r h=>by simp at h,RowRep.nil⟩|l::ls,V,hV,hs=>by
  obtain⟨vs,rows,h1,h2,h3,h4,h5,h6⟩:=y39 (w:=w) (I:=I) hz ls (fun j=>V (j+1)) (fun j l' hj=>hV (j+1) l' (by simpa using hj)) (fun l' hl'=>hs l' (by simp[hl']));obtain⟨ad,cap,row,g1,g2,g3,g4⟩:=qih (hV 0 l rfl) (hs l (by simp)) hz;refine⟨(ad,l.length,cap)::vs,row::rows,by simp[h1],by simp[h2],fun j p hj=>?_,by simp[h4],fun j p r hj hr=>?_,?_⟩;·cases j with|zero=>simp at hj;subst hj;exact g1|succ j=>exact h3 j p (by simpa using hj)
  .cases j with|zero=>simp at hj hr;subst hj;subst hr;refine⟨g2.1,g3,fun hpos=>?_⟩;obtain⟨b,o,e1,e2⟩:=g4 (by intro e;subst e;simp at hpos);exact⟨_,e1,fun k u hk=>by rw[q39];exact e2 k u hk⟩|succ j=>exact h5 j p r (by simpa using hj) (by simpa using hr)
  .rw[List.flatten_cons,List.flatten_cons];exact g2.append h6
set_option maxRecDepth 100000 in
theorem qx1(a:Option Addr)(cap:Nat)(w:World):Calls Tryz.prog 251 #[.slice a 0 cap] w fun e w'=>e=.returned (.slice none 0 0)/\w'=w:=by have hG:=quy w;go_enter Tryz.func251,Tryz.ntmps251;go_wp2;refine wp_loop_rounds 1 ?_;rw[rounds_succ];go_wp2_with(first|(go_at_call 266;refine hG.mono ?_;rintro e w1⟨rfl,rfl⟩)|go_in);refine wp_loop_rounds 1 ?_;rw[rounds_succ];go_wp2;go_ret;exact⟨rfl,rfl⟩
theorem y0e:LibOk env 251 (q8n 2):=by
 intro vs hp v hp' hm X w args hH hA;unfold q8n at hm;split at hm
 .rename_i xss;split at hm
  .rename_i ls hl;split at hm
   .rename_i hcnd;obtain⟨hlen,hln2,hcell⟩:=hcnd;simp only[sI,pI]at hm;obtain⟨rfl,rfl⟩:=hm;have hx:=qjb hl;obtain⟨ha,hr⟩:=qwi hA;rw[ha];have hr':Rep w X.imm (.list xss) (args.getD 0 undef):=hr;generalize args.getD 0 undef=u at hr';have hs:∀l∈ls,∀x∈l,x.cells.length=2/\∀c∈x.cells,c.isAgg=false:=fun l hl x hx=>q6g (List.all_eq_true.1 hcell x (List.mem_flatten.2 ⟨l,hl,hx⟩));have none:∀a c,ls=[]->Calls env.P 251 #[.slice a 0 c] w fun e w1=>∃val,e=.returned val/\∃X1,(∃more,X1.mu=X.mu++more)/\Ext X w X1 w1/\HRel env X1 [[.own ls.flatten false]] w1/\ResRel w1 X1 (.ref 0) val:=by intro a c he;subst he;refine(qx1 a c w).mono ?_;rintro e w1⟨rfl,rfl⟩;exact⟨_,rfl,y54 (sz:=2) (e:=73) (row:=[]) hH ⟨rfl,rfl,rfl,Nat.le_refl _,fun _ _ _=>rfl⟩ RowRep.nil (by decide) (World.ownsRow_nil _ _ _ _) (fun _=>⟨_,rfl⟩)⟩
    cases hr' with
    |empty a c=>refine none a c ?_;cases ls with|nil=>rfl|cons l r=>cases hx
    |list _ b off cap sz V hs0 hc0 hh hrr=>
     by_cases hne:ls=[];·subst hx;subst hne;exact none _ cap rfl
     .subst hx;have hsz:sz=1:=by obtain⟨l,hl⟩:=List.exists_mem_of_ne_nil _ hne;rw[<-hs0 _ (List.mem_map.2 ⟨l,hl,rfl⟩)];rfl
      subst hsz;have hget:∀(j:Nat)l,ls[j]?=some l->(ls.map D.list)[j]?=some (D.list l):=fun j l h=>by rw[List.getElem?_map,h];rfl
      obtain⟨vs,rows,h1,h2,h3,h4,h5,h6⟩:=y39 (w:=w) (I:=X.imm) (sz:=2) (by decide) ls (fun j=>V j 0) (fun j l hj=>hrr j _ (hget j l hj) 0 _ rfl) hs;have hL:(ls.map D.list).length=vs.length:=by rw[List.length_map,h1]
      rw[hL];let S:Nat->Nat:=fun k=>((vs.take k).map (·.2.1)).sum;have hSall:S vs.length=ls.flatten.length:=by show((vs.take vs.length).map (·.2.1)).sum=_;rw[List.take_length,h4,List.length_flatten]
      refine(y0m b off cap vs rows S w (by rw[h2,h1]) rfl (fun j p hj=>?_) (by rw[<-hL];unfold q0a at hln2;exact hln2) (fun k hk=>?_) (by rw[hSall];unfold q0a at hlen;exact hlen) (fun j p hj=>?_) h5).mono ?_;·show((vs.take (j+1)).map (·.2.1)).sum=((vs.take j).map (·.2.1)).sum+_;rw[List.take_add_one,hj];simp
      .show((vs.take k).map (·.2.1)).sum<=((vs.take vs.length).map (·.2.1)).sum;rw[List.take_length];conv=>rhs;rw[<-List.take_append_drop k vs,List.map_append,List.sum_append]
       omega
      .have hjl:j<ls.length:=by rw[<-h1];exact(List.getElem?_eq_some_iff.1 hj).1
       have:=(hh j _ (hget j ls[j] (by simp[hjl])) 0 _ rfl).1;rw[h3 j p hj]at this;simpa using this
      .rintro e w1⟨val,rfl,hg,ho,hn⟩;refine⟨val,rfl,y54 (sz:=2) hH hg h6 (by decide) (by rw[<-hSall];exact ho) (fun he=>⟨Option.none,hn (by rw[hSall,he];rfl)⟩)⟩
   .cases hm
  .cases hm
 .cases hm
variable {w w' wr : World} {b e k n size : Nat} {cur' : Array Value}
structure Al(w w':World):Prop where
 heap:w'.heap=w.heap
 os:w'.os=w.os
 tape:w'.tape=w.tape
 output:w'.output=w.output
theorem Al.refl(w:World):Al w w:=⟨rfl,rfl,rfl,rfl⟩
theorem Al.drew(h:Al w w'):Al w w'.drew:=⟨h.heap,h.os,h.tape,h.output⟩
def Inv(w:World)(b e size:Nat)(zs:List (Int×Int))(n k:Nat)(wr:World):Prop:=∃cur',wr.heap[b]?=some (.cells cur' e (0,0))/\cur'.size=size/\w.grownBy wr (some b)/\(∀(j:Nat)p,(q0c (zs.take n))[j]?=some p->cur'[j*2]?=some (.int .i64 p.1)/\cur'[j*2+1]?=some (.int .i64 p.2))/\(∀(j:Nat)p,k<=j->zs[j]?=some p->cur'[j*2]?=some (.int .i64 p.1)/\cur'[j*2+1]?=some (.int .i64 p.2))
theorem Inv.drew{zs:List (Int×Int)}(h:Inv w b e size zs n k wr):Inv w b e size zs n k wr.drew:=let⟨c,h1,h2,h3,h4,h5⟩:=h;⟨c,h1,h2,⟨h3.os,h3.tape,h3.output,h3.size,h3.block⟩,h4,h5⟩
theorem take2(zs:List (Int×Int))(n:Nat)(y x:Int×Int)(hy:zs[n]?=some y)(hx:zs[n+1]?=some x):q0c (zs.take (n+2))=if y=x then q0c (zs.take (n+1))else q0c (zs.take (n+1))++[x]:=by
 have h1:zs.take (n+1)=zs.take n++[y]:=by rw[List.take_add_one,hy];rfl
 have h2:zs.take (n+2)=zs.take n++[y]++[x]:=by rw[show n+2=n+1+1 from rfl,List.take_add_one,hx,h1];rfl
 rw[h2,h1,qa2];by_cases h:y=x<;>simp[h]
theorem Inv.same{zs:List (Int×Int)}{x:Int×Int}(hy:zs[n]?=some x)(hx:zs[n+1]?=some x)(h:Inv w b e size zs (n+1) k wr):Inv w b e size zs (n+2) k wr:=by unfold Inv at h⊢;rw[take2 zs n _ _ hy hx,if_pos rfl];exact h
set_option maxRecDepth 100000 in
theorem qv1(h1:wr.heap[b]?=some (.cells cur' e (0,0)))(hk:(k+1)*2<=cur'.size)(x1 x2:Int):(storeVar 73 ⟨b,k*2,none⟩ (.agg #[.int .i64 x1,.int .i64 x2])).run Tryz.prog wr=.ok () (wr.setRow b (q1e cur' (k*2) [.int .i64 x1,.int .i64 x2])):=by have:=qk0 (P:=Tryz.prog) (w:=wr) (t:=73) (n:=2) (b:=b) (off:=k*2) (val:=.agg #[.int .i64 x1,.int .i64 x2]) (cur:=cur') (e:=e) rfl rfl h1 (by omega) (fun u hu=>by simp[Value.cells]at hu;rcases hu with rfl|rfl<;>rfl);exact this
theorem Inv.put{zs:List (Int×Int)}{y x:Int×Int}(hy:zs[n]?=some y)(hx:zs[n+1]?=some x)(hne:¬y=x)(hk:(q0c (zs.take (n+1))).length=k)(hkn:k<n+1)(h1:wr.heap[b]?=some (.cells cur' e (0,0)))(h2:cur'.size=size)(h3:w.grownBy wr (some b))(h4:∀(j:Nat)p,(q0c (zs.take (n+1)))[j]?=some p->cur'[j*2]?=some (.int .i64 p.1)/\cur'[j*2+1]?=some (.int .i64 p.2))(h5:∀(j:Nat)p,k<=j->zs[j]?=some p->cur'[j*2]?=some (.int .i64 p.1)/\cur'[j*2+1]?=some (.int .i64 p.2)):(q0c (zs.take (n+2))).length=k+1/\Inv w b e size zs (n+2) (k+1) (wr.setRow b (q1e cur' (k*2) [.int .i64 x.1,.int .i64 x.2])):=by
 have hlt:(n+1)*2+1<cur'.size:=(Array.getElem?_eq_some_iff.1 (h5 (n+1) x (by omega) hx).2).1;have hfit:k*2+[Value.int .i64 x.1,.int .i64 x.2].length<=cur'.size:=by simp;omega
 have ht:q0c (zs.take (n+2))=q0c (zs.take (n+1))++[x]:=by rw[take2 zs n _ _ hy hx,if_neg hne]
 refine⟨by rw[ht];simp[hk],_,setRow_heap _ _ _ _ _ _ h1,by rw[q5f _ _ _ hfit,h2],World.grown_row _ h3,fun j p hj=>?_,fun j p hkj hj=>?_⟩
 .rw[q3w _ _ _ hfit,q3w _ _ _ hfit];rw[ht]at hj;by_cases hjk:j<k;·rw[List.getElem?_append_left (by omega)]at hj;rw[if_neg (by omega),if_neg (by omega)];exact h4 j p hj
  .have hjk2:j=k:=by have:=(List.getElem?_eq_some_iff.1 hj).1;simp[hk]at this;omega
   subst hjk2;rw[List.getElem?_append_right (by omega),hk]at hj;simp at hj;subst hj;rw[if_pos (by simp),if_pos (by simp)];simp
 .rw[q3w _ _ _ hfit,q3w _ _ _ hfit,if_neg (by simp;omega),if_neg (by simp;omega)];exact h5 j p (by omega) hj
set_option maxRecDepth 100000 in
theorem y3y{c:Nat}{ty:TypeId}(h1:wr.heap[b]?=some (.cells cur' e (0,0)))(hn:0<n)(hk:(k+n)*2<=cur'.size):(Builtin.clear_ #[80] ty #[.slice (some ⟨b,k*2,none⟩) n c]).run Tryz.prog wr=.ok (.tuple #[]) (wr.setRow b (q1e cur' (k*2) (Builtin.zeroCells #[.int .i64 0,.int .i64 0] n).toList)):=by
 obtain⟨i,hi,hz0,hz1,hz2⟩:∃i,Tryz.prog.info? 73=some i/\i.zero=some (.agg #[.int .i64 0,.int .i64 0])/\i.size=2/\i.bytes=16:=⟨_,rfl,rfl,rfl,rfl⟩;have hz:(Value.agg #[.int .i64 0,.int .i64 0]).cells=#[.int .i64 0,.int .i64 0]:=rfl;refine y4g (e:=73) Tryz.underlying80 hi hz0 h1 hn (fun u hu=>?_) ?_;·rw[hz]at hu;simp only[Builtin.zeroCells,Array.toList_map,List.mem_map]at hu;obtain⟨j,_,rfl⟩:=hu;have:j%(#[Value.int .i64 0,.int .i64 0]:Array Value).size<2:=Nat.mod_lt _ (by decide);rcases(by omega:j%(#[Value.int .i64 0,.int .i64 0]:Array Value).size=0\/j%(#[Value.int .i64 0,.int .i64 0]:Array Value).size=1)with h|h<;>rw[h]<;>rfl
 .rw[hz];simp[Builtin.zeroCells];omega
def qwf(w:World)(b e cap size:Nat)(zs:List (Int×Int))(v:Value)(w':World):Prop:=v=.slice (some ⟨b,0,none⟩) (q0c zs).length cap/\∃cur',w'.heap[b]?=some (.cells cur' e (0,0))/\cur'.size=size/\w.grownBy w' (some b)/\∀(j:Nat)p,(q0c zs)[j]?=some p->cur'[j*2]?=some (.int .i64 p.1)/\cur'[j*2+1]?=some (.int .i64 p.2)
theorem qjs:∀(zs:List (Int×Int)),(q0c zs).length<=zs.length
 |[]=>Nat.le_refl _|[_]=>Nat.le_refl _|x::y::r=>by
  rw[q2v];have:=qjs (y::r);split;·simp at this⊢;omega
  .simp at this⊢;omega
theorem Inv.out{cap:Nat}{zs:List (Int×Int)}(h1:wr.heap[b]?=some (.cells cur' e (0,0)))(h2:cur'.size=size)(h3:w.grownBy wr (some b))(hk:(q0c zs).length=k)(h4:∀(j:Nat)p,(q0c zs)[j]?=some p->cur'[j*2]?=some (.int .i64 p.1)/\cur'[j*2+1]?=some (.int .i64 p.2))(n:Nat)(hn:(k+n)*2<=cur'.size):qwf w b e cap size zs (.slice (some ⟨b,0,none⟩) k cap) (wr.setRow b (q1e cur' (k*2) (Builtin.zeroCells #[.int .i64 0,.int .i64 0] n).toList)):=by
 have hfit:k*2+(Builtin.zeroCells #[.int .i64 0,.int .i64 0] n).toList.length<=cur'.size:=by simp[Builtin.zeroCells];omega
 refine⟨by rw[hk],_,setRow_heap _ _ _ _ _ _ h1,by rw[q5f _ _ _ hfit,h2],World.grown_row _ h3,fun j p hj=>?_⟩;have hjk:j<k:=by rw[<-hk];exact(List.getElem?_eq_some_iff.1 hj).1
 rw[q3w _ _ _ hfit,q3w _ _ _ hfit,if_neg (by omega),if_neg (by omega)];exact h4 j p hj
theorem Al.grown(h:Al w w')(b:Nat):w.grownBy w' (some b):=⟨h.os,h.tape,h.output,by rw[h.heap];exact Nat.le_refl _,fun k _ _=>by rw[h.heap]⟩
set_option maxHeartbeats 4000000 in
set_option maxRecDepth 100000 in
theorem qw5(b cap:Nat)(zs:List (Int×Int))(cur:Array Value)(e:TypeId)(w:World)(hlen:zs.length<=1073741824)(hcap:zs.length<=cap)(hw:w.heap[b]?=some (.cells cur e (0,0)))(hc:∀(j:Nat)p,zs[j]?=some p->cur[j*2]?=some (.int .i64 p.1)/\cur[j*2+1]?=some (.int .i64 p.2)):Calls Tryz.prog 265 #[.slice (some ⟨b,0,none⟩) zs.length cap] w fun x w'=>∃v,x=.returned v/\qwf w b e cap cur.size zs v w':=by
 have cell:∀(wr:World),Al w wr->∀(j:Nat)p,zs[j]?=some p->wr.cell? ⟨b,j*2,none⟩=some (.int .i64 p.1)/\wr.cell? ⟨b,j*2+1,none⟩=some (.int .i64 p.2):=fun wr hal j p hj=>by
  obtain⟨h1,h2⟩:=hc j p hj;have hw':wr.heap[b]?=some (.cells cur e (0,0)):=by rw[hal.heap];exact hw
  exact⟨by rw[cell_of_row wr b _ cur e (0,0) hw'];exact h1,by rw[cell_of_row wr b _ cur e (0,0) hw'];exact h2⟩
 go_enter Tryz.func265,Tryz.ntmps265;have same:∀wr,Al w wr->q0c zs=zs->qwf w b e cap cur.size zs (.slice (some ⟨b,0,none⟩) zs.length cap) wr:=fun wr hal hid=>⟨by rw[hid],cur,by rw[hal.heap];exact hw,rfl,hal.grown b,fun j p hj=>hc j p (by rwa [hid]at hj)⟩;go_wp2;·go_ret;exact⟨_,rfl,same _ (Al.refl _) (by
   have:zs.length<2:=by omega
   match zs,this with|[],_=>rfl|[_],_=>rfl)⟩
 .go_loopw [3](fun i wr=>∃k:Nat,1<=k/\k<=zs.length/\i=.int .i64 k/\Al w wr/\∀(j:Nat)x y,j+1<k->zs[j]?=some x->zs[j+1]?=some y->x≠y)(fun i _=>zs.length-(intOf i).toNat);case atStart=>exact⟨1,by omega,by omega,rfl,Al.refl _,fun j x y hj=>by omega⟩
  case round=>
   obtain⟨k,hk1,hk,rfl,hal,hne⟩:=hrel;by_cases hlt:k<zs.length
   .obtain⟨m,rfl⟩:∃m,k=m+1:=⟨k-1,by omega⟩;obtain⟨⟨x1,x2⟩,hp⟩:∃x,zs[m+1]?=some x:=⟨zs[m+1],by simp[hlt]⟩;obtain⟨⟨y1,y2⟩,hq⟩:∃y,zs[m]?=some y:=⟨zs[m],by simp[show m<zs.length by omega]⟩;obtain⟨c0,c1⟩:=cell wr hal (m+1) _ hp;obtain⟨d0,d1⟩:=cell wr hal m _ hq;dsimp only at c0 c1 d0 d1;have i0:(0:Int)<=((m+1:Nat):Int):=by omega
    have i1:((m+1:Nat):Int)<(zs.length:Int):=by omega
    have i4:(0:Int)<=(m:Int)+1:=by omega
    have i5:(m:Int)+1<(zs.length:Int):=by omega
    have i6:m+1<zs.length:=by omega
    have i7:m<zs.length:=by omega
    have i8:RowKit.wrap64 (m:Int)=m:=by unfold RowKit.wrap64;omega
    have i9:IntKind.i64.wrap ((m:Int)+1-1)=m:=by rw[IntKind.wrap_i64];omega
    have i10:IntKind.i64.wrap (m:Int)=m:=by rw[IntKind.wrap_i64];omega
    have i11:m+1<cap:=by omega
    have i12:m+1<=cap:=by omega
    have i13:¬(m+1=cap):=by omega
    have i14:¬(cap=m+1):=by omega
    have i15:¬(cap-(m+1)=0):=by omega
    have i2:(0:Int)<=(m:Int):=by omega
    have i3:(m:Int)<(zs.length:Int):=by omega
    go_wp2;by_cases e1:x1=y1
    .subst e1;by_cases e2:x2=y2
     .subst e2;go_region_held3(fun w'=>w'.cell? ⟨b,(m+1)*2,none⟩=some (.int .i64 x1)/\w'.cell? ⟨b,(m+1)*2+1,none⟩=some (.int .i64 x2)/\w'.cell? ⟨b,m*2,none⟩=some (.int .i64 x1)/\w'.cell? ⟨b,m*2+1,none⟩=some (.int .i64 x2))(exact⟨c0,c1,d0,d1⟩)(fail);go_wp2;go_loopw [3,5](fun kv k2v wr=>∃k q:Nat,m+1+(q+1)<=zs.length/\kv=.int .i64 k/\k2v=.int .i64 ((q+1:Nat):Int)/\(q0c (zs.take (m+1+(q+1)))).length=k/\k<m+1+(q+1)/\Inv w b e cur.size zs (m+1+(q+1)) k wr)(fun _ k2v _=>zs.length-(intOf k2v).toNat);case atStart=>
       have hid:q0c (zs.take (m+1))=zs.take (m+1):=qei _ (fun j x y hx hy=>by
        rw[List.getElem?_take]at hx hy;split at hx
        .split at hy;·exact hne j x y (by omega) hx hy
         .cases hy
        .cases hx);have h2:q0c (zs.take (m+1+(0+1)))=zs.take (m+1):=by rw[show m+1+(0+1)=m+2 by omega,take2 zs m _ _ hq hp,if_pos rfl,hid]
       refine⟨m+1,0,by omega,by rfl,by rfl,by rw[h2];simp;omega,by omega,Inv.drew ⟨cur,by rw[hal.heap];exact hw,rfl,hal.grown b,fun j p hj=>?_,fun j p _ hj=>hc j p hj⟩⟩;rw[h2,List.getElem?_take]at hj;split at hj;·exact hc j p hj
       .cases hj
      case round=>
       clear i13 i14 i15 i8 i9 i10;obtain⟨k,q,hq2,rfl,rfl,hk',hkl,cur',hb',hs',hg',hC,hO⟩:=hrel;have cell2:∀(j:Nat)p,k<=j->zs[j]?=some p->wr.cell? ⟨b,j*2,none⟩=some (.int .i64 p.1)/\wr.cell? ⟨b,j*2+1,none⟩=some (.int .i64 p.2):=fun j p hkj hj=>by obtain⟨h1,h2⟩:=hO j p hkj hj;exact⟨by rw[cell_of_row wr b _ cur' e (0,0) hb'];exact h1,by rw[cell_of_row wr b _ cur' e (0,0) hb'];exact h2⟩
       by_cases hlt2:m+1+(q+2)<=zs.length
       .obtain⟨⟨p1,p2⟩,hp2⟩:∃x,zs[m+1+(q+1)]?=some x:=⟨zs[m+1+(q+1)],by simp[show m+1+(q+1)<zs.length by omega]⟩;obtain⟨⟨q1,q2⟩,hq3⟩:∃x,zs[m+1+q]?=some x:=⟨zs[m+1+q],by simp[show m+1+q<zs.length by omega]⟩;obtain⟨c0,c1⟩:=cell2 (m+1+(q+1)) _ (by omega) hp2;obtain⟨d0,d1⟩:=cell2 (m+1+q) _ (by omega) hq3;dsimp only at c0 c1 d0 d1;have j0:(0:Int)<=((q+1:Nat):Int):=by omega
        have j1:((q+1:Nat):Int)<((zs.length-(m+1):Nat):Int):=by omega
        have j4:(0:Int)<=(q:Int)+1:=by omega
        have j5:(q:Int)+1<((zs.length-(m+1):Nat):Int):=by omega
        have j6:q+1<zs.length-(m+1):=by omega
        have j7:q<zs.length-(m+1):=by omega
        have j8:RowKit.wrap64 (q:Int)=q:=by unfold RowKit.wrap64;omega
        have j9:IntKind.i64.wrap ((q:Int)+1-1)=q:=by rw[IntKind.wrap_i64];omega
        have j10:IntKind.i64.wrap (q:Int)=q:=by rw[IntKind.wrap_i64];omega
        have j2:(0:Int)<=(q:Int):=by omega
        have j3:(q:Int)<((zs.length-(m+1):Nat):Int):=by omega
        have a0:(m+1)*2+(q+1)*2=(m+1+(q+1))*2:=by omega
        have a1:(m+1)*2+q*2=(m+1+q)*2:=by omega
        rw[<-a0]at c0 c1;rw[<-a1]at d0 d1;clear a0 a1;have k0:(0:Int)<=(k:Int):=by omega
        have k1:(k:Int)<(zs.length:Int):=by omega
        have k2:k<zs.length:=by omega
        have k3:(k+1)*2<=cur'.size:=by have:=(Array.getElem?_eq_some_iff.1 (hO (m+1+q) _ (by omega) hq3).2).1;omega
        go_wp2;by_cases e1:p1=q1
        .subst e1;by_cases e2:p2=q2
         .subst e2;go_region_held3(fun w'=>w'.cell? ⟨b,(m+1)*2+(q+1)*2,none⟩=some (.int .i64 p1)/\w'.cell? ⟨b,(m+1)*2+(q+1)*2+1,none⟩=some (.int .i64 p2)/\w'.cell? ⟨b,(m+1)*2+q*2,none⟩=some (.int .i64 p1)/\w'.cell? ⟨b,(m+1)*2+q*2+1,none⟩=some (.int .i64 p2))(exact⟨c0,c1,d0,d1⟩)(fail);go_wp2;go_roundw;case rel=>exact⟨k,q+1,hlt2,rfl,by go_num,by rw[show m+1+(q+1+1)=m+1+q+2 by omega,take2 zs (m+1+q) _ _ hq3 hp2,if_pos rfl];exact hk',by omega,Inv.drew (Inv.same (n:=m+1+q) hq3 hp2 ⟨cur',hb',hs',hg',hC,hO⟩)⟩
          case measure=>simp[intOf];omega
         .go_region_held3(fun w'=>w'.cell? ⟨b,(m+1)*2+(q+1)*2,none⟩=some (.int .i64 p1)/\w'.cell? ⟨b,(m+1)*2+(q+1)*2+1,none⟩=some (.int .i64 p2)/\w'.cell? ⟨b,(m+1)*2+q*2,none⟩=some (.int .i64 p1)/\w'.cell? ⟨b,(m+1)*2+q*2+1,none⟩=some (.int .i64 q2))(exact⟨c0,c1,d0,d1⟩)(fail);go_wp2_with(first|(refine qax rfl _ _ _ rfl rfl rfl (qv1 (wr:=World.drew _) hb' k3 p1 p2) ?_)|go_in);(refine⟨?_,?measure⟩;(repeat apply Exists.intro);refine⟨?rel,rfl⟩);case rel=>exact⟨k+1,q+1,hlt2,by go_num,by go_num,(Inv.put (n:=m+1+q) hq3 hp2 (fun e=>e2 (by cases e;rfl)) hk' hkl hb' hs' hg' hC hO).1,by omega,Inv.drew (wr:=World.setRow _ _ _) (Inv.put (n:=m+1+q) hq3 hp2 (fun e=>e2 (by cases e;rfl)) hk' hkl hb' hs' hg' hC hO).2⟩
          case measure=>simp[intOf];omega
        .go_region_held3(fun w'=>w'.cell? ⟨b,(m+1)*2+(q+1)*2,none⟩=some (.int .i64 p1)/\w'.cell? ⟨b,(m+1)*2+(q+1)*2+1,none⟩=some (.int .i64 p2)/\w'.cell? ⟨b,(m+1)*2+q*2,none⟩=some (.int .i64 q1)/\w'.cell? ⟨b,(m+1)*2+q*2+1,none⟩=some (.int .i64 q2))(exact⟨c0,c1,d0,d1⟩)(fail);go_wp2_with(first|(refine qax rfl _ _ _ rfl rfl rfl (qv1 (wr:=World.drew _) hb' k3 p1 p2) ?_)|go_in);(refine⟨?_,?measure⟩;(repeat apply Exists.intro);refine⟨?rel,rfl⟩);case rel=>exact⟨k+1,q+1,hlt2,by go_num,by go_num,(Inv.put (n:=m+1+q) hq3 hp2 (fun e=>e1 (by cases e;rfl)) hk' hkl hb' hs' hg' hC hO).1,by omega,Inv.drew (wr:=World.setRow _ _ _) (Inv.put (n:=m+1+q) hq3 hp2 (fun e=>e1 (by cases e;rfl)) hk' hkl hb' hs' hg' hC hO).2⟩
         case measure=>simp[intOf];omega
       .have hqe:m+1+(q+1)=zs.length:=by omega
        have k4:k<zs.length:=by omega
        have k5:0<zs.length-k:=by omega
        have k6:(k+(zs.length-k))*2<=cur'.size:=by obtain⟨p,hp'⟩:∃x,zs[zs.length-1]?=some x:=⟨zs[zs.length-1],by simp[show zs.length-1<zs.length by omega]⟩;have:=(Array.getElem?_eq_some_iff.1 (hO (zs.length-1) p (by omega) hp').2).1;omega
        rw[hqe,List.take_length]at hk' hC;go_wp2_with(first|(refine qkt rfl _ _ rfl rfl (y3y hb' k5 k6) ?_)|go_in);go_ret;exact⟨_,rfl,Inv.out hb' hs' hg' hk' hC _ k6⟩
     .go_region_held3(fun w'=>w'.cell? ⟨b,(m+1)*2,none⟩=some (.int .i64 x1)/\w'.cell? ⟨b,(m+1)*2+1,none⟩=some (.int .i64 x2)/\w'.cell? ⟨b,m*2,none⟩=some (.int .i64 x1)/\w'.cell? ⟨b,m*2+1,none⟩=some (.int .i64 y2))(exact⟨c0,c1,d0,d1⟩)(fail);go_wp2;go_roundw;case rel=>exact⟨m+2,by omega,by omega,by go_num,hal.drew,fun j x y hj hx hy=>by
       by_cases hjm:j=m;·subst hjm;rw[hq]at hx;rw[hp]at hy;cases hx;cases hy;simp;omega
       .exact hne j x y (by omega) hx hy⟩
      case measure=>simp[intOf];omega
    .go_region_held3(fun w'=>w'.cell? ⟨b,(m+1)*2,none⟩=some (.int .i64 x1)/\w'.cell? ⟨b,(m+1)*2+1,none⟩=some (.int .i64 x2)/\w'.cell? ⟨b,m*2,none⟩=some (.int .i64 y1)/\w'.cell? ⟨b,m*2+1,none⟩=some (.int .i64 y2))(exact⟨c0,c1,d0,d1⟩)(fail);go_wp2;go_roundw;case rel=>exact⟨m+2,by omega,by omega,by go_num,hal.drew,fun j x y hj hx hy=>by
      by_cases hjm:j=m;·subst hjm;rw[hq]at hx;rw[hp]at hy;cases hx;cases hy;simp;omega
      .exact hne j x y (by omega) hx hy⟩
     case measure=>simp[intOf];omega
   .go_wp2;go_ret;exact⟨_,rfl,same _ hal (qei _ (fun j x y hx hy=>hne j x y (by have:=(List.getElem?_eq_some_iff.1 hy).1;omega) hx hy))⟩
set_option maxRecDepth 100000 in
theorem qu7(a:Option Addr)(cap:Nat)(w:World):Calls Tryz.prog 265 #[.slice a 0 cap] w fun e w'=>e=.returned (.slice a 0 cap)/\w'=w:=by go_enter Tryz.func265,Tryz.ntmps265;go_wp2;go_ret;exact⟨rfl,rfl⟩
abbrev pairD(p:Int×Int):D:=.agg [.v (.int .i64 p.1),.v (.int .i64 p.2)]
theorem qph:∀(xs:List D),xs.all flatD=true->xs.all (q5q 2)=true->∃zs:List (Int×Int),xs=zs.map pairD|[],_,_=>⟨[],rfl⟩|x::r,h1,h2=>by simp only[List.all_cons,aT]at h1 h2;obtain⟨zs,rfl⟩:=qph r h1.2 h2.2;obtain⟨h,_⟩:=q6g h2.1;have h1:=h1.1;cases x with|v y=>simp[D.cells]at h|list l=>simp[D.cells]at h|agg cs=>match cs,h,h1 with
   |[a,c],_,h1=>
    simp only[flatD,List.all_cons,List.all_nil,Bool.and_true,aT]at h1;obtain⟨ha,hc⟩:=h1;split at ha
    .split at hc;·exact⟨(_,_)::zs,rfl⟩
     .cases hc
    .cases ha
theorem qgm{xs:List D}{X:Cx}{args:Array Value}(hH:HRel env X [[.own xs false]] w)(hA:RVl w X (.res 0) (.ref 0) (args.getD 0 undef)):X.mu[0]?=some (.head (args.getD 0 undef))/\OwnOk w X (.cell 0 0) xs false (args.getD 0 undef):=by
 obtain⟨h1,_⟩:=hA;refine⟨h1,?_⟩;rcases hH.heap 0 _ rfl with⟨b,cur,e,hb,_⟩|⟨v,c,hv,hc,hr⟩;·rw[h1]at hb;cases hb
 .rw[h1]at hv;cases hv;cases hc;exact hr
theorem qvl:LibOk env 265 (q6w 2):=by
 intro vs hp v hp' hm X w args hH hA;unfold q6w at hm;split at hm
 .rename_i xs;split at hm
  .rename_i hcnd;obtain⟨hflat,hcell,hlen⟩:=hcnd;simp only[sI,pI]at hm;obtain⟨rfl,rfl⟩:=hm;obtain⟨zs,rfl⟩:=qph xs hflat hcell;obtain⟨ha,hr⟩:=qwi hA;obtain⟨hmu,hown⟩:=qgm hH hr;rw[ha];generalize args.getD 0 undef=u at hmu hown;rcases hown with⟨h0,a,rfl⟩|⟨h0,_⟩|⟨b,cap,cur,e,sz,rfl,hg,hw,hs,hz,hne,hsz,hcap,hmax,hcells⟩
   .have:zs=[]:=by simpa using h0
    subst this;refine(qu7 a 0 w).mono ?_;rintro e w1⟨rfl,rfl⟩;exact⟨_,rfl,qm1 hH hmu (row:=none) ⟨rfl,rfl,rfl,Nat.le_refl _,fun _ _ _=>rfl⟩ (fun g e=>by cases e) (.empty a 0)⟩
   .cases h0
   .have hsz2:sz=2:=by obtain⟨x,hx⟩:=List.exists_mem_of_ne_nil _ hne;obtain⟨p,_,rfl⟩:=List.mem_map.1 hx;rw[<-hs _ hx];rfl
    subst hsz2;rw[List.length_map]at*;simp only[fT,if_false]at hg;refine(qw5 b cap zs cur e w (by unfold q0a at hlen;exact hlen) hcap hw (fun j p hj=>?_)).mono ?_
    .have hj':(zs.map pairD)[j]?=some (pairD p):=by rw[List.getElem?_map,hj];rfl
     obtain⟨u0,k0,r0⟩:=hcells j _ hj' 0 _ rfl;obtain⟨u1,k1,r1⟩:=hcells j _ hj' 1 _ rfl;rw[q0t r0]at k0;rw[q0t r1]at k1;exact⟨k0,k1⟩
    .rintro e1 w1⟨val,rfl,hv,cur',hb',hs',hgr,hC⟩;refine⟨val,rfl,?_⟩;have hmap:q0c (zs.map pairD)=(q0c zs).map pairD:=qc3 (fun a c h=>by cases a;cases c;simp[pairD]at h;simp[h]) zs;rw[hmap,hv];refine qm1 hH hmu (row:=some b) hgr (fun g e=>by cases e;exact⟨_,hg⟩) ?_;rw[show(q0c zs).length=((q0c zs).map pairD).length by simp];have himm:∀o,(X.strike (some b)).imm b o:=fun o=>⟨hH.oamb b _ _ hg o,fun l k e=>by simp[Cx.strike]at e⟩;refine .list _ b 0 cap 2 (fun i j=>cur'.getD (i*2+j) undef) (fun x hx=>by obtain⟨p,_,rfl⟩:=List.mem_map.1 hx;rfl) (by have:=qjs zs;simp;omega) (fun i x hx j c hj=>⟨?_,himm _⟩) (fun i x hx j c hj=>?_)
     .rw[List.getElem?_map,Option.map_eq_some_iff]at hx;obtain⟨p,hp,rfl⟩:=hx;obtain⟨c0,c1⟩:=hC i p hp;rw[Nat.zero_add,cell_of_row w1 b _ cur' e (0,0) hb'];have hj2:j<2:=(List.getElem?_eq_some_iff.1 hj).1;rcases(by omega:j=0\/j=1)with rfl|rfl;·show cur'[i*2]?=some (cur'.getD (i*2) undef);rw[Array.getD_eq_getD_getElem?,c0];rfl
      .rw[Array.getD_eq_getD_getElem?,c1];rfl
     .rw[List.getElem?_map,Option.map_eq_some_iff]at hx;obtain⟨p,hp,rfl⟩:=hx;obtain⟨c0,c1⟩:=hC i p hp;have hj2:j<2:=(List.getElem?_eq_some_iff.1 hj).1;rcases(by omega:j=0\/j=1)with rfl|rfl;·simp[D.cells]at hj;subst hj;show Rep w1 _ _ (cur'.getD (i*2+0) undef);rw[Array.getD_eq_getD_getElem?,show i*2+0=i*2 from rfl,c0];exact .v _ rfl
      .simp[D.cells]at hj;subst hj;show Rep w1 _ _ (cur'.getD (i*2+1) undef);rw[Array.getD_eq_getD_getElem?,c1];exact .v _ rfl
  .cases hm
 .cases hm
end Go.Proofs.YtklhcnnpgkkjcaaGreatDoor
namespace Go.Proofs.YtklhcnnpgkkjcaaGreatDoor
open Go Go.Ab Go.RowKit Go.Lib
variable {cur : Array Value} {cs row vs : List Value} {cap i n sz : Nat} {w w' : World} {ds xs : List D} {X : Cx}
abbrev zMsg:Value:=.agg #[.int .i64 0,.int .i64 0,.int .i64 0,.slice none 0 0,.slice none 0 0,.slice none 0 0,.slice none 0 0]
set_option maxRecDepth 100000 in
theorem y2v:∃i,Tryz.prog.info? 82=some i/\i.zero=some zMsg/\i.size=7/\i.bytes=120:=⟨_,rfl,rfl,rfl,rfl⟩
set_option maxHeartbeats 4000000 in
set_option maxRecDepth 100000 in
theorem qu2(b n cap i vb vo vc:Nat)(cs vs:List Value)(cur:Array Value)(e1:TypeId)(w:World)(hi:i<n)(hroom:n+1<=cap)(hn:n<=1073741824)(hc63:cap<=9223372036854775807)(hvb:vb≠b)(hw:w.heap[b]?=some (.cells cur e1 (0,0)))(hsz:cur.size=cap*7)(hcl:cs.length=n*7)(hvl:vs.length=7)(hcs:∀(k:Nat)u,cs[k]?=some u->cur[k]?=some u)(hvs:∀(k:Nat)u,vs[k]?=some u->w.cell? ⟨vb,vo+k,none⟩=some u)(h1c:∀u∈cs,u.oneCell'=true)(h1v:∀u∈vs,u.oneCell'=true):Calls Tryz.prog 200 #[.slice (some ⟨b,0,none⟩) n cap,.int .i64 i,.slice (some ⟨vb,vo,none⟩) 1 vc] w fun e w'=>e=.returned (.slice (some ⟨b,0,none⟩) (n+1) cap)/\w'=(w.drew.setRow b (q1e cur ((i+1)*7) (cs.drop (i*7)))).setRow b (q1e (q1e cur ((i+1)*7) (cs.drop (i*7))) (i*7) vs):=by
 obtain⟨i0,hi0,hz0,hzs,hzb⟩:=y2v;have hz2:¬((i:Int)=(n:Int)):=by omega
 have hcell:w.cell? ⟨vb,vo,none⟩=some vs[0]:=hvs 0 _ (by simp[hvl]);obtain⟨cA,tA,fA,hA,hA0⟩:∃cA tA f,w.heap[vb]?=some (.cells cA tA f)/\cA.size≠0:=by
  unfold World.cell? at hcell;split at hcell;·rename_i cA tA f hq;refine⟨cA,tA,f,hq,fun h=>?_⟩;simp[h]at hcell
  all_goals cases hcell
 have hov:∀lb cb,(callFunc 230 #[.slice (some ⟨vb,vo,none⟩) 1 vc,.slice (some ⟨b,(i+1)*7,none⟩) lb cb]).run Tryz.prog w=.ok (.value (.bool false)) w:=fun lb cb=>by rw[run_callFunc_extern Tryz.func230 (by kernel_rfl) (by kernel_rfl) (by kernel_rfl) (e:=Extern.SlicesOverlaps.overlaps #[90,90] #[4]) (by kernel_rfl),qoa w 90 4 82 Tryz.underlying90 hi0 ⟨vb,vo,none⟩ ⟨b,(i+1)*7,none⟩ 1 vc lb cb hvb hA hw (by omega) hA0];rfl
 have hdl:(cs.drop (i*7)).length=(n-i)*7:=by rw[List.length_drop,hcl,Nat.sub_mul]
 have hfit1:(i+1)*7+(cs.drop (i*7)).length<=cur.size:=by rw[hdl,hsz];omega
 have hcp1:∀ty dc sc,(Builtin.copy_ #[90,90] ty #[.slice (some ⟨b,(i+1)*7,none⟩) (n-i) dc,.slice (some ⟨b,i*7,none⟩) (n+1-i) sc]).run Tryz.prog w.drew=.ok (goInt ((n-i:Nat):Int)) (w.drew.setRow b (q1e cur ((i+1)*7) (cs.drop (i*7)))):=fun ty dc sc=>qa7 (w:=w.drew) Tryz.underlying90 hi0 hw ⟨b,i*7,none⟩ (cs.drop (i*7)) (by omega) (by rw[hdl,hzs]) (fun j u hj=>by rw[List.getElem?_drop]at hj;rw[q39];exact(cell_of_row w b _ cur e1 (0,0) hw).trans (hcs _ u hj)) (fun u hu=>h1c u (List.mem_of_mem_drop hu)) hfit1;have hfit2:i*7+vs.length<=(q1e cur ((i+1)*7) (cs.drop (i*7))).size:=by rw[q5f _ _ _ hfit1,hvl,hsz];omega
 have hcp2:∀ty dc,(Builtin.copy_ #[90,90] ty #[.slice (some ⟨b,i*7,none⟩) (n+1-i) dc,.slice (some ⟨vb,vo,none⟩) 1 vc]).run Tryz.prog (w.drew.setRow b (q1e cur ((i+1)*7) (cs.drop (i*7))))=.ok (goInt ((1:Nat):Int)) ((w.drew.setRow b (q1e cur ((i+1)*7) (cs.drop (i*7)))).setRow b (q1e (q1e cur ((i+1)*7) (cs.drop (i*7))) (i*7) vs)):=fun ty dc=>qa7 (w:=w.drew.setRow b (q1e cur ((i+1)*7) (cs.drop (i*7)))) Tryz.underlying90 hi0 (setRow_heap _ _ _ _ _ _ hw) ⟨vb,vo,none⟩ vs (by omega) (by rw[hvl,hzs]) (fun j u hj=>by rw[q39];exact(cell?_of_heap (setRow_other _ b vb _ hvb) _).trans (hvs j u hj)) h1v hfit2;have hw1:IntKind.i64.wrap ((i:Int)+1)=(i:Int)+1:=by rw[IntKind.wrap_i64];omega
 have hwn:IntKind.i64.wrap ((n:Int)+1)=(n:Int)+1:=by rw[IntKind.wrap_i64];omega
 have hb1:(0:Int)<=(i:Int)+1:=by omega
 have hin:i<=n:=by omega
 have htn:((i:Int)+1).toNat=i+1:=by omega
 have htn2:((n:Int)+1).toNat=n+1:=by omega
 have hb2:¬(cap=i+1):=by omega
 have hb3:(i:Int)<=(n:Int)+1:=by omega
 have hb4:¬(cap=i):=by omega
 have mixed:Tryz.prog.follows .mixedOrders=true:=by kernel_rfl
 go_enter Tryz.func200,Tryz.ntmps200;go_wp2_with(simp only[hov]);go_region_law_o(refine qjj rfl _ _ 90 90 rfl _ _ (by simp[Act.eval,Act.put]) (by simp[Act.eval,Act.put]) (hcp1 _ _ _) ?_);go_wp2_with(at_builtin;refine qdy rfl _ _ 90 90 rfl _ _ rfl rfl (hcp2 _ _) ?_);go_ret;exact⟨rfl,rfl⟩
def InsOut(w:World)(row:Option Nat)(n:Nat)(new:List Value)(v:Value)(w':World):Prop:=∃g cap' cur' e',v=.slice (some ⟨g,0,none⟩) (n+1) cap'/\n+1<=cap'/\w'.heap[g]?=some (.cells cur' e' (0,0))/\(∀(k:Nat)u,new[k]?=some u->cur'[k]?=some u)/\w.grownBy w' row/\(row=some g\/w.heap.size<=g)
theorem qyy{A B C:List Value}{p:Nat}(hA:A.length=p)(hB:B.length=7)(k:Nat):(A++B++C)[k]?=if k<p then A[k]? else if k<p+7 then B[k-p]? else C[k-(p+7)]?:=by
 by_cases h1:k<p;·rw[if_pos h1,List.append_assoc,List.getElem?_append_left (by omega)]
 .rw[if_neg h1];by_cases h2:k<p+7;·rw[if_pos h2,List.append_assoc,List.getElem?_append_right (by omega),List.getElem?_append_left (by omega),hA]
  .rw[if_neg h2,List.getElem?_append_right (by simp;omega)];congr 1;simp;omega
theorem y28(hi:i<n)(hroom:n+1<=cap)(hsz:cur.size=cap*7)(hcl:cs.length=n*7)(hvl:vs.length=7)(hcs:∀(k:Nat)u,cs[k]?=some u->cur[k]?=some u)(k:Nat)(u:Value)(h:(cs.take (i*7)++vs++cs.drop (i*7))[k]?=some u):(q1e (q1e cur ((i+1)*7) (cs.drop (i*7))) (i*7) vs)[k]?=some u:=by
 have hdl:(cs.drop (i*7)).length=(n-i)*7:=by rw[List.length_drop,hcl,Nat.sub_mul]
 have hfit1:(i+1)*7+(cs.drop (i*7)).length<=cur.size:=by rw[hdl,hsz];omega
 rw[q3w _ _ _ (by rw[q5f _ _ _ hfit1,hvl,hsz];omega),q3w _ _ _ hfit1];rw[qyy (p:=i*7) (by simp;omega) hvl]at h;by_cases h1:k<i*7;·rw[if_pos h1,List.getElem?_take,if_pos h1]at h;rw[if_neg (by omega),if_neg (by omega)];exact hcs k u h
 .rw[if_neg h1]at h;by_cases h2:k<i*7+7;·rw[if_pos h2]at h;rw[if_pos (by omega)];exact h
  .rw[if_neg h2]at h;have hk:=(List.getElem?_eq_some_iff.1 h).1;rw[if_neg (by omega),if_pos (by omega),show k-(i+1)*7=k-(i*7+7)by omega];exact h
theorem y77(hi:i<n)(hsz:(n+1)*7<=cur.size)(hcl:cs.length=n*7)(hvl:vs.length=7)(hcs:∀(k:Nat)u,k<i*7->cs[k]?=some u->cur[k]?=some u)(k:Nat)(u:Value)(h:(cs.take (i*7)++vs++cs.drop (i*7))[k]?=some u):(q1e (q1e cur (i*7) vs) ((i+1)*7) (cs.drop (i*7)))[k]?=some u:=by
 have hdl:(cs.drop (i*7)).length=(n-i)*7:=by rw[List.length_drop,hcl,Nat.sub_mul]
 have hfit1:i*7+vs.length<=cur.size:=by rw[hvl];omega
 rw[q3w _ _ _ (by rw[q5f _ _ _ hfit1,hdl];omega),q3w _ _ _ hfit1];rw[qyy (p:=i*7) (by simp;omega) hvl]at h;by_cases h1:k<i*7;·rw[if_pos h1,List.getElem?_take,if_pos h1]at h;rw[if_neg (by omega),if_neg (by omega)];exact hcs k u h1 h
 .rw[if_neg h1]at h;by_cases h2:k<i*7+7;·rw[if_pos h2]at h;rw[if_neg (by omega),if_pos (by omega)];exact h
  .rw[if_neg h2]at h;have hk:=(List.getElem?_eq_some_iff.1 h).1;rw[if_pos (by omega),show k-(i+1)*7=k-(i*7+7)by omega];exact h
set_option maxHeartbeats 4000000 in
set_option maxRecDepth 100000 in
theorem qvm(b n cap i vb vo vc:Nat)(cs vs:List Value)(cur:Array Value)(e1:TypeId)(w:World)(hi:i<n)(hnc:n<=cap)(hroom:cap<n+1)(hn:n<=1073741823)(hw:w.heap[b]?=some (.cells cur e1 (0,0)))(hcl:cs.length=n*7)(hvl:vs.length=7)(hcs:∀(k:Nat)u,cs[k]?=some u->cur[k]?=some u)(hvs:∀(k:Nat)u,vs[k]?=some u->w.cell? ⟨vb,vo+k,none⟩=some u)(h1c:∀u∈cs,u.oneCell'=true)(h1v:∀u∈vs,u.oneCell'=true):Calls Tryz.prog 200 #[.slice (some ⟨b,0,none⟩) n cap,.int .i64 i,.slice (some ⟨vb,vo,none⟩) 1 vc] w fun e w'=>∃v,e=.returned v/\InsOut w none n (cs.take (i*7)++vs++cs.drop (i*7)) v w':=by
 obtain⟨i0,hi0,hz0,hzs,hzb⟩:=y2v;have hz2:¬((i:Int)=(n:Int)):=by omega
 have hbw:b<w.heap.size:=(Array.getElem?_eq_some_iff.1 hw).1;have hvw:vb<w.heap.size:=World.block_lt_of_cell? w ⟨vb,vo,none⟩ (hvs 0 vs[0] (by simp[hvl]));have hold:(Builtin.firstCells i0.size i (.slice (some ⟨b,0,none⟩) i cap)).run Tryz.prog w.drew=.ok (cs.take (i*7)).toArray w.drew:=by rw[hzs];exact run_firstCells_some w.drew 7 i ⟨b,0,none⟩ i cap (cs.take (i*7)) (by rw[List.length_take];omega) (fun j v hj=>by
   rw[q39,Nat.zero_add];rw[List.getElem?_take]at hj;split at hj;·exact(cell_of_row w b _ cur e1 (0,0) hw).trans (hcs j v hj)
   .cases hj)
 have hkk:(n:Int)+1-(i:Int)=((n+1-i:Nat):Int):=by omega
 have hik:i+(n+1-i)=n+1:=by omega
 obtain⟨G,hG⟩:∃G,G=grownCap w (n+1) cap 82:=⟨_,rfl⟩;obtain⟨ROW,hROW⟩:∃ROW:Array Value,ROW=(cs.take (i*7)).toArray++Builtin.zeroCells zMsg.cells (n+1-i)++Builtin.zeroCells zMsg.cells (G-(n+1)):=⟨_,rfl⟩;have hrz:∀ty,(Builtin.append_ #[90,3] ty #[.slice (some ⟨b,0,none⟩) i cap,.int .i64 ((n:Int)+1-(i:Int))]).run Tryz.prog w=.ok (.slice (some ⟨w.heap.size,0,none⟩) (n+1) G) (w.drew.alloc (.cells ROW 82)):=fun ty=>by have h:=Lib.run_append_grow_zeros (P:=Tryz.prog) w 90 3 ty 82 i0 _ .i64 .i64 Tryz.underlying90 Tryz.underlying3 hi0 hz0 (some ⟨b,0,none⟩) i cap (cs.take (i*7)) hold (n+1-i) (by omega) (by omega) (by omega) (by omega) (by rw[hzb];omega) (by rw[hzb,hik];exact growslice_fits hroom (by omega));rw[hik]at h;rw[hkk,hROW,hG];exact h
 have hzl:∀k,(Builtin.zeroCells zMsg.cells k).size=k*7:=fun k=>by simp[Builtin.zeroCells,Value.cells]
 have hRl:(n+1)*7<=ROW.size:=by rw[hROW,Array.size_append,Array.size_append,hzl,hzl];simp;omega
 have hRc:∀(k:Nat)u,k<i*7->cs[k]?=some u->ROW[k]?=some u:=fun k u hk hu=>by have:=(List.getElem?_eq_some_iff.1 hu).1;rw[hROW,Array.append_assoc,Array.getElem?_append_left (by simp;omega)];simp[hk,hu]
 obtain⟨W1,hW1⟩:∃W1,W1=w.drew.alloc (.cells ROW 82):=⟨_,rfl⟩;rw[<-hW1]at hrz;have hN:W1.heap[w.heap.size]?=some (.cells ROW 82 (0,0)):=by rw[hW1];exact heap_alloc_new w.drew _
 have hO:∀k,k<w.heap.size->W1.heap[k]?=w.heap[k]?:=fun k hk=>by rw[hW1];exact heap_alloc_old w.drew _ hk
 have hGn:n+1<=G:=by rw[hG];exact grownCap_ge w _ _ _
 have hG63:G<=9223372036854775807:=by have:=grownCap_le_maxLen w (n+1) cap 82 (by unfold maxLen;omega);rw[<-hG]at this;unfold maxLen at this;omega
 have hfit1:i*7+vs.length<=ROW.size:=by rw[hvl];omega
 have hcpA:∀(W:World),(∀k:Nat,W.heap[k]?=W1.heap[k]?)->∀ty dc,(Builtin.copy_ #[90,90] ty #[.slice (some ⟨w.heap.size,i*7,none⟩) (n+1-i) dc,.slice (some ⟨vb,vo,none⟩) 1 vc]).run Tryz.prog W=.ok (goInt ((1:Nat):Int)) (W.setRow w.heap.size (q1e ROW (i*7) vs)):=fun W hW ty dc=>qa7 (w:=W) Tryz.underlying90 hi0 ((hW _).trans hN) ⟨vb,vo,none⟩ vs (by omega) (by rw[hvl,hzs]) (fun j u hj=>by rw[q39];exact(cell?_of_heap ((hW vb).trans (hO vb hvw)) _).trans (hvs j u hj)) h1v hfit1;have hdl:(cs.drop (i*7)).length=(n-i)*7:=by rw[List.length_drop,hcl,Nat.sub_mul]
 have hfit2:(i+1)*7+(cs.drop (i*7)).length<=(q1e ROW (i*7) vs).size:=by rw[q5f _ _ _ hfit1,hdl];omega
 have hcpB:∀(W:World),W.heap[w.heap.size]?=some (.cells (q1e ROW (i*7) vs) 82 (0,0))->W.heap[b]?=w.heap[b]?->∀ty dc sc,(Builtin.copy_ #[90,90] ty #[.slice (some ⟨w.heap.size,(i+1)*7,none⟩) (n-i) dc,.slice (some ⟨b,i*7,none⟩) (n-i) sc]).run Tryz.prog W=.ok (goInt ((n-i:Nat):Int)) (W.setRow w.heap.size (q1e (q1e ROW (i*7) vs) ((i+1)*7) (cs.drop (i*7)))):=fun W hW hWb ty dc sc=>qa7 (w:=W) Tryz.underlying90 hi0 hW ⟨b,i*7,none⟩ (cs.drop (i*7)) (by omega) (by rw[hdl,hzs]) (fun j u hj=>by rw[List.getElem?_drop]at hj;rw[q39];exact(cell_of_row W b _ cur e1 (0,0) (hWb.trans hw)).trans (hcs _ u hj)) (fun u hu=>h1c u (List.mem_of_mem_drop hu)) hfit2;have hGi:¬(G=i):=by omega
 have hGim:¬(G=i+1):=by omega
 have hci:¬(cap=i):=by omega
 have hw1:IntKind.i64.wrap ((i:Int)+1)=(i:Int)+1:=by rw[IntKind.wrap_i64];omega
 have hwn:IntKind.i64.wrap ((n:Int)+1)=(n:Int)+1:=by rw[IntKind.wrap_i64];omega
 have hwd:IntKind.i64.wrap ((n:Int)+1-(i:Int))=(n:Int)+1-(i:Int):=by rw[IntKind.wrap_i64];omega
 have hz3:(cap:Int)<(n:Int)+1:=by omega
 have hb1:(0:Int)<=(i:Int)+1:=by omega
 have hin:i<=n:=by omega
 have htn:((i:Int)+1).toNat=i+1:=by omega
 have hb3:(i:Int)<=(n:Int):=by omega
 have mixed:Tryz.prog.follows .mixedOrders=true:=by kernel_rfl
 have fin:∀(W:World),(∀k,W.heap[k]?=((W1.setRow w.heap.size (q1e ROW (i*7) vs)).setRow w.heap.size (q1e (q1e ROW (i*7) vs) ((i+1)*7) (cs.drop (i*7)))).heap[k]?)->W.os=w.os->W.tape=w.tape->W.output=w.output->InsOut w none n (cs.take (i*7)++vs++cs.drop (i*7)) (.slice (some ⟨w.heap.size,0,none⟩) (n+1) G) W:=fun W h1 h2 h3 h4=>⟨w.heap.size,G,_,82,rfl,hGn,(h1 _).trans (setRow_heap _ _ _ _ _ _ (setRow_heap _ _ _ _ _ _ hN)),y77 hi hRl hcl hvl hRc,⟨h2,h3,h4,by have:=(Array.getElem?_eq_some_iff.1 ((h1 w.heap.size).trans (setRow_heap _ _ _ _ _ _ (setRow_heap _ _ _ _ _ _ hN)))).1;omega,fun k hk _=>(h1 k).trans ((setRow_other _ _ _ _ (by omega)).trans ((setRow_other _ _ _ _ (by omega)).trans (hO k hk)))⟩,.inr (Nat.le_refl _)⟩;have hS:∀(W:World),(∀k:Nat,W.heap[k]?=(W1.setRow w.heap.size (q1e ROW (i*7) vs)).heap[k]?)->W.heap[w.heap.size]?=some (.cells (q1e ROW (i*7) vs) 82 (0,0))/\W.heap[b]?=w.heap[b]?:=fun W h=>⟨(h _).trans (setRow_heap _ _ _ _ _ _ hN),(h _).trans ((setRow_other _ _ _ _ (by omega)).trans (hO b hbw))⟩;clear hkk hik hold hROW hG hRl hRc hzl hvs hcs;subst hW1;have hE:∀k:Nat,((w.alloc (.cells ROW 82)).drew).heap[k]?=(w.drew.alloc (.cells ROW 82)).heap[k]?:=fun _=>rfl;have hF:∀k:Nat,(((w.alloc (.cells ROW 82)).drew.setRow w.heap.size (q1e ROW (i*7) vs)).drew).heap[k]?=((w.drew.alloc (.cells ROW 82)).setRow w.heap.size (q1e ROW (i*7) vs)).heap[k]?:=fun _=>rfl;have hcpC:=hcpB _ (hS _ hF).1 (hS _ hF).2;go_enter Tryz.func200,Tryz.ntmps200;go_wp2_with(first|(at_builtin;refine Lib.wpList_append_run _ rfl _ _ _ _ rfl _ _ rfl rfl _ _ (hrz _) ?_)|(at_builtin;refine qdy rfl _ _ 90 90 rfl _ _ rfl rfl (hcpA _ hE _ _) ?_));go_region_law_o(refine qjj rfl _ _ 90 90 rfl _ _ (by simp[Act.eval,Act.put]) (by simp[Act.eval,Act.put]) (hcpC _ _ _) ?_);go_wp2;go_ret;exact⟨_,rfl,fin _ (fun _=>rfl) rfl rfl rfl⟩
set_option maxRecDepth 100000 in
theorem qde(a:Option Addr)(n cap vc:Nat)(ad:Addr)(hnc:n<=cap)(hn:n<=1073741824)(h0:a=none->cap=0)(w:World){v':Value}(hr:∀ty,(Builtin.append_ #[90,90] ty #[.slice a n cap,.slice (some ad) 1 vc]).run Tryz.prog w=.ok v' w'):Calls Tryz.prog 200 #[.slice a n cap,.int .i64 n,.slice (some ad) 1 vc] w fun e w1=>e=.returned v'/\w1=w':=by
 have hsl:∀c,(n:Int)<=(n:Int):=fun _=>by omega
 cases a with|none=>
  have:cap=0:=h0 rfl;subst this;have:n=0:=by omega
  subst this;go_enter Tryz.func200,Tryz.ntmps200;go_wp2_with(at_builtin;refine Lib.wpList_append_run _ rfl _ _ _ _ rfl _ _ rfl rfl _ _ (hr _) ?_);go_ret;exact⟨rfl,rfl⟩|some b=>go_enter Tryz.func200,Tryz.ntmps200;go_wp2_with(at_builtin;refine Lib.wpList_append_run _ rfl _ _ _ _ rfl _ _ rfl rfl _ _ (hr _) ?_);all_goals(go_ret;exact⟨rfl,rfl⟩)
theorem RowRep.take{I:Nat->Nat->Prop}(h:RowRep w I sz ds row)(n:Nat):RowRep w I sz (ds.take n) (row.take (n*sz)):=by
 obtain⟨h1,h2,h3⟩:=h;refine⟨?_,fun x hx=>h2 x (List.mem_of_mem_take hx),fun i x hx j c hj=>?_⟩;·rw[List.length_take,List.length_take,h1,Nat.mul_comm n,Nat.mul_comm ds.length,Nat.mul_min_mul_left,Nat.mul_comm]
 .rw[List.getElem?_take]at hx;split at hx
  .rename_i hin;obtain⟨u,hu,hr⟩:=h3 i x hx j c hj;have hj2:j<sz:=by rw[<-h2 x (List.mem_of_getElem? hx)];exact(List.getElem?_eq_some_iff.1 hj).1
   have:(i+1)*sz<=n*sz:=Nat.mul_le_mul_right _ hin;rw[Nat.add_mul]at this;exact⟨u,by rw[List.getElem?_take,if_pos (by omega)];exact hu,hr⟩
  .cases hx
theorem RowRep.drop{I:Nat->Nat->Prop}(h:RowRep w I sz ds row)(n:Nat):RowRep w I sz (ds.drop n) (row.drop (n*sz)):=by obtain⟨h1,h2,h3⟩:=h;refine⟨by rw[List.length_drop,List.length_drop,h1,Nat.sub_mul],fun x hx=>h2 x (List.mem_of_mem_drop hx),fun i x hx j c hj=>?_⟩;rw[List.getElem?_drop]at hx;obtain⟨u,hu,hr⟩:=h3 _ x hx j c hj;exact⟨u,by rw[List.getElem?_drop,<-Nat.add_assoc,<-Nat.add_mul];exact hu,hr⟩
theorem y23{a b c:AV}{args:Array Value}(h:Ab.ArgRel w X [a,b,c] args):args=#[args.getD 0 undef,args.getD 1 undef,args.getD 2 undef]/\RVl w X (.res 0) a (args.getD 0 undef)/\RVl w X (.res 1) b (args.getD 1 undef)/\RVl w X (.res 2) c (args.getD 2 undef):=by
 refine⟨?_,(h.2 0 a rfl).2,(h.2 1 b rfl).2,(h.2 2 c rfl).2⟩;apply Array.ext;·exact h.1
 .intro i h1 h2;have h3:i<3:=by simpa using h2
  rcases(by omega:i=0\/i=1\/i=2)with rfl|rfl|rfl<;>simp[Array.getD_eq_getD_getElem?,h1]
theorem yag{I:Nat->Nat->Prop}{x:D}{b o c:Nat}(h:Rep w I (.list [x]) (.slice (some ⟨b,o,none⟩) 1 c))(hx:0<x.cells.length):I b o:=by generalize hv:Value.slice (some ⟨b,o,none⟩) 1 c=v at h;cases h with|list _ b off cap sz V hs hc hh hr=>cases hv;have:=(hh 0 x rfl 0 x.cells[0] (by simp[hx])).2;simpa using this
theorem y9q(hs:∀x∈xs,x.cells.length=7)(hna:∀x∈xs,∀c∈x.cells,c.isAgg=false)(hsz:cur.size=cap*7)(hcap:xs.length<=cap)(hcells:∀(i:Nat)x,xs[i]?=some x->∀(j:Nat)c,x.cells[j]?=some c->∃u,cur[i*7+j]?=some u/\Rep w X.imm c u):RowRep w X.imm 7 xs (cur.toList.take (xs.length*7))/\∀u∈cur.toList.take (xs.length*7),u.oneCell'=true:=by
 have hrow:RowRep w X.imm 7 xs (cur.toList.take (xs.length*7)):=by
  refine⟨by simp[hsz];omega,hs,fun i x hx j c hj=>?_⟩;obtain⟨u,hu,hr⟩:=hcells i x hx j c hj;have hi:=(List.getElem?_eq_some_iff.1 hx).1;have hj2:j<7:=by rw[<-hs x (List.mem_of_getElem? hx)];exact(List.getElem?_eq_some_iff.1 hj).1
  exact⟨u,by rw[List.getElem?_take,if_pos (by omega)];simpa using hu,hr⟩
 refine⟨hrow,fun u hu=>?_⟩;obtain⟨k,hk,rfl⟩:=List.mem_iff_getElem.1 hu;have hk2:k<xs.length*7:=by rw[<-hrow.1];exact hk
 have hx:xs[k/7]?=some (xs[k/7]'(by omega)):=by simp
 have hxl:=hs _ (List.mem_of_getElem? hx);have hc:(xs[k/7]'(by omega)).cells[k%7]?=some ((xs[k/7]'(by omega)).cells[k%7]'(by omega)):=by simp
 obtain⟨u,hu,hr⟩:=hrow.2.2 _ _ hx _ _ hc;rw[show k/7*7+k%7=k by omega,List.getElem?_eq_getElem hk]at hu;cases hu;exact y3s (hna _ (List.mem_of_getElem? hx) _ (List.mem_of_getElem? hc)) hr
theorem InsOut.fin{u v:Value}{row:Option Nat}{new:List Value}(hH:HRel env X [[.own xs false]] w)(hmu:X.mu[0]?=some (.head u))(h:InsOut w row n new v w')(hrow:∀g,row=some g->∃l,X.G g=some (l,0))(hn:ds.length=n+1)(hr:RowRep w X.imm 7 ds new):∃X1,(∃more,X1.mu=X.mu++more)/\Ext X w X1 w'/\HRel env X1 [[.undef]] w'/\ResRel w' X1 (.d (.list ds)) v:=by
 obtain⟨g,cap',cur',e',rfl,hc,hg,hnew,hgr,hor⟩:=h;refine qm1 hH hmu hgr hrow ?_;have hr':=RowRep.mono (w':=w') (I':=(X.strike row).imm) (fun b o u h1 h2=>qt3 hgr hrow h1 h2) hr;rw[<-hn];refine RowRep.rep hr' (fun k u hu=>⟨?_,?_,fun l k' e=>?_⟩) (by omega);·rw[Nat.zero_add];exact(cell_of_row w' g _ cur' e' (0,0) hg).trans (hnew k u hu)
 .rcases hor with h|h;·obtain⟨l,hl⟩:=hrow g h;exact hH.oamb g l 0 hl _
  .exact hH.amb g _ h
 .simp only[Cx.strike]at e;split at e;·cases e
  .rename_i hne;rcases hor with h|h;·exact absurd h.symm hne
   .have:=hH.gdom g l k' e;omega
theorem y14:LibOk env 200 (q93 7):=by
 intro vs hp v hp' hm X w args hH hA;unfold q93 at hm;split at hm
 .rename_i i x xs;split at hm
  .rename_i hcnd;obtain⟨hi0,hin,hlen,hx,hxs⟩:=hcnd;simp only[sI,pI]at hm;obtain⟨rfl,rfl⟩:=hm;obtain⟨ha,hr0,hr1,hr2⟩:=y23 hA;obtain⟨hmu,hown⟩:=qgm hH hr0;have hr1':Rep w X.imm (.v (.int .i64 i)) (args.getD 1 undef):=hr1;have hr2':Rep w X.imm (.list [x]) (args.getD 2 undef):=hr2;rw[ha,q0t hr1'];generalize args.getD 0 undef=u0 at hmu hown;generalize args.getD 2 undef=u2 at hr2';obtain⟨n,rfl⟩:∃n:Nat,i=n:=⟨i.toNat,by omega⟩;have hx7:=q6g hx;have hs7:∀y∈xs,y.cells.length=7/\∀c∈y.cells,c.isAgg=false:=fun y hy=>q6g (List.all_eq_true.1 hxs y hy);obtain⟨ad,vc,nv,rfl,hrv,h1v,hcv⟩:=qih hr2' (fun y hy=>by simp at hy;subst hy;exact hx7) (by decide:0<7);obtain⟨vb,vo,rfl,hvs⟩:=hcv (by simp);have himm:X.imm vb vo:=yag hr2' (by rw[hx7.1];decide);have hvl:nv.length=7:=by rw[hrv.1];rfl
   obtain⟨i0,hi0',hz0,hzs,hzb⟩:=y2v;unfold q0a at hlen;have hvs':∀(k:Nat)u,nv[k]?=some u->w.cell? ((⟨vb,vo,none⟩:Addr).add k)=some u:=fun k u h=>by rw[q39];exact hvs k u h
   have hzl:∀k,(Builtin.zeroCells zMsg.cells k).size=k*7:=fun k=>by simp[Builtin.zeroCells,Value.cells]
   simp only[tN];rcases hown with⟨h0,a,rfl⟩|⟨h0,_⟩|⟨b,cap,cur,e,sz,rfl,hg,hw,hs,hz,hne,hsz,hcap,hmax,hcells⟩
   .subst h0;have:n=0:=by simpa using hin
    subst this;have hfin:∀(G:Nat)(Z:Array Value),1<=G->InsOut w none 0 nv (.slice (some ⟨w.heap.size,0,none⟩) 1 G) (w.drew.alloc (.cells (nv.toArray++Z) 82)):=fun G Z hG=>⟨_,G,_,82,rfl,hG,heap_alloc_new w.drew _,fun k u hu=>by rw[Array.getElem?_append_left (by simpa using(List.getElem?_eq_some_iff.1 hu).1)];simpa using hu,⟨rfl,rfl,rfl,by simp,fun k hk _=>heap_alloc_old w.drew _ hk⟩,.inr (Nat.le_refl _)⟩;cases a with|none=>refine(qde none 0 0 vc ⟨vb,vo,none⟩ (Nat.le_refl _) (by omega) (fun _=>rfl) w (fun ty=>run_append_nil (P:=env.P) w 90 ty 82 i0 _ Tryz.underlying90 hi0' hz0 ⟨vb,vo,none⟩ 1 vc nv (by rw[hvl,hzs]) hvs' (by omega) (by omega) (by rw[hzb];omega))).mono ?_;rintro e w1⟨rfl,rfl⟩;exact⟨_,rfl,InsOut.fin hH hmu (hfin _ _ (grownCap_ge w 1 0 82)) (fun g e=>by cases e) rfl hrv⟩|some ad=>have hrun:=fun ty=>run_append_grow (P:=env.P) w 90 ty 82 i0 _ Tryz.underlying90 hi0' hz0 ad 0 0 [] (by simp) (fun j v hv=>by simp at hv) ⟨vb,vo,none⟩ 1 vc nv (by rw[hvl,hzs]) hvs' (by omega) (by omega) (growslice_fits (by omega) (by rw[hzb];omega));refine(qde (some ad) 0 0 vc ⟨vb,vo,none⟩ (Nat.le_refl _) (by omega) (fun e=>by cases e) w hrun).mono ?_;rintro e w1⟨rfl,rfl⟩;refine⟨_,rfl,InsOut.fin hH hmu ?_ (row:=none) (fun g e=>by cases e) rfl hrv⟩;have:=hfin (grownCap w (0+1) 0 82) (Builtin.zeroCells zMsg.cells (grownCap w (0+1) 0 82-(0+1))) (grownCap_ge w 1 0 82);simpa using this
   .cases h0
   .have hsz7:sz=7:=by obtain⟨y,hy⟩:=List.exists_mem_of_ne_nil _ hne;rw[<-hs _ hy,(hs7 y hy).1]
    subst hsz7;simp only[fT,if_false]at hg;have hvb:vb≠b:=fun e=>by have:=himm.2 _ 0 (by rw[e];exact hg);omega
    obtain⟨hrow,h1c⟩:=y9q (X:=X) hs (fun y hy=>(hs7 y hy).2) hsz hcap hcells;have hcs:∀(k:Nat)u,(cur.toList.take (xs.length*7))[k]?=some u->cur[k]?=some u:=fun k u hu=>by
     rw[List.getElem?_take]at hu;split at hu;·simpa using hu
     .cases hu
    have hrowb:∀g,some b=some g->∃l,X.G g=some (l,0):=fun g e=>by cases e;exact⟨_,hg⟩
    have hnew:RowRep w X.imm 7 (xs.take n++x::xs.drop n) ((cur.toList.take (xs.length*7)).take (n*7)++nv++(cur.toList.take (xs.length*7)).drop (n*7)):=by rw[show xs.take n++x::xs.drop n=xs.take n++[x]++xs.drop n by simp];exact(RowRep.append (RowRep.append (RowRep.take hrow n) hrv) (RowRep.drop hrow n))
    have hnl:(xs.take n++x::xs.drop n).length=xs.length+1:=by simp;omega
    have hcl:(cur.toList.take (xs.length*7)).length=xs.length*7:=hrow.1;have hcap63:cap<=9223372036854775807:=by unfold maxLen at hmax;omega
    by_cases hlt:n<xs.length
    .by_cases hroom:xs.length+1<=cap;·refine(qu2 b xs.length cap n vb vo vc _ nv cur e w hlt hroom (by omega) hcap63 hvb hw hsz hcl hvl hcs hvs h1c h1v).mono ?_;rintro e1 w1⟨rfl,rfl⟩;refine⟨_,rfl,InsOut.fin hH hmu (row:=some b) ⟨b,cap,_,e,rfl,hroom,setRow_heap _ _ _ _ _ _ (setRow_heap w.drew _ _ _ _ _ hw),y28 hlt hroom hsz hcl hvl hcs,?_,.inl rfl⟩ hrowb hnl hnew⟩;exact World.grown_row _ (World.grown_row _ ⟨rfl,rfl,rfl,Nat.le_refl _,fun _ _ _=>rfl⟩)
     .refine(qvm b xs.length cap n vb vo vc _ nv cur e w hlt hcap (by omega) (by omega) hw hcl hvl hcs hvs h1c h1v).mono ?_;rintro e1 w1⟨val,rfl,hout⟩;exact⟨_,rfl,InsOut.fin hH hmu hout (fun g e=>by cases e) hnl hnew⟩
    .have:n=xs.length:=by omega
     subst this;have hnew':RowRep w X.imm 7 (xs.take xs.length++x::xs.drop xs.length) (cur.toList.take (xs.length*7)++nv):=by have e1:(cur.toList.take (xs.length*7)).take (xs.length*7)=cur.toList.take (xs.length*7):=List.take_of_length_le (by omega);have e2:(cur.toList.take (xs.length*7)).drop (xs.length*7)=[]:=List.drop_eq_nil_of_le (by omega);rw[e1,e2,List.append_nil]at hnew;exact hnew
     by_cases hroom:xs.length+1<=cap
     .have hfit:xs.length*i0.size+nv.length<=cur.size:=by rw[hzs,hvl,hsz];omega
      refine(qde (some ⟨b,0,none⟩) xs.length cap vc ⟨vb,vo,none⟩ hcap (by omega) (fun e=>by cases e) w (fun ty=>qb0 (P:=env.P) (w:=w) 90 ty 82 e i0 Tryz.underlying90 hi0' b xs.length cap cur hw ⟨vb,vo,none⟩ 1 vc nv (by rw[hvl,hzs]) hvs' h1v hroom hfit)).mono ?_;rintro e1 w1⟨rfl,rfl⟩;refine⟨_,rfl,InsOut.fin hH hmu (row:=some b) ⟨b,cap,_,e,rfl,hroom,setRow_heap _ _ _ _ _ _ hw,fun k u hu=>?_,World.grown_row _ ⟨rfl,rfl,rfl,Nat.le_refl _,fun _ _ _=>rfl⟩,.inl rfl⟩ hrowb hnl hnew'⟩;show(q1e cur (xs.length*i0.size) nv)[k]?=some u;rw[q3w _ _ _ hfit,hzs];by_cases hk:k<xs.length*7;·rw[List.getElem?_append_left (by omega)]at hu;rw[if_neg (by omega)];exact hcs k u hu
      .rw[List.getElem?_append_right (by omega),hcl]at hu;have:=(List.getElem?_eq_some_iff.1 hu).1;rw[if_pos (by omega)];exact hu
     .have hrun:=fun ty=>run_append_grow (P:=env.P) w 90 ty 82 i0 _ Tryz.underlying90 hi0' hz0 ⟨b,0,none⟩ xs.length cap (cur.toList.take (xs.length*7)) (by rw[hcl,hzs]) (fun j v hv=>by rw[q39,Nat.zero_add];exact(cell_of_row w b _ cur e (0,0) hw).trans (hcs j v hv)) ⟨vb,vo,none⟩ 1 vc nv (by rw[hvl,hzs]) hvs' (by omega) (by omega) (growslice_fits (by omega) (by rw[hzb];omega));refine(qde (some ⟨b,0,none⟩) xs.length cap vc ⟨vb,vo,none⟩ hcap (by omega) (fun e=>by cases e) w hrun).mono ?_;rintro e1 w1⟨rfl,rfl⟩;refine⟨_,rfl,InsOut.fin hH hmu (row:=none) ⟨_,_,_,82,rfl,grownCap_ge w _ _ _,heap_alloc_new w.drew _,fun k u hu=>?_,⟨rfl,rfl,rfl,by simp,fun k hk _=>heap_alloc_old w.drew _ hk⟩,.inr (Nat.le_refl _)⟩ (fun g e=>by cases e) hnl hnew'⟩;have:=(List.getElem?_eq_some_iff.1 hu).1;simp only[List.length_append]at this;rw[Array.getElem?_append_left (by simp only[Array.size_append,List.size_toArray];omega),<-hu];simp
  .cases hm
 .cases hm
end Go.Proofs.YtklhcnnpgkkjcaaGreatDoor
namespace Go.Proofs.YtklhcnnpgkkjcaaGreatDoor
open Go Go.Ab Go.RowKit
def qvt:Go.Shelf.Ren:=⟨fun|246=>177|283=>218|284=>219|285=>220|286=>221|129=>126|317=>240|318=>241|319=>242|320=>243|337=>257|338=>258|n=>n,fun|2=>2|3=>3|9=>9|4=>4|171=>224|0=>0|53=>161|37=>226|5=>5|173=>227|212=>245|51=>159|20=>20|213=>246|46=>120|232=>274|233=>275|n=>n,fun|17=>3|18=>6|19=>7|n=>n⟩
theorem y9a:Go.Proofs.Lays.n246 Tryz.prog qvt:={
 mixed:=by kernel_rfl
 f129:=Tryz.func126.trans (congrArg some (by kernel_rfl))
 f246:=Tryz.func177.trans (congrArg some (by kernel_rfl))
 f283:=Tryz.func218.trans (congrArg some (by kernel_rfl))
 f284:=Tryz.func219.trans (congrArg some (by kernel_rfl))
 f285:=Tryz.func220.trans (congrArg some (by kernel_rfl))
 f286:=Tryz.func221.trans (congrArg some (by kernel_rfl))
 f317:=Tryz.func240.trans (congrArg some (by kernel_rfl))
 f318:=Tryz.func241.trans (congrArg some (by kernel_rfl))
 f319:=Tryz.func242.trans (congrArg some (by kernel_rfl))
 f320:=Tryz.func243.trans (congrArg some (by kernel_rfl))
 f337:=Tryz.func257.trans (congrArg some (by kernel_rfl))
 f338:=Tryz.func258.trans (congrArg some (by kernel_rfl))
 t0:=Tryz.underlying0
 a0:=Tryz.isAgg0
 z0:=Tryz.sizeOf0
 v0:=Tryz.zeroValue0
 t2:=Tryz.underlying2
 a2:=Tryz.isAgg2
 z2:=Tryz.sizeOf2
 v2:=Tryz.zeroValue2
 t3:=Tryz.underlying3
 a3:=Tryz.isAgg3
 z3:=Tryz.sizeOf3
 v3:=Tryz.zeroValue3
 t4:=Tryz.underlying4
 a4:=Tryz.isAgg4
 z4:=Tryz.sizeOf4
 v4:=Tryz.zeroValue4
 t5:=Tryz.underlying5
 a5:=Tryz.isAgg5
 z5:=Tryz.sizeOf5
 v5:=Tryz.zeroValue5
 t9:=Tryz.underlying9
 a9:=Tryz.isAgg9
 z9:=Tryz.sizeOf9
 v9:=Tryz.zeroValue9
 t20:=Tryz.underlying20
 a20:=Tryz.isAgg20
 z20:=Tryz.sizeOf20
 v20:=Tryz.zeroValue20
 t37:=Tryz.underlying226
 a37:=Tryz.isAgg226
 z37:=Tryz.sizeOf226
 v37:=Tryz.zeroValue226
 t46:=Tryz.underlying120
 a46:=Tryz.isAgg120
 z46:=Tryz.sizeOf120
 v46:=Tryz.zeroValue120
 t51:=Tryz.underlying159
 a51:=Tryz.isAgg159
 z51:=Tryz.sizeOf159
 v51:=Tryz.zeroValue159
 t53:=Tryz.underlying161
 a53:=Tryz.isAgg161
 z53:=Tryz.sizeOf161
 v53:=Tryz.zeroValue161
 t171:=Tryz.underlying224
 a171:=Tryz.isAgg224
 z171:=Tryz.sizeOf224
 v171:=Tryz.zeroValue224
 t173:=Tryz.underlying227
 a173:=Tryz.isAgg227
 z173:=Tryz.sizeOf227
 v173:=Tryz.zeroValue227
 t212:=Tryz.underlying245
 a212:=Tryz.isAgg245
 z212:=Tryz.sizeOf245
 v212:=Tryz.zeroValue245
 t213:=Tryz.underlying246
 a213:=Tryz.isAgg246
 z213:=Tryz.sizeOf246
 t232:=Tryz.underlying274
 a232:=Tryz.isAgg274
 z232:=Tryz.sizeOf274
 v232:=Tryz.zeroValue274
 t233:=Tryz.underlying275
 a233:=Tryz.isAgg275
 z233:=Tryz.sizeOf275
 v233:=Tryz.zeroValue275
 g17:=by kernel_rfl
 g18:=by kernel_rfl
 g19:=by kernel_rfl}
theorem y3e{w:World}{X:Cx}{a b:AV}{args:Array Value}(h:Ab.ArgRel w X [a,b] args):args=#[args.getD 0 undef,args.getD 1 undef]/\RVl w X (.res 0) a (args.getD 0 undef)/\RVl w X (.res 1) b (args.getD 1 undef):=by
 refine⟨?_,(h.2 0 a rfl).2,(h.2 1 b rfl).2⟩;apply Array.ext;·exact h.1
 .intro i h1 h2;have h3:i<2:=by simpa using h2
  rcases(by omega:i=0\/i=1)with rfl|rfl<;>simp[Array.getD_eq_getD_getElem?,h1]
theorem qp1(w:World):w.grownBy w none:=⟨rfl,rfl,rfl,Nat.le_refl _,fun _ _ _=>rfl⟩
theorem qo7{w w':World}(h:Below w.heap.size w w'):w.grownBy w' none:=⟨h.os,h.tape,h.output,h.size,fun k hk _=>h.block k hk⟩
theorem y68:LibOk env 177 qij:=by
 intro vs hp v hp' hm X w args hH hA;unfold qij at hm;split at hm
 .rename_i n;split at hm;·rename_i hn;simp only[sI,pI]at hm;obtain⟨rfl,rfl⟩:=hm;obtain⟨ha,h0,h1⟩:=y3e hA;have e0:=q0t (show Rep w X.imm (.v (.int .i64 n)) (args.getD 0 undef)from h0);have e1:=q0t (show Rep w X.imm (.v (.int .i64 10)) (args.getD 1 undef)from h1);rw[ha,e0,e1];obtain⟨i,rfl⟩:∃i:Nat,n=(i:Int):=⟨n.toNat,by omega⟩;refine(Go.Proofs.Any.internal_strconv_FormatInt_10_small y9a i (by omega) w).mono fun e w1 h=>⟨_,h.1,?_⟩;rw[h.2];exact qgp hH (qp1 w) (.v _ rfl)
  .cases hm
 .cases hm
end Go.Proofs.YtklhcnnpgkkjcaaGreatDoor
namespace Go.Proofs.YtklhcnnpgkkjcaaGreatDoor
open Go Go.Ab Go.RowKit Go.Shelf Go.Sort Go.Maps
def q5h:Go.Shelf.Ren:=⟨fun|6=>21|8=>42|9=>43|11=>71|13=>73|12=>72|23=>125|24=>126|14=>116|15=>117|16=>118|17=>119|18=>120|19=>121|20=>122|21=>123|22=>124|25=>163|26=>164|27=>165|28=>166|29=>167|30=>168|31=>208|n=>n,fun|26=>3|28=>56|24=>22|0=>0|3=>3|37=>120|48=>159|50=>161|4=>4|40=>153|39=>152|45=>99|5=>5|9=>9|51=>184|55=>188|57=>220|58=>121|33=>96|n=>n,fun|n=>n⟩
theorem y9f:Go.Proofs.SlLaysZI.n6 Tryz.prog q5h:={
 mixed:=by kernel_rfl
 f6:=⟨("slices.Sorted[int]"),by decide,Tryz.func21.trans (congrArg some (by kernel_rfl))⟩
 f8:=⟨("slices.Collect[int]"),by decide,Tryz.func42.trans (congrArg some (by kernel_rfl))⟩
 f11:=⟨("slices.AppendSeq[[]int,int]"),by decide,Tryz.func71.trans (congrArg some (by kernel_rfl))⟩
 t0:=Tryz.underlying0
 a0:=Tryz.isAgg0
 z0:=Tryz.sizeOf0
 v0:=Tryz.zeroValue0
 t24:=Tryz.underlying22
 a24:=Tryz.isAgg22
 z24:=Tryz.sizeOf22
 v24:=Tryz.zeroValue22
 t26:=Tryz.underlying3
 a26:=Tryz.isAgg3
 z26:=Tryz.sizeOf3
 v26:=Tryz.zeroValue3
 t28:=Tryz.underlying56
 a28:=Tryz.isAgg56
 z28:=Tryz.sizeOf56
 v28:=Tryz.zeroValue56
 i26:=by kernel_rfl}
def y4y:Go.Shelf.Ren:=⟨fun|5=>43|8=>73|7=>72|19=>125|20=>126|10=>116|11=>117|12=>118|13=>119|14=>120|15=>121|16=>122|17=>123|18=>124|30=>163|31=>164|32=>165|33=>166|34=>167|35=>168|40=>208|n=>n,fun|23=>22|25=>3|3=>3|32=>120|22=>22|0=>0|44=>159|46=>161|4=>4|36=>153|35=>152|41=>99|5=>5|9=>9|53=>184|57=>188|63=>220|64=>121|n=>n,fun|n=>n⟩
theorem sortM:Go.Proofs.SlLaysM.n5 Tryz.prog y4y:={
 mixed:=by kernel_rfl
 f5:=⟨("slices.Sort[[]int,int]"),by decide,Tryz.func43.trans (congrArg some (by kernel_rfl))⟩
 f7:=⟨("slices.pdqsortOrdered[int]"),by decide,Tryz.func72.trans (congrArg some (by kernel_rfl))⟩
 f8:=Tryz.func73.trans (congrArg some (by kernel_rfl))
 f10:=⟨("slices.insertionSortOrdered[int]"),by decide,Tryz.func116.trans (congrArg some (by kernel_rfl))⟩
 f11:=⟨("slices.heapSortOrdered[int]"),by decide,Tryz.func117.trans (congrArg some (by kernel_rfl))⟩
 f12:=⟨("slices.breakPatternsOrdered[int]"),by decide,Tryz.func118.trans (congrArg some (by kernel_rfl))⟩
 f13:=⟨("slices.choosePivotOrdered[int]"),by decide,Tryz.func119.trans (congrArg some (by kernel_rfl))⟩
 f14:=⟨("slices.reverseRangeOrdered[int]"),by decide,Tryz.func120.trans (congrArg some (by kernel_rfl))⟩
 f15:=⟨("slices.partialInsertionSortOrdered[int]"),by decide,Tryz.func121.trans (congrArg some (by kernel_rfl))⟩
 f16:=⟨("cmp.Less[int]"),by decide,Tryz.func122.trans (congrArg some (by kernel_rfl))⟩
 f17:=⟨("slices.partitionEqualOrdered[int]"),by decide,Tryz.func123.trans (congrArg some (by kernel_rfl))⟩
 f18:=⟨("slices.partitionOrdered[int]"),by decide,Tryz.func124.trans (congrArg some (by kernel_rfl))⟩
 f19:=Tryz.func125.trans (congrArg some (by kernel_rfl))
 f20:=Tryz.func126.trans (congrArg some (by kernel_rfl))
 f30:=⟨("slices.siftDownOrdered[int]"),by decide,Tryz.func163.trans (congrArg some (by kernel_rfl))⟩
 f31:=Tryz.func164.trans (congrArg some (by kernel_rfl))
 f32:=Tryz.func165.trans (congrArg some (by kernel_rfl))
 f33:=⟨("slices.medianAdjacentOrdered[int]"),by decide,Tryz.func166.trans (congrArg some (by kernel_rfl))⟩
 f34:=⟨("slices.medianOrdered[int]"),by decide,Tryz.func167.trans (congrArg some (by kernel_rfl))⟩
 f35:=⟨("cmp.isNaN[int]"),by decide,Tryz.func168.trans (congrArg some (by kernel_rfl))⟩
 f40:=⟨("slices.order2Ordered[int]"),by decide,Tryz.func208.trans (congrArg some (by kernel_rfl))⟩
 t0:=Tryz.underlying0
 a0:=Tryz.isAgg0
 z0:=Tryz.sizeOf0
 v0:=Tryz.zeroValue0
 t3:=Tryz.underlying3
 a3:=Tryz.isAgg3
 z3:=Tryz.sizeOf3
 v3:=Tryz.zeroValue3
 t4:=Tryz.underlying4
 a4:=Tryz.isAgg4
 z4:=Tryz.sizeOf4
 v4:=Tryz.zeroValue4
 t5:=Tryz.underlying5
 a5:=Tryz.isAgg5
 z5:=Tryz.sizeOf5
 v5:=Tryz.zeroValue5
 t9:=Tryz.underlying9
 a9:=Tryz.isAgg9
 z9:=Tryz.sizeOf9
 v9:=Tryz.zeroValue9
 t22:=Tryz.underlying22
 a22:=Tryz.isAgg22
 z22:=Tryz.sizeOf22
 v22:=Tryz.zeroValue22
 t23:=Tryz.underlying22
 a23:=Tryz.isAgg22
 z23:=Tryz.sizeOf22
 v23:=Tryz.zeroValue22
 t25:=Tryz.underlying3
 a25:=Tryz.isAgg3
 z25:=Tryz.sizeOf3
 v25:=Tryz.zeroValue3
 t32:=Tryz.underlying120
 a32:=Tryz.isAgg120
 z32:=Tryz.sizeOf120
 v32:=Tryz.zeroValue120
 t35:=Tryz.underlying152
 a35:=Tryz.isAgg152
 z35:=Tryz.sizeOf152
 v35:=Tryz.zeroValue152
 t36:=Tryz.underlying153
 a36:=Tryz.isAgg153
 z36:=Tryz.sizeOf153
 v36:=Tryz.zeroValue153
 t41:=Tryz.underlying99
 a41:=Tryz.isAgg99
 z41:=Tryz.sizeOf99
 v41:=Tryz.zeroValue99
 t44:=Tryz.underlying159
 a44:=Tryz.isAgg159
 z44:=Tryz.sizeOf159
 v44:=Tryz.zeroValue159
 t46:=Tryz.underlying161
 a46:=Tryz.isAgg161
 z46:=Tryz.sizeOf161
 v46:=Tryz.zeroValue161
 t53:=Tryz.underlying184
 a53:=Tryz.isAgg184
 z53:=Tryz.sizeOf184
 v53:=Tryz.zeroValue184
 t57:=Tryz.underlying188
 a57:=Tryz.isAgg188
 z57:=Tryz.sizeOf188
 v57:=Tryz.zeroValue188
 t63:=Tryz.underlying220
 a63:=Tryz.isAgg220
 z63:=Tryz.sizeOf220
 v63:=Tryz.zeroValue220
 t64:=Tryz.underlying121
 a64:=Tryz.isAgg121
 z64:=Tryz.sizeOf121
 v64:=Tryz.zeroValue121}
set_option maxRecDepth 100000 in
set_option maxHeartbeats 2000000 in
theorem y1f(n l Bs n₀ b off cap:Nat)(hn:1<=n)(zs:LI)(hlen:zs.length<=1000)(hb:b<n₀)(hBn:Bs<n₀)(w0:World)(J:LI->World->Prop)(hJ:∀s W,J s W->Below n₀ w0 W)(hY:∀pre x W,J pre W->pre.length<zs.length->YieldAt Fence.wide (n-1) Tryz.prog l #[.int .i64 x] W fun e W'=>e=.returned (.bool true)/\J (pre++[x]) W')(hBs:w0.cell? ⟨Bs,0,none⟩=some (.slice (some ⟨b,off,none⟩) zs.length cap))(hc:∀j,j<zs.length->w0.cell? ⟨b,off+j,none⟩=some (.int .i64 (zs[j]?.getD 0)))(W:World)(h0:J [] W):CallsIn Fence.wide n Tryz.prog 44 #[.func (.yield l) #[] #[],.pointer (some ⟨Bs,0,none⟩)] W fun e W'=>(∃v,e=.returned v)/\J zs W':=by
 have hBs':W.cell? ⟨Bs,0,none⟩=_:=((hJ _ _ h0).cell (p:=⟨Bs,0,none⟩) hBn).trans hBs;refine callsIn_of_wp Tryz.func44 rfl trivial ?_ rfl;simp only[Tryz.ntmps44,List.size_toArray,List.length_cons,List.length_nil,Nat.reduceAdd,Nat.reduceSub,Array.replicate_succ,Array.replicate_zero,List.push_toArray,List.append_toArray,List.nil_append,List.cons_append];gi_wp2;gi_loopw [7](fun i wr=>∃k:Nat,k<=zs.length/\i=.int .i64 k/\J (zs.take k) wr)(fun i _=>zs.length-(intOf i).toNat);case atStart=>exact⟨0,Nat.zero_le _,rfl,h0⟩
 case round=>
  obtain⟨k,hk,rfl,hJs⟩:=hrel;have hcx:k<zs.length->wr.cell? ⟨b,off+k,none⟩=some (.int .i64 (zs[k]?.getD 0)):=fun h=>((hJ _ _ hJs).cell (p:=⟨b,off+k,none⟩) hb).trans (hc k h);by_cases hlt:k<zs.length
  .obtain⟨x,hx⟩:∃x,zs[k]?=some x:=⟨_,List.getElem?_eq_getElem hlt⟩;obtain⟨fn,tmps,assign,body,hy,hR⟩:=hY _ x wr hJs (by rw[List.length_take];omega);have hcx':=hcx hlt;rw[hx,Option.getD_some]at hcx';clear hcx;gi_wp2;refine hR.mono ?_;rintro e W3⟨rfl,hJ3⟩;gi_wp2;go_roundw;case rel=>exact⟨k+1,by omega,by simp,by rw[List.take_add_one,hx];exact hJ3⟩
   case measure=>simp[intOf];omega
  .obtain rfl:k=zs.length:=by omega
   gi_wp2;go_end0;rw[List.take_length]at hJs;exact⟨⟨_,rfl⟩,hJs⟩
set_option maxRecDepth 100000 in
set_option maxHeartbeats 2000000 in
theorem y6r(n Bs b off cap:Nat)(hn:2<=n)(zs:LI)(hlen:zs.length<=1000)(w:World)(hb:b<w.heap.size)(hBn:Bs<w.heap.size)(hBs:w.cell? ⟨Bs,0,none⟩=some (.slice (some ⟨b,off,none⟩) zs.length cap))(hc:∀j,j<zs.length->w.cell? ⟨b,off+j,none⟩=some (.int .i64 (zs[j]?.getD 0))):CallsIn Fence.wide n Tryz.prog 71 #[.slice none 0 0,.func (.func 44) #[] #[.pointer (some ⟨Bs,0,none⟩)]] w fun e w'=>∃v:Value,e=.returned v/\w'.ownsRow w.heap.size 3 1 v zs.length (zs.map encZ)/\(v=.slice none 0 0↔zs=[])/\Below w.heap.size w w':=by
 have eg:∀args w,(callFunc 44 args).run Tryz.prog w=.ok (.enter 44 args) w:=enters_of Tryz.func44 (by kernel_rfl) rfl;refine callsIn_of_wp_marks Tryz.func71 rfl trivial ?_ rfl;simp only[Tryz.ntmps71,List.size_toArray,List.length_cons,List.length_nil,Nat.reduceAdd,Nat.reduceSub,Array.replicate_succ,Array.replicate_zero,List.push_toArray,List.append_toArray,List.nil_append,List.cons_append];gi_wp2;refine wpIn_rangeFunc ?_;intro fn hfn;obtain⟨W0,hW0⟩:∃W0,w.alloc (.cells #[.slice none 0 0] 22)=W0:=⟨_,rfl⟩;have hs0:W0.heap.size=w.heap.size+1:=by rw[<-hW0];simp
 have hv0:W0.heap[w.heap.size]?=some (.cells #[.slice none 0 0] 22 (0,0)):=by rw[<-hW0];exact World.alloc_heap_new w _
 have hb0:Below w.heap.size w W0:=by rw[<-hW0];exact(Below.refl _ w).alloc (Nat.le_refl _) _
 rw[hW0];obtain⟨W1,hW1⟩:∃W1,(W0.alloc (.deferred (some []))).alloc (.loop (AnyZI.apRec q5h fn (.func (.func 44) #[] #[.pointer (some ⟨Bs,0,none⟩)]) w.heap.size W0.heap.size .ready none))=W1:=⟨_,rfl⟩;have hold:∀k,k<W0.heap.size->W1.heap[k]?=W0.heap[k]?:=fun k hk=>by rw[<-hW1];exact(Below.heap_alloc _ _ k (by simp;omega)).trans (Below.heap_alloc _ _ k hk)
 have hb1:Below w.heap.size w W1:=by rw[<-hW1];exact(hb0.alloc hb0.size _).alloc (by have:=hb0.size;simp;omega) _
 have hM:AnyZI.ApAt q5h w fn (.func (.func 44) #[] #[.pointer (some ⟨Bs,0,none⟩)]) w.heap.size (W0.heap.size+1) W0.heap.size [] W1:=⟨⟨_,(hold w.heap.size (by omega)).trans hv0,⟨rfl,.inl ⟨rfl,rfl⟩⟩,by simp⟩,by rw[<-hW1];have:=World.alloc_heap_new (W0.alloc (.deferred (some []))) (.loop (AnyZI.apRec q5h fn (.func (.func 44) #[] #[.pointer (some ⟨Bs,0,none⟩)]) w.heap.size W0.heap.size .ready none));rwa [World.size_alloc]at this,by rw[<-hW1];exact(Below.heap_alloc _ _ _ (by simp)).trans (World.alloc_heap_new W0 _),hb1⟩;refine⟨W0.heap.size+1,[{target:=.collected W0.heap.size,args:=#[]}],W1,{target:=.fn (.func 44) #[.pointer (some ⟨Bs,0,none⟩)],args:=#[.func (.yield (W0.heap.size+1)) #[] #[]]},W1,44,#[.func (.yield (W0.heap.size+1)) #[] #[]]++#[.pointer (some ⟨Bs,0,none⟩)],W1,?_,?_,?_,?_,fun _=>(by omega:1<=n),?_⟩;·rw[<-hW1];exact run_enterLoop_outer _ _ _ _ _
 .simp[resolve,go_sem]
 .intro f' hf';exact trivial
 .simp[invoke,go_sem,eg]
 .refine(y1f (n-1) (W0.heap.size+1) Bs w.heap.size b off cap (by omega) zs hlen hb hBn w (AnyZI.ApAt q5h w fn (.func (.func 44) #[] #[.pointer (some ⟨Bs,0,none⟩)]) w.heap.size (W0.heap.size+1) W0.heap.size) (fun s W h=>h.below) (fun pre x W hJ hl=>(AnyZI.apYield {y9f with} Fence.wide (n-1-1) w fn hfn _ w.heap.size (W0.heap.size+1) W0.heap.size (by omega) (by omega) (by omega) (Nat.le_refl _) (by omega) 1000 (by decide) (by decide) pre x W hJ (by omega)).mono fun e W' h=>⟨h.1,h.2.1⟩) hBs hc W1 hM).mono ?_;rintro e W2⟨⟨v0,rfl⟩,h2⟩;obtain⟨v,hv,hrow,hnil⟩:=h2.box;have hend:=run_endLoop (P:=Tryz.prog) h2.L (by simp[AnyZI.apRec]);obtain⟨W3,hW3⟩:∃W3,W2.putObj (W0.heap.size+1) (.loop {AnyZI.apRec q5h fn (.func (.func 44) #[] #[.pointer (some ⟨Bs,0,none⟩)]) w.heap.size W0.heap.size .ready none with state:=.exhausted})=W3:=⟨_,rfl⟩;rw[hW3]at hend;have hg3:W2.grownBy W3 (some (W0.heap.size+1)):=by rw[<-hW3];exact grownBy_putObj_a _ _ _
  have hv3:W3.heap[w.heap.size]?=some (.cells #[v] 22 (0,0)):=by rw[<-hW3];exact(World.putObj_heap_other (by omega)).trans hv
  have hK3:W3.heap[W0.heap.size]?=some (.deferred (some [])):=by rw[<-hW3];exact(World.putObj_heap_other (by omega)).trans h2.K
  have hrow3:=hrow.kept hg3 (ownsRow_ne_a hrow h2.L (fun cur e=>by cases e));have hb3:Below w.heap.size w W3:=h2.below.grown hg3 h2.below.size (fun k e=>by cases e;omega);obtain⟨hc3,hf3⟩:=cell_of_box_a hv3;clear hW3;refine⟨none,W3,hend,?_⟩;gi_wp2;rw[<-hs0];refine⟨by simp,.inl ⟨_,_,rfl,run_takeDeferred hK3,?_⟩⟩;exact⟨_,results_tmp rfl _ _ _,v,rfl,hrow3.kept (grownBy_putObj_a _ _ _) (ownsRow_ne_a hrow3 hK3 (fun cur e=>by cases e)),hnil,hb3.grown (grownBy_putObj_a _ _ _) hb3.size (fun k e=>by cases e;omega)⟩
set_option maxRecDepth 100000 in
set_option maxHeartbeats 1000000 in
theorem qx9(Bs b off cap:Nat)(zs:LI)(hlen:zs.length<=1000)(w:World)(hb:b<w.heap.size)(hBn:Bs<w.heap.size)(hBs:w.cell? ⟨Bs,0,none⟩=some (.slice (some ⟨b,off,none⟩) zs.length cap))(hc:∀j,j<zs.length->w.cell? ⟨b,off+j,none⟩=some (.int .i64 (zs[j]?.getD 0))):Calls Tryz.prog 21 #[.func (.func 44) #[] #[.pointer (some ⟨Bs,0,none⟩)]] w fun e w'=>∃v:Value,e=.returned v/\w'.ownsRow w.heap.size 3 1 v zs.length ((zs.mergeSort fun x y=>decide (x<=y)).map encZ)/\(v=.slice none 0 0↔zs=[])/\Below w.heap.size w w':=by
 refine(callsIn_wide (n:=6)).1 ?_;have hap:=y6r 4 Bs b off cap (by omega) zs hlen w hb hBn hBs hc;have e71:∀args w,(callFunc 71 args).run Tryz.prog w=.ok (.enter 71 args) w:=enters_of Tryz.func71 (by kernel_rfl) rfl;have e42:∀args w,(callFunc 42 args).run Tryz.prog w=.ok (.enter 42 args) w:=enters_of Tryz.func42 (by kernel_rfl) rfl;have e43:∀args w,(callFunc 43 args).run Tryz.prog w=.ok (.enter 43 args) w:=enters_of Tryz.func43 (by kernel_rfl) rfl;have h71:Fence.wide.fn 71:=trivial;have h42:Fence.wide.fn 42:=trivial;have h43:Fence.wide.fn 43:=trivial;have hcol:CallsIn Fence.wide 5 Tryz.prog 42 #[.func (.func 44) #[] #[.pointer (some ⟨Bs,0,none⟩)]] w fun e w'=>∃v:Value,e=.returned v/\w'.ownsRow w.heap.size 3 1 v zs.length (zs.map encZ)/\(v=.slice none 0 0↔zs=[])/\Below w.heap.size w w':=by refine callsIn_of_wp Tryz.func42 rfl trivial ?_ rfl;simp only[Tryz.ntmps42,List.size_toArray,List.length_cons,List.length_nil,Nat.reduceAdd,Nat.reduceSub,Array.replicate_succ,Array.replicate_zero,List.push_toArray,List.append_toArray,List.nil_append,List.cons_append];gi_wp2_with(gi_at_call 71;refine hap.mono ?_;rintro e w'⟨v,rfl,hrow,hnil,hb⟩);go_ret;exact⟨v,rfl,hrow,hnil,hb⟩
 refine callsIn_of_wp Tryz.func21 rfl trivial ?_ rfl;simp only[Tryz.ntmps21,List.size_toArray,List.length_cons,List.length_nil,Nat.reduceAdd,Nat.reduceSub,Array.replicate_succ,Array.replicate_zero,List.push_toArray,List.append_toArray,List.nil_append,List.cons_append];gi_wp2_with(gi_at_call 42;refine hcol.mono ?_;rintro e W⟨v,rfl,hrow,hnil,hbW⟩);rcases hrow.2 with⟨rfl,hz⟩|⟨gb,cap,cur,rfl,hbase,hgb,r1,r2,r3,r4⟩;·obtain rfl:zs=[]:=List.eq_nil_of_length_eq_zero hz;have hs:=callsIn_wide (n:=5).2 (AnyM.slices_Sort_int_none sortM none 0 W);change CallsIn _ _ _ 43 _ _ _ at hs;gi_wp2_with(gi_at_call 43;refine hs.mono ?_;rintro e w'⟨rfl,rfl⟩);go_ret;exact⟨.slice none 0 0,rfl,by simpa using hrow,by simp,hbW⟩
 .have hH:Holds encZ W gb 0 zs.toArray:=holds_of_block_i hgb (by simpa using r4);have hgl:gb<W.heap.size:=(Array.getElem?_eq_some_iff.1 hgb).1;have hs:=callsIn_wide (n:=5).2 (AnyM.slices_Sort_int sortM gb 0 cap zs W hH hgl (by omega));change CallsIn _ _ _ 43 _ _ _ at hs;gi_wp2_with(gi_at_call 43;refine hs.mono ?_;rintro e w'⟨rfl,nn,os,rfl⟩);go_ret;exact⟨_,rfl,ownsRow_sorted_i (by simp) hbase hgb r1 r2 r3,hnil,hbW.grown (grownBy_sorted_i _) hbW.size (fun j hj=>by cases hj;exact hbase)⟩
theorem qjg:∀{l:List D}{zs:LI},q9m l=some zs->l=zs.map fun n=>.v (.int .i64 n)|[],zs,h=>by simp only[q9m,sI]at h;subst h;rfl|.v (.int .i64 a)::r,zs,h=>by simp only[q9m,Option.map_eq_some_iff]at h;obtain⟨v,h1,rfl⟩:=h;rw[qjg h1];rfl
theorem y5e{w:World}{I:Nat->Nat->Prop}{zs:LI}:RowRep w I 1 (zs.map fun n=>D.v (.int .i64 n)) (zs.map encZ):=by
 refine⟨by simp,fun x hx=>by obtain⟨n,_,rfl⟩:=List.mem_map.1 hx;rfl,fun i x hx j c hj=>?_⟩;rw[List.getElem?_map,Option.map_eq_some_iff]at hx;obtain⟨n,hn,rfl⟩:=hx;have hj0:j=0:=by have:=(List.getElem?_eq_some_iff.1 hj).1;simp[D.cells]at this;exact this
 subst hj0;simp[D.cells]at hj;subst hj;exact⟨encZ n,by simp[hn],.v _ rfl⟩
theorem y0o:LibOk env 21 (q6u 44):=by
 intro vs hp v hp' hm X w args hH hA;unfold q6u at hm;split at hm
 .rename_i g' xs;split at hm
  .rename_i l hl;split at hm
   .rename_i hcnd;obtain⟨rfl,hlen,hne⟩:=hcnd;simp only[sI,pI]at hm;obtain⟨rfl,rfl⟩:=hm;have hx:=qjg hl;subst hx;obtain⟨cb,hv1,hcb,hcp⟩:=(hA.2 0 _ rfl).2;obtain⟨b0,hmu,hb0⟩:=hcp 0 0 0 rfl;have hcb1:cb=#[.pointer (some ⟨b0,0,none⟩)]:=by
     apply Array.ext;·exact hcb
     .intro i h1 h2;have hs:cb.size=1:=hcb;obtain rfl:i=0:=by omega
      rw[Array.getElem?_eq_getElem h1]at hb0;exact Option.some.inj hb0
    have ha:args=#[.func (.func 44) #[] #[.pointer (some ⟨b0,0,none⟩)]]:=by
     have hs:args.size=1:=hA.1;subst hcb1;rw[<-hv1];apply Array.ext;·exact hs
     .intro i h1 h2;rw[hs]at h1;obtain rfl:i=0:=by omega
      simp[Array.getD_eq_getD_getElem?,hs]
    rw[ha];have hbox:∃u,w.cell? ⟨b0,0,none⟩=some u/\Rep w X.imm (.list (l.map fun n=>D.v (.int .i64 n))) u/\b0<w.heap.size:=by
     rcases hH.heap 0 _ rfl with⟨b,cur,e,h1,h2,h3,h4,h5⟩|⟨v,c,h1,_,_⟩;·rw[hmu]at h1;cases h1;have hs:cur.size=1:=h4;refine⟨cur.getD 0 undef,?_,(h5 0 _ rfl).1,(Array.getElem?_eq_some_iff.1 h3).1⟩;rw[cell_of_row _ _ _ _ _ _ h3];simp[hs]
     .rw[hmu]at h1;cases h1
    obtain⟨u,hu,hrep,hbl⟩:=hbox;obtain⟨ad,cap,row,rfl,hrr,_,hcs⟩:=qih (sz:=1) hrep (fun x hx=>by obtain⟨n,_,rfl⟩:=List.mem_map.1 hx;exact⟨rfl,by simp[D.cells,D.isAgg]⟩) (by decide);obtain⟨b,off,rfl,hrow⟩:=hcs (by simpa using hne);rw[List.length_map]at hu;have hcell:∀j,j<l.length->w.cell? ⟨b,off+j,none⟩=some (.int .i64 (l[j]?.getD 0)):=fun j hj=>by
     have hj':(l.map fun n=>D.v (.int .i64 n))[j]?=some (.v (.int .i64 l[j])):=by rw[List.getElem?_map,List.getElem?_eq_getElem hj];rfl
     obtain⟨u0,k0,r0⟩:=hrr.2.2 j _ hj' 0 _ rfl;rw[q0t r0,show j*1+0=j by omega]at k0;rw[hrow j _ k0,List.getElem?_eq_getElem hj,Option.getD_some]
    have hbb:b<w.heap.size:=World.block_lt_of_cell? w ⟨b,off+0,none⟩ (hcell 0 (List.length_pos_iff.2 hne));refine(qx9 b0 b off cap l hlen w hbb hbl hu hcell).mono ?_;rintro e1 w1⟨v,rfl,hrow1,hnil,hb1⟩;have hL:(l.mergeSort fun x y=>decide (x<=y)).length=l.length:=List.length_mergeSort _;rcases hrow1.2 with⟨rfl,hz⟩|⟨g,cap1,cur,rfl,hbase,hgb,r1,r2,r3,r4⟩;·exact absurd (hnil.1 rfl) hne
    .have hrp:=RowRep.rep (w:=w1) (I:=X.imm) (b:=g) (o:=0) (cap:=cap1) (y5e (zs:=l.mergeSort fun x y=>decide (x<=y))) (fun k u hk=>⟨?_,hH.amb g _ hbase,fun l' k' e=>absurd (hH.gdom g l' k' e) (by omega)⟩) (by rw[List.length_map,hL];exact r1);·rw[List.length_map,hL]at hrp;exact⟨_,rfl,qgp hH (qo7 hb1) hrp⟩
     .have hk':k<l.length:=by have:=(List.getElem?_eq_some_iff.1 hk).1;simpa[hL]using this
      rw[cell_of_row _ _ _ _ _ _ hgb,Nat.zero_add,<-Array.getElem?_toList];have:(cur.toList.take (l.length*1))[k]?=some u:=by rw[r4];exact hk
      rwa [List.getElem?_take_of_lt (by omega)]at this
   .cases hm
  .cases hm
 .cases hm
end Go.Proofs.YtklhcnnpgkkjcaaGreatDoor
namespace Go.Proofs.YtklhcnnpgkkjcaaGreatDoor
open Go Go.Ab Go.RowKit Go.Sort Go.Shelf Go.Lib
set_option maxRecDepth 100000 in
theorem y5z(x:Int)(W:World):Calls Tryz.prog 168 #[.int .i64 x] W fun e w'=>e=.returned (.bool false)/\w'=W:=by go_enter Tryz.func168,Tryz.ntmps168;go_wp2;go_ret;exact⟨by simp,rfl⟩
def sgnI(x y:Int):Int:=if x<y then-1 else if y<x then 1 else 0
set_option maxRecDepth 100000 in
theorem qqr(x y:Int)(W:World):Calls Tryz.prog 145 #[.int .i64 x,.int .i64 y] W fun e w'=>e=.returned (.int .i64 (sgnI x y))/\w'=W:=by
 have hn:=y5z;unfold sgnI;go_enter Tryz.func145,Tryz.ntmps145;go_wp2_with(go_at_call 168;refine(hn _ _).mono ?_;rintro e w'⟨rfl,rfl⟩);all_goals go_ret
 all_goals exact⟨rfl,rfl⟩
def orSgn(x y:Int):Int:=if x=0 then y else x
set_option maxRecDepth 100000 in
theorem qhy(x y:Int)(b:Nat)(W:World)(c0:W.cell? ⟨b,0,none⟩=some (.int .i64 x))(c1:W.cell? ⟨b,1,none⟩=some (.int .i64 y)):Calls Tryz.prog 144 #[.slice (some ⟨b,0,none⟩) 2 2] W fun e w'=>e=.returned (.int .i64 (orSgn x y))/\w'=W:=by
 go_enter Tryz.func144,Tryz.ntmps144;go_wp2;refine wp_loop_rounds 3 ?_;rw[rounds_succ];go_wp2
 .go_ret;rename_i h;have:x≠0:=by simpa using h
  exact⟨by simp[orSgn,this],rfl⟩
 .rw[rounds_succ];rename_i h;have hx:x=0:=by simpa using h
  subst hx;go_wp2;·go_ret;exact⟨by simp[orSgn],rfl⟩
  .rw[rounds_succ];rename_i h;have hy:y=0:=by simpa using h
   subst hy;go_wp2;go_ret;exact⟨by simp[orSgn],rfl⟩
set_option maxRecDepth 100000 in
theorem y3t(x y:Int×Int)(W:World):Calls Tryz.prog 205 #[.agg #[.int .i64 x.1,.int .i64 x.2],.agg #[.int .i64 y.1,.int .i64 y.2]] W fun e w'=>e=.returned (.int .i64 (orSgn (sgnI x.1 y.1) (sgnI x.2 y.2)))/\∃q os',w'=grow (W.drewN q) os':=by
 have hc:=qqr;have ho:=qhy;generalize hW1:W.alloc (.cells #[.int .i64 x.1,.int .i64 x.2] 73)=W1 at*;generalize hW2:W1.alloc (.cells #[.int .i64 y.1,.int .i64 y.2] 73)=W2 at*;have b1:W2.heap[W.heap.size]?=some (.cells #[.int .i64 x.1,.int .i64 x.2] 73 (0,0)):=by rw[<-hW2,heap_alloc_old W1 _ (by rw[<-hW1];simp),<-hW1];exact heap_alloc_new W _
 have b2:W2.heap[W1.heap.size]?=some (.cells #[.int .i64 y.1,.int .i64 y.2] 73 (0,0)):=by rw[<-hW2];exact heap_alloc_new W1 _
 have k0:=cell_of_row W2 _ 0 _ _ _ b1;have k1:=cell_of_row W2 _ 1 _ _ _ b1;have k2:=cell_of_row W2 _ 0 _ _ _ b2;have k3:=cell_of_row W2 _ 1 _ _ _ b2;simp only[List.size_toArray,List.length_cons,List.length_nil,Nat.zero_add,Nat.reduceAdd,Nat.reduceLT,getElem?_pos,List.getElem_toArray,List.getElem_cons_zero,List.getElem_cons_succ]at k0 k1 k2 k3;clear b1 b2;clear hc ho;have hc:=qqr;have ho:=qhy;go_enter Tryz.func205,Tryz.ntmps205;go_wp2;go_region_held3(fun w'=>w'.cell? ⟨W.heap.size,0,none⟩=some (.int .i64 x.1)/\w'.cell? ⟨W.heap.size,1,none⟩=some (.int .i64 x.2)/\w'.cell? ⟨W1.heap.size,0,none⟩=some (.int .i64 y.1)/\w'.cell? ⟨W1.heap.size,1,none⟩=some (.int .i64 y.2))(go_keep)(first|(go_at_call 145;refine(hc _ _ _).mono ?_;rintro e w'⟨rfl,rfl⟩)|(go_at_call 144;refine(ho (sgnI x.1 y.1) (sgnI x.2 y.2) _ _ (cell_of_row _ _ 0 _ _ _ (heap_alloc_new _ _)) (cell_of_row _ _ 1 _ _ _ (heap_alloc_new _ _))).mono ?_;rintro e w'⟨rfl,rfl⟩));all_goals go_wp2
 go_ret;subst hW2;subst hW1;exact⟨rfl,1,_,by rw[alloc_eq_grow,alloc_eq_grow,alloc_eq_grow,grow_grow,grow_grow];rfl⟩
theorem qmm{E:Env0}{X:Cx}{w w':World}{xs ds:List D}{b cap sz:Nat}{cur':Array Value}{e:TypeId}(h:HRel E X [[.own xs false]] w)(hu:X.mu[0]?=some (.head (.slice (some ⟨b,0,none⟩) ds.length cap)))(hG:X.G b=some (.cell 0 0,0))(hg:w.grownBy w' (some b))(hb:w'.heap[b]?=some (.cells cur' e (0,0)))(hs:∀x∈ds,x.cells.length=sz)(hz:0<sz)(hne:ds≠[])(hsz:cur'.size=cap*sz)(hcap:ds.length<=cap)(hml:cap<=maxLen)(hc:∀(i:Nat)x,ds[i]?=some x->∀(j:Nat)c,x.cells[j]?=some c->∃u,cur'[i*sz+j]?=some u/\Rep w X.imm c u):∃X1,(∃more,X1.mu=X.mu++more)/\Ext X w X1 w'/\HRel E X1 [[.own ds false]] w'/\ResRel w' X1 (.tup []) (.tuple #[]):=by
 have hE:Ext X w X w':=by
  refine⟨rfl,hg.size,hg.os,hg.tape,hg.output,fun c hc hn=>⟨hn,hg.block c hc fun e=>?_⟩,fun c l k hk=>⟨fun l' k' e=>?_,fun o ho=>?_⟩⟩;·cases e;rw[hG]at hn;cases hn
  .rw[hk]at e;cases e;exact Nat.le_refl _
  .by_cases hcb:c=b;·subst hcb;rw[hG]at hk;cases hk;omega
   .exact cell?_of_heap (hg.block c (h.gdom c l k hk) fun e=>by cases e;exact hcb rfl) o
 refine⟨X,⟨[],by simp⟩,hE,⟨fun t=>trivial,fun t ht=>by obtain⟨v,hv,hne⟩:=ht;exact absurd hv.symm hne,h.mu,fun o cs hcs=>?_,fun b l k e=>Nat.lt_of_lt_of_le (h.gdom b l k e) hg.size,fun b o hb=>h.amb b o (Nat.le_trans hg.size hb),h.oamb,fun g cs hgl j c hj=>?_,rfl⟩,.inl ⟨⟨rfl,rfl,(fun _ e=>by cases e),⟨#[],rfl,rfl,fun j c hj=>by cases hj⟩⟩,rfl⟩⟩;·cases o with|zero=>simp at hcs;subst hcs;refine .inr ⟨_,_,hu,rfl,.inr (.inr ⟨b,cap,cur',e,sz,rfl,hG,hb,hs,hz,hne,hsz,hcap,hml,fun i x hx j c hj=>?_⟩)⟩;obtain⟨u,hu,hr⟩:=hc i x hx j c hj;exact⟨u,hu,hE.rep hr⟩|succ o=>simp at hcs
 .obtain⟨u,h1,h2,h3⟩:=h.glob g cs hgl j c hj;exact⟨u,(hE.point h1 h2).1,(hE.point h1 h2).2,hE.rep h3⟩
def encZ(p:Int×Int):List Value:=[.int .i64 p.1,.int .i64 p.2]
def cmpZ(x y:Int×Int):Int:=orSgn (sgnI x.1 y.1) (sgnI x.2 y.2)
theorem qo4(x y:Int×Int):ltOf cmpZ x y=qcn x y:=by
 have h:ltOf cmpZ x y=true↔qcn x y=true:=by by_cases a:x.1<y.1<;>by_cases b:y.1<x.1<;>by_cases c:x.2<y.2<;>by_cases d:y.2<x.2<;>simp[ltOf,cmpZ,orSgn,sgnI,qcn,a,b,c,d]<;>omega
 cases h1:ltOf cmpZ x y<;>cases h2:qcn x y<;>simp_all
theorem swoZ:SWO (ltOf cmpZ):=by refine⟨fun x=>?_,fun x y z h h'=>?_,fun x y z h h'=>?_⟩<;>simp only[qo4,qcn,Bool.or_eq_true,aT,dT',Bool.or_eq_false_iff,Bool.and_eq_false_iff,decide_eq_false_iff_not]at*<;>omega
theorem partZ(x y:Int×Int)(h:ltOf cmpZ x y=false)(h':ltOf cmpZ y x=false):x=y:=by simp only[qo4,qcn,Bool.or_eq_false_iff,Bool.and_eq_false_iff,decide_eq_false_iff_not]at*;exact Prod.ext (by omega) (by omega)
def y50:Go.Shelf.Ren:=⟨fun|6=>264|15=>73|14=>276|28=>125|29=>126|20=>279|21=>280|22=>281|23=>282|24=>283|25=>284|26=>285|27=>286|46=>287|47=>164|48=>165|49=>288|50=>289|57=>290|n=>n,fun|22=>80|24=>73|25=>217|3=>3|39=>120|0=>0|53=>159|55=>161|4=>4|46=>153|45=>152|50=>99|5=>5|9=>9|66=>184|70=>188|76=>220|77=>121|n=>n,fun|n=>n⟩
theorem sortL:Go.Proofs.SlLaysF0.n6 Tryz.prog y50:={
 mixed:=by kernel_rfl
 f6:=⟨("slices.SortFunc[[]trustquorum/api.Claim,trustquorum/api.Claim]"),by decide,Tryz.func264.trans (congrArg some (by kernel_rfl))⟩
 f14:=⟨("slices.pdqsortCmpFunc[trustquorum/api.Claim]"),by decide,Tryz.func276.trans (congrArg some (by kernel_rfl))⟩
 f15:=Tryz.func73.trans (congrArg some (by kernel_rfl))
 f20:=⟨("slices.insertionSortCmpFunc[trustquorum/api.Claim]"),by decide,Tryz.func279.trans (congrArg some (by kernel_rfl))⟩
 f21:=⟨("slices.heapSortCmpFunc[trustquorum/api.Claim]"),by decide,Tryz.func280.trans (congrArg some (by kernel_rfl))⟩
 f22:=⟨("slices.breakPatternsCmpFunc[trustquorum/api.Claim]"),by decide,Tryz.func281.trans (congrArg some (by kernel_rfl))⟩
 f23:=⟨("slices.choosePivotCmpFunc[trustquorum/api.Claim]"),by decide,Tryz.func282.trans (congrArg some (by kernel_rfl))⟩
 f24:=⟨("slices.reverseRangeCmpFunc[trustquorum/api.Claim]"),by decide,Tryz.func283.trans (congrArg some (by kernel_rfl))⟩
 f25:=⟨("slices.partialInsertionSortCmpFunc[trustquorum/api.Claim]"),by decide,Tryz.func284.trans (congrArg some (by kernel_rfl))⟩
 f26:=⟨("slices.partitionEqualCmpFunc[trustquorum/api.Claim]"),by decide,Tryz.func285.trans (congrArg some (by kernel_rfl))⟩
 f27:=⟨("slices.partitionCmpFunc[trustquorum/api.Claim]"),by decide,Tryz.func286.trans (congrArg some (by kernel_rfl))⟩
 f28:=Tryz.func125.trans (congrArg some (by kernel_rfl))
 f29:=Tryz.func126.trans (congrArg some (by kernel_rfl))
 f46:=⟨("slices.siftDownCmpFunc[trustquorum/api.Claim]"),by decide,Tryz.func287.trans (congrArg some (by kernel_rfl))⟩
 f47:=Tryz.func164.trans (congrArg some (by kernel_rfl))
 f48:=Tryz.func165.trans (congrArg some (by kernel_rfl))
 f49:=⟨("slices.medianAdjacentCmpFunc[trustquorum/api.Claim]"),by decide,Tryz.func288.trans (congrArg some (by kernel_rfl))⟩
 f50:=⟨("slices.medianCmpFunc[trustquorum/api.Claim]"),by decide,Tryz.func289.trans (congrArg some (by kernel_rfl))⟩
 f57:=⟨("slices.order2CmpFunc[trustquorum/api.Claim]"),by decide,Tryz.func290.trans (congrArg some (by kernel_rfl))⟩
 t0:=Tryz.underlying0
 a0:=Tryz.isAgg0
 z0:=Tryz.sizeOf0
 v0:=Tryz.zeroValue0
 t3:=Tryz.underlying3
 a3:=Tryz.isAgg3
 z3:=Tryz.sizeOf3
 v3:=Tryz.zeroValue3
 t4:=Tryz.underlying4
 a4:=Tryz.isAgg4
 z4:=Tryz.sizeOf4
 v4:=Tryz.zeroValue4
 t5:=Tryz.underlying5
 a5:=Tryz.isAgg5
 z5:=Tryz.sizeOf5
 v5:=Tryz.zeroValue5
 t9:=Tryz.underlying9
 a9:=Tryz.isAgg9
 z9:=Tryz.sizeOf9
 v9:=Tryz.zeroValue9
 t22:=Tryz.underlying80
 a22:=Tryz.isAgg80
 z22:=Tryz.sizeOf80
 v22:=Tryz.zeroValue80
 t25:=Tryz.underlying217
 a25:=Tryz.isAgg217
 z25:=Tryz.sizeOf217
 v25:=Tryz.zeroValue217
 t39:=Tryz.underlying120
 a39:=Tryz.isAgg120
 z39:=Tryz.sizeOf120
 v39:=Tryz.zeroValue120
 t45:=Tryz.underlying152
 a45:=Tryz.isAgg152
 z45:=Tryz.sizeOf152
 v45:=Tryz.zeroValue152
 t46:=Tryz.underlying153
 a46:=Tryz.isAgg153
 z46:=Tryz.sizeOf153
 v46:=Tryz.zeroValue153
 t50:=Tryz.underlying99
 a50:=Tryz.isAgg99
 z50:=Tryz.sizeOf99
 v50:=Tryz.zeroValue99
 t53:=Tryz.underlying159
 a53:=Tryz.isAgg159
 z53:=Tryz.sizeOf159
 v53:=Tryz.zeroValue159
 t55:=Tryz.underlying161
 a55:=Tryz.isAgg161
 z55:=Tryz.sizeOf161
 v55:=Tryz.zeroValue161
 t66:=Tryz.underlying184
 a66:=Tryz.isAgg184
 z66:=Tryz.sizeOf184
 v66:=Tryz.zeroValue184
 t70:=Tryz.underlying188
 a70:=Tryz.isAgg188
 z70:=Tryz.sizeOf188
 v70:=Tryz.zeroValue188
 t76:=Tryz.underlying220
 a76:=Tryz.isAgg220
 z76:=Tryz.sizeOf220
 v76:=Tryz.zeroValue220
 t77:=Tryz.underlying121
 a77:=Tryz.isAgg121
 z77:=Tryz.sizeOf121
 v77:=Tryz.zeroValue121}
theorem qvg{w:World}{b n:Nat}{cur:Array Value}{e:TypeId}{d:Array (Int×Int)}{os:Array Obj}(hw:w.heap[b]?=some (.cells cur e (0,0))):(sortWorldK encZ 2 w b 0 n d os).heap[b]?=some (.cells (Go.Sort.putCells id 0 (Go.Sort.flatK encZ 2 d) cur) e (0,0))/\w.grownBy (sortWorldK encZ 2 w b 0 n d os) (some b):=by
 have hb:b<w.heap.size:=(Array.getElem?_eq_some_iff.1 hw).1;have hs:(Go.Sort.putRowK encZ 2 (Go.Sort.ahead w n) b 0 d).heap.size=w.heap.size:=by simp[Go.Sort.putRowK]
 refine⟨?_,⟨rfl,rfl,rfl,?_,fun k hk hne=>?_⟩⟩;·rw[sortWorldK,Go.Sort.heap_grow_old _ _ (by rw[hs];exact hb)];simp[Go.Sort.putRowK,Go.Sort.putRow,Go.Sort.mapBlock,hw,Go.Sort.onCells,Array.getElem?_modify]
 .rw[sortWorldK,Go.Sort.size_grow,hs];exact Nat.le_add_right _ _
 .rw[sortWorldK,Go.Sort.heap_grow_old _ _ (by rw[hs];exact hk)];have:b≠k:=fun e=>hne (by rw[e]);simp[Go.Sort.putRowK,Go.Sort.putRow,Go.Sort.mapBlock,Array.getElem?_modify,this]
theorem y61:LibOk env 264 (qdi 205):=by
 intro vs hp v hp' hm X w args hH hA;unfold qdi at hm;split at hm
 .rename_i g' xs;split at hm
  .rename_i l hl;split at hm
   .rename_i hcnd;obtain⟨rfl,hlen⟩:=hcnd;simp only[sI,pI]at hm;obtain⟨rfl,rfl⟩:=hm;obtain⟨rfl,_⟩:=qbm hl;obtain⟨hmu,hown⟩:=qgm hH (hA.2 0 _ rfl).2;obtain⟨cb,hv1,hcb,_⟩:=(hA.2 1 _ rfl).2;have hcb0:cb=#[]:=Array.eq_empty_of_size_eq_zero hcb;have ha:args=#[args.getD 0 undef,.func (.func 205) #[] #[]]:=by
     have hs:args.size=2:=hA.1;subst hcb0;rw[<-hv1];apply Array.ext;·exact hs
     .intro i h1 h2;rw[hs]at h1;rcases(by omega:i=0\/i=1)with rfl|rfl<;>simp[Array.getD_eq_getD_getElem?,hs]
    rw[ha];generalize args.getD 0 undef=u at hmu hown;rcases hown with⟨h0,a,rfl⟩|⟨h0,_⟩|⟨b,cap,cur,e,sz,rfl,hg,hw,hs,hz,hne,hsz,hcap,hmax,hcells⟩
    .have:l=[]:=by simpa using h0
     subst this;refine(AnyF.slices_SortFunc_none sortL a 0 _ w).mono ?_;rintro e w1⟨rfl,rfl⟩;refine⟨_,rfl,X,⟨[],by simp⟩,Ext.refl X _,by simpa using hH,.inl ⟨⟨rfl,rfl,(fun _ e=>by cases e),⟨#[],rfl,rfl,fun j c hj=>by cases hj⟩⟩,rfl⟩⟩
    .cases h0
    .have hsz2:sz=2:=by obtain⟨x,hx⟩:=List.exists_mem_of_ne_nil _ hne;obtain⟨p,_,rfl⟩:=List.mem_map.1 hx;rw[<-hs _ hx];rfl
     subst hsz2;rw[List.length_map]at*;simp only[fT,if_false]at hg;have hbs:b<w.heap.size:=(Array.getElem?_eq_some_iff.1 hw).1;have hcell:∀j p,l[j]?=some p->cur[j*2]?=some (.int .i64 p.1)/\cur[j*2+1]?=some (.int .i64 p.2):=fun j p hj=>by
      have hj':(l.map fun p:Int×Int=>D.agg [.v (.int .i64 p.1),.v (.int .i64 p.2)])[j]?=some (.agg [.v (.int .i64 p.1),.v (.int .i64 p.2)]):=by rw[List.getElem?_map,hj];rfl
      obtain⟨u0,k0,r0⟩:=hcells j _ hj' 0 _ rfl;obtain⟨u1,k1,r1⟩:=hcells j _ hj' 1 _ rfl;rw[q0t r0]at k0;rw[q0t r1]at k1;exact⟨k0,k1⟩
     have hH0:HoldsK encZ 2 w b 0 l.toArray:=fun j hj=>by
      refine⟨?_,frozen_of_row w b _ cur e hw⟩;have hj2:j<l.length*2:=by simpa[size_flatK]using hj
      rw[get_flatK _ _ _ _ (by simpa using hj2),Nat.zero_add,cell_of_row w b j cur e (0,0) hw];have hj3:j/2<l.length:=by omega
      obtain⟨k0,k1⟩:=hcell (j/2) l[j/2] (by simp[hj3]);have e3:l.toArray[j/2]! =l[j/2]:=by rw[getElem!_pos _ _ (by simpa using hj3)];simp
      rw[e3];rcases(by omega:j%2=0\/j%2=1)with h|h;·rw[show j/2*2=j by omega]at k0;rw[h];simpa[encZ]using k0
      .rw[show j/2*2+1=j by omega]at k1;rw[h];simpa[encZ]using k1
     have hcon:=AnyQ.slices_SortFunc_total sortL 2 Tryz.isAgg73 Tryz.sizeOf73 encZ (fun _=>rfl) (fun x v hv=>by simp[encZ]at hv;rcases hv with rfl|rfl<;>rfl) cmpZ swoZ 205 #[] b 0 cap l.toArray w (enters_of Tryz.func205 (by kernel_rfl) rfl) (fun _ _ _ _ x y=>y3t x y _) hH0 hbs (by simp;unfold q0a at hlen;omega) partZ;rw[List.size_toArray]at hcon;refine Calls.mono hcon ?_;rintro e1 w1⟨rfl,n,os,rfl⟩;have hS:(l.mergeSort fun x y=>!ltOf cmpZ y x)=l.mergeSort fun x y=>!qcn y x:=by congr 1;funext x y;rw[qo4]
     rw[hS];generalize hL:(l.mergeSort fun x y=>!qcn y x)=L;have hLl:L.length=l.length:=by rw[<-hL,List.length_mergeSort]
     obtain⟨hb',hgr⟩:=qvg (n:=n) (d:=L.toArray) (os:=os) hw;have hH1:HoldsK encZ 2 (sortWorldK encZ 2 w b 0 n L.toArray os) b 0 L.toArray:=holdsK_grow encZ 2 _ os b 0 _ (by simp[putRowK];exact hbs) (holdsK_putRowK encZ 2 (Go.Sort.ahead w n) b 0 _ _ (holdsK_ahead encZ 2 w n b 0 _ hH0) (by simp[hLl]));have hlm:(L.map twoD).length=l.length:=by rw[List.length_map,hLl]
     refine⟨_,rfl,qmm (sz:=2) hH (by rw[hlm];exact hmu) hg hgr hb' (fun x hx=>by obtain⟨p,_,rfl⟩:=List.mem_map.1 hx;rfl) (by decide) (fun e=>hne (by rw[List.map_eq_nil_iff]at e⊢;exact List.length_eq_zero_iff.1 (by rw[<-hLl,e];rfl))) (by simpa[putCells]using hsz) (by rw[hlm];exact hcap) hmax fun i x hx j c hj=>?_⟩;rw[List.getElem?_map,Option.map_eq_some_iff]at hx;obtain⟨p,hp,rfl⟩:=hx;have hi:i<L.length:=(List.getElem?_eq_some_iff.1 hp).1;have hj2:j<2:=(List.getElem?_eq_some_iff.1 hj).1;have hcc:=(HoldsK.cell hH1 (i:=i) (c:=j) (by simpa using hi) hj2).1;rw[cell_of_row _ _ _ _ _ _ hb',Nat.zero_add]at hcc;have e3:L.toArray[i]! =p:=by rw[getElem!_pos _ _ (by simpa using hi)];simpa using(List.getElem?_eq_some_iff.1 hp).2
     rw[e3]at hcc;refine⟨_,hcc,?_⟩;rcases(by omega:j=0\/j=1)with rfl|rfl;·simp[twoD,D.cells]at hj;subst hj;exact .v _ rfl
     .simp[twoD,D.cells]at hj;subst hj;exact .v _ rfl
   .cases hm
  .cases hm
 .cases hm
set_option maxRecDepth 100000 in
theorem qzj(x:Int)(W:World):Calls Tryz.prog 78 #[.int .i64 x,.int .i64 10] W fun e w'=>e=.returned (.bool (decide (0<=x)&&decide (x<1024)))/\w'=W:=by
 go_enter Tryz.func78,Tryz.ntmps78;go_wp2;all_goals go_ret
 .rename_i h;exact⟨by simp[h],rfl⟩
 .rename_i h;exact⟨by simp[show¬0<=x by omega],rfl⟩
set_option maxRecDepth 100000 in
theorem qp6(x:Int)(W:World):Calls Tryz.prog 49 #[.int .i64 x] W fun e w'=>e=.returned (.bool (decide (0<=x)&&decide (x<1024)))/\w'=W:=by have hb:=qzj;go_enter Tryz.func49,Tryz.ntmps49;go_wp2_with(go_at_call 78;refine(hb _ _).mono ?_;rintro e w'⟨rfl,rfl⟩);go_ret;exact⟨rfl,rfl⟩
set_option maxRecDepth 100000 in
theorem y33(n:Nat)(hn:n<1024)(W:World):Calls Tryz.prog 236 #[.int .u64 n] W fun e w'=>e=.returned (.int .i64 (pcB n:Nat))/\w'=W:=by go_enter Tryz.func236,Tryz.ntmps236;go_wp2;go_ret;refine⟨?_,rfl⟩;refine congrArg (fun x=>Ending.returned (Value.int .i64 x)) ?_;revert n;decide+kernel
set_option maxRecDepth 100000 in
theorem y65(n:Nat)(hn:n<1024)(W:World):Calls Tryz.prog 209 #[.int .u64 n] W fun e w'=>e=.returned (.int .i64 (pcB n:Nat))/\w'=W:=by have ho:=y33 n hn;go_enter Tryz.func209,Tryz.ntmps209;go_wp2_with(go_at_call 236;refine(ho _).mono ?_;rintro e w'⟨rfl,rfl⟩);go_ret;exact⟨rfl,rfl⟩
set_option maxRecDepth 100000 in
theorem y52(n:Nat)(hn:n<1024)(W:World):Calls Tryz.prog 169 #[.int .i64 n] W fun e w'=>e=.returned (.int .i64 (pcB n:Nat))/\w'=W:=by
 have hv:=qp6 (n:Int);have ho:=y65 n hn;have hb:(decide ((0:Int)<=(n:Int))&&decide ((n:Int)<1024))=true:=by simp;omega
 rw[hb]at hv;go_enter Tryz.func169,Tryz.ntmps169;go_wp2_with(first|(go_at_call 49;refine(hv _).mono ?_;rintro e w'⟨rfl,rfl⟩)|(go_at_call 209;refine(ho _).mono ?_;rintro e w'⟨rfl,rfl⟩));go_ret;exact⟨rfl,rfl⟩
set_option maxRecDepth 100000 in
theorem qsu(n:Nat)(hn:n<1024)(W:World):Calls Tryz.prog 146 #[.int .i64 n] W fun e w'=>e=.returned (.int .i64 (pcB n:Nat))/\w'=W:=by
 have hv:=qp6 (n:Int);have ho:=y52 n hn;have hb:(decide ((0:Int)<=(n:Int))&&decide ((n:Int)<1024))=true:=by simp;omega
 rw[hb]at hv;go_enter Tryz.func146,Tryz.ntmps146;go_wp2_with(first|(go_at_call 49;refine(hv _).mono ?_;rintro e w'⟨rfl,rfl⟩)|(go_at_call 169;refine(ho _).mono ?_;rintro e w'⟨rfl,rfl⟩));go_ret;exact⟨rfl,rfl⟩
def cmpS(x y:Fin 1024):Int:=orSgn (sgnI (pcB x:Nat) (pcB y:Nat)) (sgnI (x.val:Nat) (y.val:Nat))
set_option maxRecDepth 100000 in
theorem y42(x y:Fin 1024)(W:World):Calls Tryz.prog 95 #[.int .i64 (x.val:Nat),.int .i64 (y.val:Nat)] W fun e w'=>e=.returned (.int .i64 (cmpS x y))/\∃q os',w'=grow (W.drewN q) os':=by have hx:=qsu x x.isLt;have hy:=qsu y y.isLt;have hc:=qqr;have ho:=qhy;go_enter Tryz.func95,Tryz.ntmps95;go_wp2_with(first|(go_at_call 145;refine(hc _ _ _).mono ?_;rintro e w'⟨rfl,rfl⟩)|(go_at_call 146;first|(refine(hx _).mono ?_;rintro e w'⟨rfl,rfl⟩)|(refine(hy _).mono ?_;rintro e w'⟨rfl,rfl⟩))|(go_at_call 144;refine(ho _ _ _ _ (cell_of_row _ _ 0 _ _ _ (heap_alloc_new _ _)) (cell_of_row _ _ 1 _ _ _ (heap_alloc_new _ _))).mono ?_;rintro e w'⟨rfl,rfl⟩));go_ret;exact⟨rfl,0,_,alloc_eq_grow _ _⟩
def y1w:Go.Shelf.Ren:=⟨fun|6=>94|15=>73|14=>143|28=>125|29=>126|20=>183|21=>184|22=>185|23=>186|24=>187|25=>188|26=>189|27=>190|46=>224|47=>164|48=>165|49=>225|50=>226|57=>249|n=>n,fun|22=>22|24=>3|25=>45|3=>3|39=>120|0=>0|53=>159|55=>161|4=>4|46=>153|45=>152|50=>99|5=>5|9=>9|66=>184|70=>188|76=>220|77=>121|n=>n,fun|n=>n⟩
theorem sortI:Go.Proofs.SlLaysF.n6 Tryz.prog y1w:={
 mixed:=by kernel_rfl
 f6:=⟨("slices.SortFunc[[]int,int]"),by decide,Tryz.func94.trans (congrArg some (by kernel_rfl))⟩
 f14:=⟨("slices.pdqsortCmpFunc[int]"),by decide,Tryz.func143.trans (congrArg some (by kernel_rfl))⟩
 f15:=Tryz.func73.trans (congrArg some (by kernel_rfl))
 f20:=⟨("slices.insertionSortCmpFunc[int]"),by decide,Tryz.func183.trans (congrArg some (by kernel_rfl))⟩
 f21:=⟨("slices.heapSortCmpFunc[int]"),by decide,Tryz.func184.trans (congrArg some (by kernel_rfl))⟩
 f22:=⟨("slices.breakPatternsCmpFunc[int]"),by decide,Tryz.func185.trans (congrArg some (by kernel_rfl))⟩
 f23:=⟨("slices.choosePivotCmpFunc[int]"),by decide,Tryz.func186.trans (congrArg some (by kernel_rfl))⟩
 f24:=⟨("slices.reverseRangeCmpFunc[int]"),by decide,Tryz.func187.trans (congrArg some (by kernel_rfl))⟩
 f25:=⟨("slices.partialInsertionSortCmpFunc[int]"),by decide,Tryz.func188.trans (congrArg some (by kernel_rfl))⟩
 f26:=⟨("slices.partitionEqualCmpFunc[int]"),by decide,Tryz.func189.trans (congrArg some (by kernel_rfl))⟩
 f27:=⟨("slices.partitionCmpFunc[int]"),by decide,Tryz.func190.trans (congrArg some (by kernel_rfl))⟩
 f28:=Tryz.func125.trans (congrArg some (by kernel_rfl))
 f29:=Tryz.func126.trans (congrArg some (by kernel_rfl))
 f46:=⟨("slices.siftDownCmpFunc[int]"),by decide,Tryz.func224.trans (congrArg some (by kernel_rfl))⟩
 f47:=Tryz.func164.trans (congrArg some (by kernel_rfl))
 f48:=Tryz.func165.trans (congrArg some (by kernel_rfl))
 f49:=⟨("slices.medianAdjacentCmpFunc[int]"),by decide,Tryz.func225.trans (congrArg some (by kernel_rfl))⟩
 f50:=⟨("slices.medianCmpFunc[int]"),by decide,Tryz.func226.trans (congrArg some (by kernel_rfl))⟩
 f57:=⟨("slices.order2CmpFunc[int]"),by decide,Tryz.func249.trans (congrArg some (by kernel_rfl))⟩
 t0:=Tryz.underlying0
 a0:=Tryz.isAgg0
 z0:=Tryz.sizeOf0
 v0:=Tryz.zeroValue0
 t3:=Tryz.underlying3
 a3:=Tryz.isAgg3
 z3:=Tryz.sizeOf3
 v3:=Tryz.zeroValue3
 t4:=Tryz.underlying4
 a4:=Tryz.isAgg4
 z4:=Tryz.sizeOf4
 v4:=Tryz.zeroValue4
 t5:=Tryz.underlying5
 a5:=Tryz.isAgg5
 z5:=Tryz.sizeOf5
 v5:=Tryz.zeroValue5
 t9:=Tryz.underlying9
 a9:=Tryz.isAgg9
 z9:=Tryz.sizeOf9
 v9:=Tryz.zeroValue9
 t22:=Tryz.underlying22
 a22:=Tryz.isAgg22
 z22:=Tryz.sizeOf22
 v22:=Tryz.zeroValue22
 a24:=Tryz.isAgg3
 z24:=Tryz.sizeOf3
 t25:=Tryz.underlying45
 a25:=Tryz.isAgg45
 z25:=Tryz.sizeOf45
 v25:=Tryz.zeroValue45
 t39:=Tryz.underlying120
 a39:=Tryz.isAgg120
 z39:=Tryz.sizeOf120
 v39:=Tryz.zeroValue120
 t45:=Tryz.underlying152
 a45:=Tryz.isAgg152
 z45:=Tryz.sizeOf152
 v45:=Tryz.zeroValue152
 t46:=Tryz.underlying153
 a46:=Tryz.isAgg153
 z46:=Tryz.sizeOf153
 v46:=Tryz.zeroValue153
 t50:=Tryz.underlying99
 a50:=Tryz.isAgg99
 z50:=Tryz.sizeOf99
 v50:=Tryz.zeroValue99
 t53:=Tryz.underlying159
 a53:=Tryz.isAgg159
 z53:=Tryz.sizeOf159
 v53:=Tryz.zeroValue159
 t55:=Tryz.underlying161
 a55:=Tryz.isAgg161
 z55:=Tryz.sizeOf161
 v55:=Tryz.zeroValue161
 t66:=Tryz.underlying184
 a66:=Tryz.isAgg184
 z66:=Tryz.sizeOf184
 v66:=Tryz.zeroValue184
 t70:=Tryz.underlying188
 a70:=Tryz.isAgg188
 z70:=Tryz.sizeOf188
 v70:=Tryz.zeroValue188
 t76:=Tryz.underlying220
 a76:=Tryz.isAgg220
 z76:=Tryz.sizeOf220
 v76:=Tryz.zeroValue220
 t77:=Tryz.underlying121
 a77:=Tryz.isAgg121
 z77:=Tryz.sizeOf121
 v77:=Tryz.zeroValue121}
theorem qnc(x y:Fin 1024):ltOf cmpS x y=ltSet x y:=by
 have h:ltOf cmpS x y=true↔ltSet x y=true:=by by_cases a:pcB x<pcB y<;>by_cases b:pcB y<pcB x<;>by_cases c:x.val<y.val<;>by_cases d:y.val<x.val<;>simp[ltOf,cmpS,orSgn,sgnI,ltSet,a,b,c,d]<;>omega
 cases h1:ltOf cmpS x y<;>cases h2:ltSet x y<;>simp_all
theorem swoS:SWO (ltOf cmpS):=by refine⟨fun x=>?_,fun x y z h h'=>?_,fun x y z h h'=>?_⟩<;>simp only[qnc,ltSet,Bool.or_eq_true,aT,dT',Bool.or_eq_false_iff,Bool.and_eq_false_iff,decide_eq_false_iff_not]at*<;>omega
theorem partS(x y:Fin 1024)(h:ltOf cmpS x y=false)(h':ltOf cmpS y x=false):x=y:=by simp only[qnc,ltSet,Bool.or_eq_false_iff,Bool.and_eq_false_iff,decide_eq_false_iff_not]at*;exact Fin.ext (by omega)
def encF(x:Fin 1024):Value:=.int .i64 (x.val:Nat)
theorem qtn{w:World}{b n:Nat}{cur:Array Value}{e:TypeId}{d:Array (Fin 1024)}{os:Array Obj}(hw:w.heap[b]?=some (.cells cur e (0,0))):(sortWorld encF w b 0 n d os).heap[b]?=some (.cells (Go.Sort.putCells encF 0 d cur) e (0,0))/\w.grownBy (sortWorld encF w b 0 n d os) (some b):=by
 have hb:b<w.heap.size:=(Array.getElem?_eq_some_iff.1 hw).1;have hs:(Go.Sort.putRow encF (Go.Sort.ahead w n) b 0 d).heap.size=w.heap.size:=by simp[Go.Sort.putRow,Go.Sort.mapBlock]
 refine⟨?_,⟨rfl,rfl,rfl,?_,fun k hk hne=>?_⟩⟩;·rw[sortWorld,Go.Sort.heap_grow_old _ _ (by rw[hs];exact hb)];simp[Go.Sort.putRow,Go.Sort.mapBlock,hw,Go.Sort.onCells,Array.getElem?_modify]
 .rw[sortWorld,Go.Sort.size_grow,hs];exact Nat.le_add_right _ _
 .rw[sortWorld,Go.Sort.heap_grow_old _ _ (by rw[hs];exact hk)];have:b≠k:=fun e=>hne (by rw[e]);simp[Go.Sort.putRow,Go.Sort.mapBlock,Array.getElem?_modify,this]
theorem qnd:∀{l:List D}{zs:LI},q9m l=some zs->l=zs.map fun n=>.v (.int .i64 n)|[],zs,h=>by simp only[q9m,sI]at h;subst h;rfl|.v (.int .i64 a)::r,zs,h=>by simp only[q9m,Option.map_eq_some_iff]at h;obtain⟨v,h1,rfl⟩:=h;rw[qnd h1];rfl
theorem ya1{l:LI}(h:l.all (fun a=>decide (0<=a)&&decide (a<1024))=true):∃fs:List (Fin 1024),l=fs.map fun x=>((x.val:Nat):Int):=by induction l with|nil=>exact⟨[],rfl⟩|cons x r ih=>simp only[List.all_cons,aT,dT']at h;obtain⟨fs,rfl⟩:=ih h.2;exact⟨⟨x.toNat,by omega⟩::fs,by rw[List.map_cons];congr 1;show x=((x.toNat:Nat):Int);omega⟩
theorem y25:LibOk env 94 (q6f 95):=by
 intro vs hp v hp' hm X w args hH hA;unfold q6f at hm;split at hm
 .rename_i g' xs;split at hm
  .rename_i l hl;split at hm
   .rename_i hcnd;obtain⟨rfl,hlen,hall⟩:=hcnd;simp only[sI,pI]at hm;obtain⟨rfl,rfl⟩:=hm;have hx:=qnd hl;subst hx;obtain⟨fs,rfl⟩:=ya1 hall;obtain⟨hmu,hown⟩:=qgm hH (hA.2 0 _ rfl).2;obtain⟨cb,hv1,hcb,_⟩:=(hA.2 1 _ rfl).2;have hcb0:cb=#[]:=Array.eq_empty_of_size_eq_zero hcb;have ha:args=#[args.getD 0 undef,.func (.func 95) #[] #[]]:=by
     have hs:args.size=2:=hA.1;subst hcb0;rw[<-hv1];apply Array.ext;·exact hs
     .intro i h1 h2;rw[hs]at h1;rcases(by omega:i=0\/i=1)with rfl|rfl<;>simp[Array.getD_eq_getD_getElem?,hs]
    rw[ha];generalize args.getD 0 undef=u at hmu hown;rw[List.length_map]at hlen;rw[List.map_map]at hown hH;have hS:(((fs.map fun x=>((x.val:Nat):Int)).mergeSort fun x y=>!ltSet y.toNat x.toNat).map fun n=>D.v (.int .i64 n))=(fs.mergeSort fun x y=>!ltOf cmpS y x).map ((fun n=>D.v (.int .i64 n))∘fun x=>((x.val:Nat):Int)):=by rw[<-List.map_mergeSort (r:=fun x y=>!ltOf cmpS y x) (s:=fun x y:Int=>!ltSet y.toNat x.toNat) (f:=fun x:Fin 1024=>((x.val:Nat):Int)) fun a _ b _=>by rw[qnc];rfl,List.map_map]
    rw[hS];rcases hown with⟨h0,a,rfl⟩|⟨h0,_⟩|⟨b,cap,cur,e,sz,rfl,hg,hw,hs,hz,hne,hsz,hcap,hmax,hcells⟩
    .have:fs=[]:=by simpa using h0
     subst this;refine(AnyF.slices_SortFunc_none {sortI with} a 0 _ w).mono ?_;rintro e w1⟨rfl,rfl⟩;refine⟨_,rfl,X,⟨[],by simp⟩,Ext.refl X _,by simpa using hH,.inl ⟨⟨rfl,rfl,(fun _ e=>by cases e),⟨#[],rfl,rfl,fun j c hj=>by cases hj⟩⟩,rfl⟩⟩
    .cases h0
    .have hsz2:sz=1:=by obtain⟨x,hx⟩:=List.exists_mem_of_ne_nil _ hne;obtain⟨p,_,rfl⟩:=List.mem_map.1 hx;rw[<-hs _ hx];rfl
     subst hsz2;rw[List.length_map]at*;simp only[fT,if_false]at hg;have hbs:b<w.heap.size:=(Array.getElem?_eq_some_iff.1 hw).1;have hcell:∀(j:Nat)(p:Fin 1024),fs[j]?=some p->cur[j]?=some (encF p):=fun j p hj=>by
      have hj':(fs.map ((fun n=>D.v (.int .i64 n))∘fun x:Fin 1024=>((x.val:Nat):Int)))[j]?=some (D.v (.int .i64 (p.val:Nat))):=by rw[List.getElem?_map,hj];rfl
      obtain⟨u0,k0,r0⟩:=hcells j _ hj' 0 _ rfl;rw[q0t r0]at k0;rw[show j*1+0=j by omega]at k0;exact k0
     have hH0:Holds encF w b 0 fs.toArray:=fun j hj=>by
      refine⟨?_,frozen_of_row w b _ cur e hw⟩;have hj3:j<fs.length:=by simpa using hj
      rw[Nat.zero_add,cell_of_row w b j cur e (0,0) hw,hcell j fs[j] (by simp[hj3])];congr 2;rw[getElem!_pos _ _ (by simpa using hj3)];simp
     have hcon:=Any.slices_SortFunc_total sortI encF (fun _=>rfl) cmpS swoS 95 #[] b 0 cap fs.toArray w (enters_of Tryz.func95 (by kernel_rfl) rfl) (fun _ _ _ _ x y=>y42 x y _) hH0 hbs (by simp;unfold q0a at hlen;omega) partS;rw[List.size_toArray]at hcon;refine Calls.mono hcon ?_;rintro e1 w1⟨rfl,n,os,rfl⟩;generalize hL:(fs.mergeSort fun x y=>!ltOf cmpS y x)=L;have hLl:L.length=fs.length:=by rw[<-hL,List.length_mergeSort]
     obtain⟨hb',hgr⟩:=qtn (n:=n) (d:=L.toArray) (os:=os) hw;have hH1:Holds encF (sortWorld encF w b 0 n L.toArray os) b 0 L.toArray:=holds_grow encF _ os b 0 _ (by simp[Go.Sort.putRow,Go.Sort.mapBlock];exact hbs) (holds_putRow encF (Go.Sort.ahead w n) b 0 _ _ (holds_ahead encF w n b 0 _ hH0) (by simp[hLl]));have hlm:(L.map ((fun n=>D.v (.int .i64 n))∘fun x:Fin 1024=>((x.val:Nat):Int))).length=fs.length:=by rw[List.length_map,hLl]
     refine⟨_,rfl,qmm (sz:=1) hH (by rw[hlm];exact hmu) hg hgr hb' (fun x hx=>by obtain⟨p,_,rfl⟩:=List.mem_map.1 hx;rfl) (by decide) (fun e=>hne (by rw[List.map_eq_nil_iff]at e⊢;exact List.length_eq_zero_iff.1 (by rw[<-hLl,e];rfl))) (by simpa[Go.Sort.putCells]using hsz) (by rw[hlm];exact hcap) hmax fun i x hx j c hj=>?_⟩;rw[List.getElem?_map,Option.map_eq_some_iff]at hx;obtain⟨p,hp,rfl⟩:=hx;have hi:i<L.length:=(List.getElem?_eq_some_iff.1 hp).1;have hj0:j=0:=by have:=(List.getElem?_eq_some_iff.1 hj).1;simp[D.cells]at this;exact this
     subst hj0;have hcc:=(hH1 i (by simpa using hi)).1;rw[cell_of_row _ _ _ _ _ _ hb',Nat.zero_add]at hcc;have e3:L.toArray[i]! =p:=by rw[getElem!_pos _ _ (by simpa using hi)];simpa using(List.getElem?_eq_some_iff.1 hp).2
     rw[e3]at hcc;refine⟨_,by simpa using hcc,?_⟩;simp[D.cells]at hj;subst hj;exact .v _ rfl
   .cases hm
  .cases hm
 .cases hm
end Go.Proofs.YtklhcnnpgkkjcaaGreatDoor
namespace Go.Proofs.YtklhcnnpgkkjcaaGreatDoor
open Go Go.Ab Go.RowKit Go.Shelf
set_option maxRecDepth 100000 in
theorem qym(s:ByteArray)(c:Int)(W:World):Calls Tryz.prog 214 #[.string s,.int .u8 c] W fun e w'=>e=.returned (.int .i64 (Lib.indexByte s.data.toList c.toNat.toUInt8))/\w'=W:=by go_enter Tryz.func214,Tryz.ntmps214;go_wp2;rw[run_callFunc_extern Tryz.func238 (by kernel_rfl) (by kernel_rfl) (by kernel_rfl) (e:=Extern.BytealgIndexByte.indexByte) (by kernel_rfl),Lib.run_indexByteString];simp only[Result.andThen];rw[Oper.upon_value];go_wp2;go_ret;exact⟨rfl,rfl⟩
set_option maxRecDepth 100000 in
theorem y5b(s:ByteArray)(c:UInt8)(W:World):Calls Tryz.prog 134 #[.string s,.string ⟨#[c]⟩] W fun e w'=>e=.returned (.int .i64 (Lib.countByte s.data.toList c))/\w'=W:=by go_enter Tryz.func134,Tryz.ntmps134;go_wp2;rw[run_callFunc_extern Tryz.func174 (by kernel_rfl) (by kernel_rfl) (by kernel_rfl) (e:=Extern.BytealgCount.count) (by kernel_rfl),Lib.run_countString];simp only[Result.andThen];rw[Oper.upon_value];go_wp2;go_ret;exact⟨rfl,rfl⟩
set_option maxRecDepth 100000 in
theorem y5s(s:ByteArray)(c:UInt8)(W:World):Calls Tryz.prog 175 #[.string s,.string ⟨#[c]⟩] W fun e w'=>e=.returned (.int .i64 (Lib.indexByte s.data.toList c))/\w'=W:=by
 have hi:=qym s;go_enter Tryz.func175,Tryz.ntmps175;go_wp2_with(go_at_call 214;refine(hi _ _).mono ?_;rintro e w'⟨rfl,rfl⟩)
 .have h:([c]==s.toList)=true:=by assumption
  go_ret;refine⟨?_,rfl⟩;have e:s.data.toList=[c]:=by rw[<-Lib.toList_data];exact(beq_iff_eq.1 h).symm
  rw[e];simp[Lib.indexByte]
 .go_ret;exact⟨rfl,rfl⟩
theorem qvk(c:UInt8):∀l,posB c l=Lib.indexByte l c
 |[]=>rfl|b::r=>by
  unfold posB Lib.indexByte;rw[qvk c r];by_cases h:b=c;·simp[h]
  .rw[if_neg h,if_neg (by simpa using h)];have:=Lib.indexByte_ge r c;split;·rename_i h1;simp[h1]
   .rename_i n h1;rw[if_neg (by simpa using h1)]
theorem qvr{X:Cx}{w:World}{f:FuncId}{x y z:Value}{args:Array Value}(hz:z.oneCell'=true)(hH:HRel env X [] w)(hA:Ab.ArgRel w X [.d (.v x),.d (.v y)] args)(hc:Calls Tryz.prog f #[x,y] w fun e w'=>e=.returned z/\w'=w):Calls env.P f args w fun e w1=>∃val,e=.returned val/\∃X1,(∃more,X1.mu=X.mu++more)/\Ext X w X1 w1/\HRel env X1 [] w1/\ResRel w1 X1 (.d (.v z)) val:=by rw[(y3e hA).1,q0t (show Rep w X.imm (.v x) (args.getD 0 undef)from(hA.2 0 _ rfl).2),q0t (show Rep w X.imm (.v y) (args.getD 1 undef)from(hA.2 1 _ rfl).2)];refine hc.mono ?_;rintro e w1⟨rfl,rfl⟩;exact⟨_,rfl,qgp hH (qp1 w1) (.v _ hz)⟩
theorem y0w:LibOk env 214 q91:=by
 intro vs hp v hp' hm X w args hH hA;unfold q91 at hm;split at hm
 .rename_i l c;split at hm;·cases hm;exact qvr rfl hH hA (by rw[qvk];exact qym ⟨⟨l⟩⟩ c w)
  .cases hm
 .cases hm
theorem y05:LibOk env 175 q9a:=by
 intro vs hp v hp' hm X w args hH hA;unfold q9a at hm;split at hm
 .rename_i l c;split at hm;·cases hm;exact qvr rfl hH hA (by rw[qvk];exact y5s ⟨⟨l⟩⟩ c w)
  .cases hm
 .cases hm
theorem y0r:LibOk env 134 q9b:=by
 intro vs hp v hp' hm X w args hH hA;unfold q9b at hm;split at hm
 .rename_i l c;split at hm;·cases hm;exact qvr rfl hH hA (y5b ⟨⟨l⟩⟩ c w)
  .cases hm
 .cases hm
end Go.Proofs.YtklhcnnpgkkjcaaGreatDoor
namespace Go.Proofs.YtklhcnnpgkkjcaaGreatDoor
open Go Go.Ab Go.RowKit
def qwy:Go.Shelf.Ren:=⟨fun|172=>181|244=>222|245=>223|247=>244|279=>245|280=>246|281=>247|282=>248|287=>259|316=>260|171=>89|205=>261|321=>274|322=>275|243=>138|246=>177|283=>218|284=>219|285=>220|286=>221|129=>126|317=>240|318=>241|319=>242|320=>243|337=>257|338=>258|n=>n,fun|9=>9|3=>3|75=>199|76=>200|4=>4|5=>5|167=>247|37=>226|0=>0|85=>248|2=>2|168=>250|53=>161|175=>259|46=>120|210=>263|127=>277|145=>280|143=>278|21=>21|171=>224|173=>227|212=>245|51=>159|20=>20|213=>246|232=>274|233=>275|80=>290|n=>n,fun|15=>4|16=>5|17=>3|18=>6|19=>7|n=>n⟩
theorem y9y:Go.Proofs.Lays.n172 Tryz.prog qwy:={
 mixed:=by kernel_rfl
 f129:=Tryz.func126.trans (congrArg some (by kernel_rfl))
 f171:=Tryz.func89.trans (congrArg some (by kernel_rfl))
 f172:=Tryz.func181.trans (congrArg some (by kernel_rfl))
 f205:=Tryz.func261.trans (congrArg some (by kernel_rfl))
 f243:=Tryz.func138.trans (congrArg some (by kernel_rfl))
 f244:=Tryz.func222.trans (congrArg some (by kernel_rfl))
 f245:=Tryz.func223.trans (congrArg some (by kernel_rfl))
 f246:=Tryz.func177.trans (congrArg some (by kernel_rfl))
 f247:=Tryz.func244.trans (congrArg some (by kernel_rfl))
 f279:=Tryz.func245.trans (congrArg some (by kernel_rfl))
 f280:=Tryz.func246.trans (congrArg some (by kernel_rfl))
 f281:=Tryz.func247.trans (congrArg some (by kernel_rfl))
 f282:=Tryz.func248.trans (congrArg some (by kernel_rfl))
 f283:=Tryz.func218.trans (congrArg some (by kernel_rfl))
 f284:=Tryz.func219.trans (congrArg some (by kernel_rfl))
 f285:=Tryz.func220.trans (congrArg some (by kernel_rfl))
 f286:=Tryz.func221.trans (congrArg some (by kernel_rfl))
 f287:=Tryz.func259.trans (congrArg some (by kernel_rfl))
 f316:=Tryz.func260.trans (congrArg some (by kernel_rfl))
 f317:=Tryz.func240.trans (congrArg some (by kernel_rfl))
 f318:=Tryz.func241.trans (congrArg some (by kernel_rfl))
 f319:=Tryz.func242.trans (congrArg some (by kernel_rfl))
 f320:=Tryz.func243.trans (congrArg some (by kernel_rfl))
 f321:=Tryz.func274.trans (congrArg some (by kernel_rfl))
 f322:=Tryz.func275.trans (congrArg some (by kernel_rfl))
 f337:=Tryz.func257.trans (congrArg some (by kernel_rfl))
 f338:=Tryz.func258.trans (congrArg some (by kernel_rfl))
 t0:=Tryz.underlying0
 a0:=Tryz.isAgg0
 z0:=Tryz.sizeOf0
 v0:=Tryz.zeroValue0
 t2:=Tryz.underlying2
 a2:=Tryz.isAgg2
 z2:=Tryz.sizeOf2
 v2:=Tryz.zeroValue2
 t3:=Tryz.underlying3
 a3:=Tryz.isAgg3
 z3:=Tryz.sizeOf3
 v3:=Tryz.zeroValue3
 t4:=Tryz.underlying4
 a4:=Tryz.isAgg4
 z4:=Tryz.sizeOf4
 v4:=Tryz.zeroValue4
 t5:=Tryz.underlying5
 a5:=Tryz.isAgg5
 z5:=Tryz.sizeOf5
 v5:=Tryz.zeroValue5
 t9:=Tryz.underlying9
 a9:=Tryz.isAgg9
 z9:=Tryz.sizeOf9
 v9:=Tryz.zeroValue9
 t20:=Tryz.underlying20
 a20:=Tryz.isAgg20
 z20:=Tryz.sizeOf20
 v20:=Tryz.zeroValue20
 t21:=Tryz.underlying21
 a21:=Tryz.isAgg21
 z21:=Tryz.sizeOf21
 v21:=Tryz.zeroValue21
 t37:=Tryz.underlying226
 a37:=Tryz.isAgg226
 z37:=Tryz.sizeOf226
 v37:=Tryz.zeroValue226
 t46:=Tryz.underlying120
 a46:=Tryz.isAgg120
 z46:=Tryz.sizeOf120
 v46:=Tryz.zeroValue120
 t51:=Tryz.underlying159
 a51:=Tryz.isAgg159
 z51:=Tryz.sizeOf159
 v51:=Tryz.zeroValue159
 t53:=Tryz.underlying161
 a53:=Tryz.isAgg161
 z53:=Tryz.sizeOf161
 v53:=Tryz.zeroValue161
 t75:=Tryz.underlying199
 a75:=Tryz.isAgg199
 z75:=Tryz.sizeOf199
 v75:=Tryz.zeroValue199
 t76:=Tryz.underlying200
 a76:=Tryz.isAgg200
 z76:=Tryz.sizeOf200
 v76:=Tryz.zeroValue200
 t85:=Tryz.underlying248
 a85:=Tryz.isAgg248
 z85:=Tryz.sizeOf248
 v85:=Tryz.zeroValue248
 t127:=Tryz.underlying277
 a127:=Tryz.isAgg277
 z127:=Tryz.sizeOf277
 v127:=Tryz.zeroValue277
 t143:=Tryz.underlying278
 a143:=Tryz.isAgg278
 z143:=Tryz.sizeOf278
 v143:=Tryz.zeroValue278
 t145:=Tryz.underlying280
 a145:=Tryz.isAgg280
 z145:=Tryz.sizeOf280
 v145:=Tryz.zeroValue280
 t167:=Tryz.underlying247
 a167:=Tryz.isAgg247
 z167:=Tryz.sizeOf247
 v167:=Tryz.zeroValue247
 t168:=Tryz.underlying250
 a168:=Tryz.isAgg250
 z168:=Tryz.sizeOf250
 v168:=Tryz.zeroValue250
 t171:=Tryz.underlying224
 a171:=Tryz.isAgg224
 z171:=Tryz.sizeOf224
 v171:=Tryz.zeroValue224
 t173:=Tryz.underlying227
 a173:=Tryz.isAgg227
 z173:=Tryz.sizeOf227
 v173:=Tryz.zeroValue227
 t175:=Tryz.underlying259
 a175:=Tryz.isAgg259
 z175:=Tryz.sizeOf259
 v175:=Tryz.zeroValue259
 t210:=Tryz.underlying263
 a210:=Tryz.isAgg263
 z210:=Tryz.sizeOf263
 v210:=Tryz.zeroValue263
 t212:=Tryz.underlying245
 a212:=Tryz.isAgg245
 z212:=Tryz.sizeOf245
 v212:=Tryz.zeroValue245
 t213:=Tryz.underlying246
 a213:=Tryz.isAgg246
 z213:=Tryz.sizeOf246
 t232:=Tryz.underlying274
 a232:=Tryz.isAgg274
 z232:=Tryz.sizeOf274
 v232:=Tryz.zeroValue274
 t233:=Tryz.underlying275
 a233:=Tryz.isAgg275
 z233:=Tryz.sizeOf275
 v233:=Tryz.zeroValue275
 g15:=by kernel_rfl
 g16:=by kernel_rfl
 g17:=by kernel_rfl
 g18:=by kernel_rfl
 g19:=by kernel_rfl}
theorem y6c:LibOk env 181 qhv:=by
 intro vs hp v hp' hm X w args hH hA;unfold qhv at hm;split at hm
 .rename_i l;split at hm
  .rename_i n hn;split at hm
   .rename_i hlen;cases hm;have ha:args=#[args.getD 0 undef]:=by
     have hs:args.size=1:=hA.1;apply Array.ext;·exact hs
     .intro i h1 h2;rw[hs]at h1;obtain rfl:i=0:=by omega
      simp[Array.getD_eq_getD_getElem?,hs]
    rw[ha,q0t (show Rep w X.imm (.v (.string ⟨⟨l⟩⟩)) (args.getD 0 undef)from(hA.2 0 _ rfl).2)];refine(Go.Proofs.Any.strconv_Atoi y9y ⟨⟨l⟩⟩ n (by show l.length<=18;omega) hn w).mono ?_;rintro e w1⟨rfl,t,rfl⟩;have hg:∀e,w.grownBy (Go.Lib.bytesWorld w e t) none:=fun e=>qo7 (Go.Joins.below_bytesWorld w.heap.size w e t (Nat.le_refl _));refine⟨_,rfl,X,⟨[],by simp⟩,(hH.grown (hg _)).1,(hH.grown (hg _)).2,.inl ⟨⟨rfl,rfl,(fun _ e=>by cases e),_,rfl,rfl,fun i v hi=>?_⟩,rfl⟩⟩;match i,hi with|0,hi=>cases hi;exact⟨rfl,.v _ rfl⟩|1,hi=>cases hi;exact⟨rfl,trivial⟩
   .cases hm
  .cases hm
 .cases hm
end Go.Proofs.YtklhcnnpgkkjcaaGreatDoor
